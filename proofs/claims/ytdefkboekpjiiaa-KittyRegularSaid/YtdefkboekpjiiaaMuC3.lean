/- The code comes to what was worked out. -/
import Derived.Test.YtdefkboekpjiiaaMuDf
import Derived.Test.YtdefkboekpjiiaaMuPa
import Derived.Test.YtdefkboekpjiiaaMuC2
set_option linter.unusedVariables false
set_option linter.unnecessarySimpa false
set_option linter.unusedSimpArgs false
set_option maxHeartbeats 2000000
set_option maxRecDepth 10000
namespace Mu
open Go (IntKind BinOp UnOp)
theorem zj.ok {h : Hp} {t : List Int} {a : Zl} {b : Zl} {v_t : V} (s_t : Sl eInt h v_t t) {r : Int} (hp : zj t a b = some r) :
  ∃ u k', Is G 23 [v_t, .ag (Zc.c a), .ag (Zc.c b)] h u k' ∧ V.i .i64 r = u ∧ Own (fun r => r < h.n) h k' [] := by
 refine WC.is (WC_of G_F_muntinref15_Rot ?_)
 unfold zj at hp
 let B : Nat → Prop := (fun r => r < h.n)
 have hO : Own B h h [] := Own.start0 h
 refine W_sq (W_rg (zq (hO.boxd (v := .ag (Zc.c a)) (cs := Zc.c a) hO.fr rfl rfl) ?_))
 rintro _ k₁ ⟨r₁, rfl, n₁, f₁, hW⟩
 have hO₁ : Own B h k₁ [eBox r₁ (Zc.c a)] := hW
 refine zq (hO₁.boxd (v := .ag (Zc.c b)) (cs := Zc.c b) hO₁.fr rfl rfl) ?_
 rintro _ k₂ ⟨r₂, rfl, n₂, f₂, hW⟩
 have hO₂ : Own B h k₂ [eBox r₁ (Zc.c a), eBox r₂ (Zc.c b)] := hW
 refine Zb (a_mv (v := .i .i64 0) rfl) (Zh (Ze (W_sq (W_rg (Zb (a_mv (v := .sn) rfl) (Zh (Ze ?_)))))))
 refine W_sq (W_rg (Zb (a_mv (v := .i .i64 0) rfl) (Zh (Ze (W_sq (W_rg (Zb (a_mv (v := .i .i64 0) rfl) ?_)))))))
 refine Zh (Ze (W_sq (W_sq (W_rg (Zb (a_mv (v := .i .i64 0) rfl) (Zh (Ze ?_)))))))
 refine W_bl ?_
 obtain ⟨o₁, ho₁, hp⟩ := Zt hp
 refine W.mono (Q := fun e fr k => match (generalizing := false) o₁ with
   | (single1, from_1, to_1) => e = (.exit 0) ∧ ∃ (v₂ : V), fr 7 = v₂ ∧ fr 8 = .i .i64 from_1 ∧ fr 9 = .i .i64 to_1 ∧ Own B h k [eSl eInt v₂ single1]) ?_ ?_
 ·clear hp
  have hO₄ : Own B h k₂ [eBox r₁ (Zc.c a), eBox r₂ (Zc.c b), eSl eInt .sn ([] : List Int)] := hO₂.nil eInt
  refine z3 (fun st fr k => match st with | (single, from_, to_, i) => ∃ (v₁ : V), fr 0 = v_t ∧ fr 4 = .p r₁ 0 ∧ fr 5 = .p r₂ 0 ∧ fr 7 = v₁ ∧ fr 8 = .i .i64 from_ ∧ fr 9 = .i .i64 to_ ∧ fr 10 = .i .i64 i ∧ Own B h k [eBox r₁ (Zc.c a), eBox r₂ (Zc.c b), eSl eInt v₁ single]) ho₁ (s := (([] : List Int), 0, 0, 0)) (Exists.intro V.sn (And.intro (rfl) (And.intro (rfl) (And.intro (rfl) (And.intro (rfl) (And.intro (rfl) (And.intro (rfl) (And.intro (rfl) (hO₄.pick [0, 1, 2] rfl (by decide)))))))))) ?_
  rintro ⟨single, from_, to_, i⟩ q₂ k₄ ⟨v₁, q₂_0, q₂_4, q₂_5, q₂_7, q₂_8, q₂_9, q₂_10, hO₅⟩ o₂ hp
  dsimp only [zj.s0] at hp
  refine W_sq (W_sq (W_rg (Zb (a_mv (v := .i .i64 i) q₂_10) (Zb (a_mv (v := v_t) q₂_0) (Zb (a_len (hO₅.rd0 s_t.rd : Sl eInt k₄ v_t t) rfl) (Zb (a_lss (a := i) (b := (t.length : Int)) rfl rfl) (Zh ?_)))))))
  refine Ze ?_
  rcases Zv hp with ⟨b₁, hp⟩ | ⟨b₁, hp⟩
  ·refine W_cT (t := (decide (i < (t.length : Int)))) rfl b₁ ?_
   refine W_sk (Ze (W_sq (W_bl (W_sq (W_sq (W_rg (Zb (a_mv (v := .i .i64 i) q₂_10) ?_)))))))
   refine Zb (a_fa (r := r₁) (o := 0) (o' := 0) q₂_4 rfl) (Zb (Zaf (cs := (Zc.c a)) (v := .i .i64 a.At) (hO₅.box 0 rfl) rfl rfl) (Zb (a_eqI (a := i) (b := a.At) rfl rfl) (Zh (Ze ?_))))
   obtain ⟨o₃, ho₂, hp⟩ := Zt hp
   refine W.mono (Q := fun e fr k => match (generalizing := false) o₃ with
     | from_2 => e = .normal ∧ fr 0 = v_t ∧ fr 4 = .p r₁ 0 ∧ fr 5 = .p r₂ 0 ∧ fr 7 = v₁ ∧ fr 8 = .i .i64 from_2 ∧ fr 9 = .i .i64 to_ ∧ fr 10 = .i .i64 i ∧ Own B h k [eBox r₁ (Zc.c a), eBox r₂ (Zc.c b), eSl eInt v₁ single]) ?_ ?_
   ·clear hp; have hp := ho₂; clear ho₂
    rcases Zv hp with ⟨b₂, hp⟩ | ⟨b₂, hp⟩
    ·refine W_cT (t := (decide (i = a.At))) rfl b₂ ?_
     refine W_rg (Zb (a_mv (v := v₁) q₂_7) (Zb (a_len (hO₅.sl 2 rfl : Sl eInt k₄ v₁ single) rfl) (Zb (a_fa (r := r₁) (o := 0) (o' := 1) q₂_4 rfl) (Zb (Zaf (cs := (Zc.c a)) (v := .i .i64 a.Part) (hO₅.box 0 rfl) rfl rfl) ?_))))
     obtain ⟨c₁, hp⟩ := Zo hp
     refine Zb (a_add (a := (single.length : Int)) (b := a.Part) rfl rfl c₁) (Zb (a_mv (v := .i .i64 ((single.length : Int) + a.Part)) rfl) (Zh ?_))
     have hp := Option.some.inj hp; subst hp
     exact (And.intro rfl (And.intro (q₂_0) (And.intro (q₂_4) (And.intro (q₂_5) (And.intro (q₂_7) (And.intro (rfl) (And.intro (q₂_9) (And.intro (q₂_10) (hO₅.pick [0, 1, 2] rfl (by decide))))))))))
    ·refine W_cF (t := (decide (i = a.At))) rfl b₂ ?_
     refine W_sk ?_
     have hp := Option.some.inj hp; subst hp
     exact (And.intro rfl (And.intro (q₂_0) (And.intro (q₂_4) (And.intro (q₂_5) (And.intro (q₂_7) (And.intro (q₂_8) (And.intro (q₂_9) (And.intro (q₂_10) (hO₅.pick [0, 1, 2] rfl (by decide))))))))))
   intro e₂ q₃ k₅ hJ₂
   obtain ⟨from_2, rfl⟩ : ∃ x, x = o₃ := ⟨_, rfl⟩
   obtain ⟨rfl, q₃_0, q₃_4, q₃_5, q₃_7, q₃_8, q₃_9, q₃_10, hO₆⟩ := hJ₂
   refine Ze (W_sq (W_sq (W_rg (Zb (a_mv (v := .i .i64 i) q₃_10) (Zb (a_fa (r := r₂) (o := 0) (o' := 0) q₃_5 rfl) (Zb (Zaf (cs := (Zc.c b)) (v := .i .i64 b.At) (hO₆.box 1 rfl) rfl rfl) (Zb (a_eqI (a := i) (b := b.At) rfl rfl) ?_)))))))
   refine Zh (Ze ?_)
   obtain ⟨o₄, ho₃, hp⟩ := Zt hp
   refine W.mono (Q := fun e fr k => match (generalizing := false) o₄ with
     | to_2 => e = .normal ∧ fr 0 = v_t ∧ fr 4 = .p r₁ 0 ∧ fr 5 = .p r₂ 0 ∧ fr 7 = v₁ ∧ fr 8 = .i .i64 from_2 ∧ fr 9 = .i .i64 to_2 ∧ fr 10 = .i .i64 i ∧ Own B h k [eBox r₁ (Zc.c a), eBox r₂ (Zc.c b), eSl eInt v₁ single]) ?_ ?_
   ·clear hp; have hp := ho₃; clear ho₃
    rcases Zv hp with ⟨b₃, hp⟩ | ⟨b₃, hp⟩
    ·refine W_cT (t := (decide (i = b.At))) rfl b₃ ?_
     refine W_rg (Zb (a_mv (v := v₁) q₃_7) (Zb (a_len (hO₆.sl 2 rfl : Sl eInt k₅ v₁ single) rfl) (Zb (a_fa (r := r₂) (o := 0) (o' := 1) q₃_5 rfl) (Zb (Zaf (cs := (Zc.c b)) (v := .i .i64 b.Part) (hO₆.box 1 rfl) rfl rfl) ?_))))
     obtain ⟨c₂, hp⟩ := Zo hp
     refine Zb (a_add (a := (single.length : Int)) (b := b.Part) rfl rfl c₂) (Zb (a_mv (v := .i .i64 ((single.length : Int) + b.Part)) rfl) (Zh ?_))
     have hp := Option.some.inj hp; subst hp
     exact (And.intro rfl (And.intro (q₃_0) (And.intro (q₃_4) (And.intro (q₃_5) (And.intro (q₃_7) (And.intro (q₃_8) (And.intro (rfl) (And.intro (q₃_10) (hO₆.pick [0, 1, 2] rfl (by decide))))))))))
    ·refine W_cF (t := (decide (i = b.At))) rfl b₃ ?_
     refine W_sk ?_
     have hp := Option.some.inj hp; subst hp
     exact (And.intro rfl (And.intro (q₃_0) (And.intro (q₃_4) (And.intro (q₃_5) (And.intro (q₃_7) (And.intro (q₃_8) (And.intro (q₃_9) (And.intro (q₃_10) (hO₆.pick [0, 1, 2] rfl (by decide))))))))))
   intro e₃ q₄ k₆ hJ₃
   obtain ⟨to_2, rfl⟩ : ∃ x, x = o₄ := ⟨_, rfl⟩
   obtain ⟨rfl, q₄_0, q₄_4, q₄_5, q₄_7, q₄_8, q₄_9, q₄_10, hO₇⟩ := hJ₃
   refine Ze (W_sq (W_rg (Zb (a_mv (v := v_t) q₄_0) (Zb (a_mv (v := .i .i64 i) q₄_10) ?_))))
   obtain ⟨c₃, hp⟩ := Zo hp
   refine Zb (a_ixa (E := eInt) (z := i) (hO₇.rd0 s_t.rd : Sl eInt k₆ v_t t) rfl rfl c₃) (Zb (zH (w := .i .i64 (gi t (i : Int).toNat)) (hO₇.rd0 s_t.rd : Sl eInt k₆ v_t t) rfl (Zq c₃) rfl) (Zb (a_eqI (a := (gi t (i : Int).toNat)) (b := (-2)) rfl rfl) (Zh (Ze ?_))))
   rcases Zv hp with ⟨b₄, hp⟩ | ⟨b₄, hp⟩
   ·refine W_cT (t := (decide (gi t (i : Int).toNat = (-2)))) rfl b₄ ?_
    refine W_rg (Zb (a_mv (v := v₁) q₄_7) (zq (hO₇.bsl (E := eInt) (l := ([(-1), (-1)] : List Int)) hO₇.fr (by rw [(zc (v := .i .i64 (-1)) rfl (zc (v := .i .i64 (-1)) rfl ev_nil))]; rfl) rfl) ?_))
    rintro v₃ k₇ ⟨r₃, f₃, hW⟩
    have hO₈ : Own B h k₇ [eBox r₁ (Zc.c a), eBox r₂ (Zc.c b), eSl eInt v₁ single, eSl eInt v₃ ([(-1), (-1)] : List Int)] := hW
    obtain ⟨c₄, hp⟩ := Zo hp
    refine zq (hO₈.app (E := eInt) (bytes := 8) 2 hO₈.fr rfl (hO₈.sl 3 rfl : Sl eInt k₇ v₃ ([(-1), (-1)] : List Int)) rfl rfl (fun _ => rfl) c₄ (by decide)) ?_
    rintro v₄ k₈ ⟨f₄, hW⟩
    have hO₉ : Own B h k₈ [eBox r₁ (Zc.c a), eBox r₂ (Zc.c b), eSl eInt v₄ (single ++ ([(-1), (-1)] : List Int)), eSl eInt v₃ ([(-1), (-1)] : List Int)] := hW
    refine Zb (a_mv (v := v₄) rfl) (Zh (zL (Ze (W_rg (Zb (a_mv (v := .i .i64 i) q₄_10) ?_)))))
    obtain ⟨c₅, hp⟩ := Zo hp
    refine Zb (a_add (a := i) (b := 1) rfl rfl c₅) (Zb (a_mv (v := .i .i64 (i + 1)) rfl) (Zh ?_))
    have hp := Option.some.inj hp; subst hp
    exact (Or.inl (Exists.intro (single ++ ([(-1), (-1)] : List Int), from_2, to_2, i + 1) (And.intro rfl (And.intro rfl (Exists.intro v₄ (And.intro (q₄_0) (And.intro (q₄_4) (And.intro (q₄_5) (And.intro (rfl) (And.intro (q₄_8) (And.intro (q₄_9) (And.intro (rfl) (hO₉.pick [0, 1, 2] rfl (by decide))))))))))))))
   ·refine W_cF (t := (decide (gi t (i : Int).toNat = (-2)))) rfl b₄ ?_
    refine W_rg (Zb (a_mv (v := v₁) q₄_7) (Zb (a_mv (v := v_t) q₄_0) (Zb (a_mv (v := .i .i64 i) q₄_10) (Zb (a_ixa (E := eInt) (z := i) (hO₇.rd0 s_t.rd : Sl eInt k₆ v_t t) rfl rfl c₃) (Zb (zH (w := .i .i64 (gi t (i : Int).toNat)) (hO₇.rd0 s_t.rd : Sl eInt k₆ v_t t) rfl (Zq c₃) rfl) (zq (hO₇.bsl (E := eInt) (l := [gi t (i : Int).toNat]) hO₇.fr (by rw [(zc (v := .i .i64 (gi t (i : Int).toNat)) rfl ev_nil)]; rfl) rfl) ?_))))))
    rintro v₅ k₉ ⟨r₄, f₅, hW⟩
    have hO₁₀ : Own B h k₉ [eBox r₁ (Zc.c a), eBox r₂ (Zc.c b), eSl eInt v₁ single, eSl eInt v₅ [gi t (i : Int).toNat]] := hW
    obtain ⟨c₆, hp⟩ := Zo hp
    refine zq (hO₁₀.app (E := eInt) (bytes := 8) 2 hO₁₀.fr rfl (hO₁₀.sl 3 rfl : Sl eInt k₉ v₅ [gi t (i : Int).toNat]) rfl rfl (fun _ => rfl) c₆ (by decide)) ?_
    rintro v₆ k₁₀ ⟨f₆, hW⟩
    have hO₁₁ : Own B h k₁₀ [eBox r₁ (Zc.c a), eBox r₂ (Zc.c b), eSl eInt v₆ (single ++ [gi t (i : Int).toNat]), eSl eInt v₅ [gi t (i : Int).toNat]] := hW
    refine Zb (a_mv (v := v₆) rfl) (Zh (zL (Ze (W_rg (Zb (a_mv (v := .i .i64 i) q₄_10) ?_)))))
    obtain ⟨c₇, hp⟩ := Zo hp
    refine Zb (a_add (a := i) (b := 1) rfl rfl c₇) (Zb (a_mv (v := .i .i64 (i + 1)) rfl) (Zh ?_))
    have hp := Option.some.inj hp; subst hp
    exact (Or.inl (Exists.intro (single ++ [gi t (i : Int).toNat], from_2, to_2, i + 1) (And.intro rfl (And.intro rfl (Exists.intro v₆ (And.intro (q₄_0) (And.intro (q₄_4) (And.intro (q₄_5) (And.intro (rfl) (And.intro (q₄_8) (And.intro (q₄_9) (And.intro (rfl) (hO₁₁.pick [0, 1, 2] rfl (by decide))))))))))))))
  ·refine W_cF (t := (decide (i < (t.length : Int)))) rfl b₁ ?_
   refine W_ex (zC ?_)
   have hp := Option.some.inj hp; subst hp
   refine (Or.inr (Exists.intro (single, from_, to_) (And.intro rfl (And.intro (fun h => nomatch h) (fun he => ?_)))))
   subst he; exact (And.intro rfl (Exists.intro v₁ (And.intro (q₂_7) (And.intro (q₂_8) (And.intro (q₂_9) (hO₅.pick [2] rfl (by decide)))))))
 intro e₁ q₁ k₃ hJ₁
 obtain ⟨single1, from_1, to_1⟩ := o₁
 obtain ⟨rfl, v₂, q₁_7, q₁_8, q₁_9, hO₃⟩ := hJ₁
 refine zS (Ze (W_sq (W_rg (Zb (a_mv (v := .i .i64 0) rfl) (Zh (Ze (W_sq ?_)))))))
 refine W_sq (W_rg (Zb (a_mv (v := .i .i64 from_1) q₁_8) (Zb (a_mv (v := .i .i64 from_1) rfl) (Zh (Ze (W_bl ?_))))))
 obtain ⟨o₅, ho₄, hp⟩ := Zt hp
 refine W.mono (Q := fun e fr k => match (generalizing := false) o₅ with
   | sum1 => e = (.exit 2) ∧ fr 11 = .i .i64 sum1 ∧ Own B h k []) ?_ ?_
 ·clear hp
  refine z3 (fun st fr k => match st with | (sum, k_) => fr 7 = v₂ ∧ fr 9 = .i .i64 to_1 ∧ fr 11 = .i .i64 sum ∧ fr 12 = .i .i64 k_ ∧ Own B h k [eSl eInt v₂ single1]) ho₄ (s := (0, from_1)) (And.intro (q₁_7) (And.intro (q₁_9) (And.intro (rfl) (And.intro (rfl) (hO₃.pick [0] rfl (by decide)))))) ?_
  rintro ⟨sum, k_⟩ q₆ k₁₂ ⟨q₆_7, q₆_9, q₆_11, q₆_12, hO₁₃⟩ o₆ hp
  dsimp only [zj.s1] at hp
  refine W_sq (W_sq (W_rg (Zb (a_mv (v := .i .i64 k_) q₆_12) (Zb (a_mv (v := .i .i64 to_1) q₆_9) (Zb (a_neI (a := k_) (b := to_1) rfl rfl) (Zh (Ze ?_)))))))
  rcases Zv hp with ⟨b₅, hp⟩ | ⟨b₅, hp⟩
  ·refine W_cT (t := (!(decide (k_ = to_1)))) rfl b₅ ?_
   refine W_sk (Ze (W_sq (W_bl (W_rg (Zb (a_mv (v := .i .i64 sum) q₆_11) (Zb (a_mv (v := v₂) q₆_7) (Zb (a_mv (v := .i .i64 k_) q₆_12) ?_)))))))
   obtain ⟨c₈, hp⟩ := Zo hp
   refine Zb (a_ixa (E := eInt) (z := k_) (hO₁₃.sl 0 rfl : Sl eInt k₁₂ v₂ single1) rfl rfl c₈) (Zb (zH (w := .i .i64 (gi single1 (k_ : Int).toNat)) (hO₁₃.sl 0 rfl : Sl eInt k₁₂ v₂ single1) rfl (Zq c₈) rfl) ?_)
   obtain ⟨c₉, hp⟩ := Zo hp
   refine Zb (a_add (a := sum) (b := (gi single1 (k_ : Int).toNat)) rfl rfl c₉) (Zb (a_mv (v := .i .i64 (sum + (gi single1 (k_ : Int).toNat))) rfl) (Zh (zL (Ze (W_rg (Zb (a_mv (v := .i .i64 k_) q₆_12) ?_))))))
   obtain ⟨c₁₀, hp⟩ := Zo hp
   refine Zb (a_add (a := k_) (b := 1) rfl rfl c₁₀) (Zb (a_mv (v := v₂) q₆_7) (Zb (a_len (hO₁₃.sl 0 rfl : Sl eInt k₁₂ v₂ single1) rfl) ?_))
   obtain ⟨c₁₁, hp⟩ := Zo hp
   refine Zb (a_rem (a := (k_ + 1)) (b := (single1.length : Int)) rfl rfl c₁₁) (Zb (a_mv (v := .i .i64 ((k_ + 1).tmod (single1.length : Int))) rfl) (Zh ?_))
   have hp := Option.some.inj hp; subst hp
   exact (Or.inl (Exists.intro (sum + (gi single1 (k_ : Int).toNat), (k_ + 1).tmod (single1.length : Int)) (And.intro rfl (And.intro rfl (And.intro (q₆_7) (And.intro (q₆_9) (And.intro (rfl) (And.intro (rfl) (hO₁₃.pick [0] rfl (by decide))))))))))
  ·refine W_cF (t := (!(decide (k_ = to_1)))) rfl b₅ ?_
   refine W_ex (zC ?_)
   have hp := Option.some.inj hp; subst hp
   refine (Or.inr (Exists.intro sum (And.intro rfl (And.intro (fun h => nomatch h) (fun he => ?_)))))
   subst he; exact (And.intro rfl (And.intro (q₆_11) (hO₁₃.pick [] rfl (by decide))))
 intro e₄ q₅ k₁₁ hJ₄
 obtain ⟨sum1, rfl⟩ : ∃ x, x = o₅ := ⟨_, rfl⟩
 obtain ⟨rfl, q₅_11, hO₁₂⟩ := hJ₄
 refine zS (Ze (W_sq (W_rg (Zb (a_mv (v := .i .i64 sum1) q₅_11) (Zb (a_mv (v := .i .i64 sum1) rfl) (Zh (Ze ?_)))))))
 refine W_rt (Ret_r (rs_t (n := 6) (v := .i .i64 sum1) rfl rs_nil) ?_)
 have hp := Option.some.inj hp; subst hp
 exact (And.intro rfl (hO₁₂.pick [] rfl (by decide)))

theorem zf.ok {h : Hp} {t : List Int} {v_t : V} (s_t : Sl eInt h v_t t) {r : Zl × Zl × Bool} (hp : zf t = some r) :
  ∃ u k', Is G 25 [v_t] h u k' ∧ V.tu [.ag (Zc.c r.1), .ag (Zc.c r.2.1), .b r.2.2] = u ∧ Own (fun r => r < h.n) h k' [] := by
 refine WC.is (WC_of G_F_muntinref15_Pair ?_)
 unfold zf at hp
 let B : Nat → Prop := (fun r => r < h.n)
 have hO : Own B h h [] := Own.start0 h
 refine W_sq (W_rg (zq (hO.alloc (cs := Zc.c (⟨0, 0⟩ : Zl)) hO.fr) ?_))
 rintro _ k₁ ⟨r₁, rfl, n₁, f₁, hW⟩
 have hO₁ : Own B h k₁ [eBox r₁ (Zc.c (⟨0, 0⟩ : Zl))] := hW
 refine zq (hO₁.alloc (cs := Zc.c (⟨0, 0⟩ : Zl)) hO₁.fr) ?_
 rintro _ k₂ ⟨r₂, rfl, n₂, f₂, hW⟩
 have hO₂ : Own B h k₂ [eBox r₁ (Zc.c (⟨0, 0⟩ : Zl)), eBox r₂ (Zc.c (⟨0, 0⟩ : Zl))] := hW
 refine Zb (a_mv (v := .b false) rfl) (Zh (Ze (W_sq (W_rg (Zb (a_mv (v := v_t) rfl) ?_)))))
 obtain ⟨x, hx₁, hp⟩ := Zt hp
 obtain ⟨u₁, k₃, ca₁, v₁, rfl, hW₁⟩ := zw.ok (h := k₂)  (hO₂.rd0 s_t.rd : Sl eInt k₂ v_t t) hx₁
 refine Zaj (id := 20) (caps := []) rfl (Z7 (v := v_t) rfl zl) ca₁ ?_
 have hO₃ : Own B h k₃ [eBox r₁ (Zc.c (⟨0, 0⟩ : Zl)), eBox r₂ (Zc.c (⟨0, 0⟩ : Zl)), eSl Zc v₁ x] := hO₂.call hW₁ rfl
 refine Zb (a_mv (v := v₁) rfl) (Zh (Ze (W_sq (W_sq (W_rg (Zb (a_mv (v := .i .i64 0) rfl) (Zh ?_)))))))
 refine Ze (W_bl ?_)
 obtain ⟨o₁, ho₁, hp⟩ := Zt hp
 refine W.mono (Q := fun e fr k => match (generalizing := false) o₁ with
   | .inl _ => e = (.exit 0) ∧ fr 2 = .p r₁ 0 ∧ fr 3 = .p r₂ 0 ∧ Own B h k [eBox r₁ (Zc.c (⟨0, 0⟩ : Zl)), eBox r₂ (Zc.c (⟨0, 0⟩ : Zl))]
   | .inr (x1, x2) => e = .ret ∧ fr 2 = .p r₁ 0 ∧ fr 3 = .p r₂ 0 ∧ fr 4 = .b true ∧ Own B h k [eBox r₁ (Zc.c x1), eBox r₂ (Zc.c x2)]) ?_ ?_
 ·clear hp
  refine z3 (fun st fr k => match st with | i => fr 0 = v_t ∧ fr 2 = .p r₁ 0 ∧ fr 3 = .p r₂ 0 ∧ fr 5 = v₁ ∧ fr 6 = .i .i64 i ∧ Own B h k [eBox r₁ (Zc.c (⟨0, 0⟩ : Zl)), eBox r₂ (Zc.c (⟨0, 0⟩ : Zl)), eSl Zc v₁ x]) ho₁ (s := 0) (And.intro (rfl) (And.intro (rfl) (And.intro (rfl) (And.intro (rfl) (And.intro (rfl) (hO₃.pick [0, 1, 2] rfl (by decide))))))) ?_
  rintro i q₂ k₅ ⟨q₂_0, q₂_2, q₂_3, q₂_5, q₂_6, hO₅⟩ o₂ hp
  dsimp only [zf.s0] at hp
  refine W_sq (W_sq (W_rg (Zb (a_mv (v := .i .i64 i) q₂_6) (Zb (a_mv (v := v₁) q₂_5) (Zb (a_len (hO₅.sl 2 rfl : Sl Zc k₅ v₁ x) rfl) (Zb (a_lss (a := i) (b := (x.length : Int)) rfl rfl) (Zh ?_)))))))
  refine Ze ?_
  rcases Zv hp with ⟨b₁, hp⟩ | ⟨b₁, hp⟩
  ·refine W_cT (t := (decide (i < (x.length : Int)))) rfl b₁ ?_
   refine W_sk (Ze (W_sq (W_bl (W_sq (W_rg (Zb (a_mv (v := .i .i64 0) rfl) (Zh ?_)))))))
   refine Ze (W_bl ?_)
   obtain ⟨o₃, ho₂, hp⟩ := Zt hp
   refine W.mono (Q := fun e fr k => match (generalizing := false) o₃ with
     | .inl _ => e = (.exit 2) ∧ fr 0 = v_t ∧ fr 2 = .p r₁ 0 ∧ fr 3 = .p r₂ 0 ∧ fr 5 = v₁ ∧ fr 6 = .i .i64 i ∧ Own B h k [eBox r₁ (Zc.c (⟨0, 0⟩ : Zl)), eBox r₂ (Zc.c (⟨0, 0⟩ : Zl)), eSl Zc v₁ x]
     | .inr x3 => e = .ret ∧ fr 2 = .p r₁ 0 ∧ fr 3 = .p r₂ 0 ∧ fr 4 = .b true ∧ Own B h k [eBox r₁ (Zc.c (gi x (i : Int).toNat)), eBox r₂ (Zc.c x3)]) ?_ ?_
   ·clear hp
    refine z3 (fun st fr k => match st with | k_ => fr 0 = v_t ∧ fr 2 = .p r₁ 0 ∧ fr 3 = .p r₂ 0 ∧ fr 5 = v₁ ∧ fr 6 = .i .i64 i ∧ fr 7 = .i .i64 k_ ∧ Own B h k [eBox r₁ (Zc.c (⟨0, 0⟩ : Zl)), eBox r₂ (Zc.c (⟨0, 0⟩ : Zl)), eSl Zc v₁ x]) ho₂ (s := 0) (And.intro (q₂_0) (And.intro (q₂_2) (And.intro (q₂_3) (And.intro (q₂_5) (And.intro (q₂_6) (And.intro (rfl) (hO₅.pick [0, 1, 2] rfl (by decide)))))))) ?_
    rintro k_ q₄ k₇ ⟨q₄_0, q₄_2, q₄_3, q₄_5, q₄_6, q₄_7, hO₇⟩ o₄ hp
    dsimp only [zf.s1] at hp
    refine W_sq (W_sq (W_rg (Zb (a_mv (v := .i .i64 k_) q₄_7) (Zb (a_mv (v := v₁) q₄_5) (Zb (a_len (hO₇.sl 2 rfl : Sl Zc k₇ v₁ x) rfl) (Zb (a_lss (a := k_) (b := (x.length : Int)) rfl rfl) (Zh ?_)))))))
    refine Ze ?_
    rcases Zv hp with ⟨b₂, hp⟩ | ⟨b₂, hp⟩
    ·refine W_cT (t := (decide (k_ < (x.length : Int)))) rfl b₂ ?_
     refine W_sk (Ze (W_sq (W_bl (W_sq (W_dr ?_)))))
     have hW := hO₇.bump 11
     have fr₁ := Fresh.start k₇ 11
     have nb₁ : ∀ {i : Nat}, h.n ≤ k₇.n + i := Nat.le_trans hO₇.n (Nat.le_add_right _ _)
     have hO₈ : Own B h (k₇.bump 11) [eBox r₁ (Zc.c (⟨0, 0⟩ : Zl)), eBox r₂ (Zc.c (⟨0, 0⟩ : Zl)), eSl Zc v₁ x] := hW
     refine zM (a_mv (v := v_t) q₄_0) (zM (a_mv (v := v₁) q₄_5) (zM (a_mv (v := .i .i64 i) q₄_6) ?_))
     obtain ⟨c₁, hp⟩ := Zo hp
     refine zM (a_ixa (E := Zc) (z := i) (hO₈.sl 2 rfl : Sl Zc (k₇.bump 11) v₁ x) rfl rfl c₁) (zM (ZaL (E := Zc) (hO₈.sl 2 rfl : Sl Zc (k₇.bump 11) v₁ x) rfl (Zq c₁)) (zM (a_mv (v := v₁) q₄_5) (zM (a_mv (v := .i .i64 k_) q₄_7) ?_)))
     obtain ⟨c₂, hp⟩ := Zo hp
     refine zM (a_ixa (E := Zc) (z := k_) (hO₈.sl 2 rfl : Sl Zc (k₇.bump 11) v₁ x) rfl rfl c₂) (zM (ZaL (E := Zc) (hO₈.sl 2 rfl : Sl Zc (k₇.bump 11) v₁ x) rfl (Zq c₂)) ?_)
     obtain ⟨x4, hx₂, hp⟩ := Zt hp
     obtain ⟨u₂, k₉, ca₂, rfl, hW₂⟩ := zj.ok (h := (k₇.bump 11))  (hO₈.rd0 s_t.rd : Sl eInt (k₇.bump 11) v_t t) hx₂
     refine WD_c (id := 23) (caps := []) rfl (Z7 (v := v_t) rfl (Z7 (v := .ag (Zc.c (gi x (i : Int).toNat))) rfl (Z7 (v := .ag (Zc.c (gi x (k_ : Int).toNat))) rfl zl))) ca₂ ?_
     have fr₂ := fr₁.call hW₂
     have hO₉ : Own B h k₉ [eBox r₁ (Zc.c (⟨0, 0⟩ : Zl)), eBox r₂ (Zc.c (⟨0, 0⟩ : Zl)), eSl Zc v₁ x] := hO₈.call hW₂ rfl
     refine zM (a_mv (v := .i .i64 x4) rfl) (WD_end ?_)
     refine And.intro ?_ ?_
     ·intro q hq
      simp only [List.mem_cons, List.not_mem_nil, or_false] at hq
      rcases hq with rfl
      ·refine ap_ll ?_ ?_
       ·exact (fun h => nomatch h)
       ·exact (fun h => nomatch h)
     refine Ze (W_sq (W_rg (Zb (a_mv (v := .i .i64 x4) rfl) (Zb (a_eqI (a := x4) (b := 2) rfl rfl) (Zh (Ze ?_))))))
     rcases Zv hp with ⟨b₃, hp⟩ | ⟨b₃, hp⟩
     ·refine W_cT (t := (decide (x4 = 2))) rfl b₃ ?_
      refine W_sq (W_dr ?_)
      have hW := hO₉.bump 11
      have fr₃ := Fresh.start k₉ 11
      have nb₂ : ∀ {i : Nat}, h.n ≤ k₉.n + i := Nat.le_trans hO₉.n (Nat.le_add_right _ _)
      have hO₁₀ : Own B h (k₉.bump 11) [eBox r₁ (Zc.c (⟨0, 0⟩ : Zl)), eBox r₂ (Zc.c (⟨0, 0⟩ : Zl)), eSl Zc v₁ x] := hW
      refine zM (a_mv (v := v₁) q₄_5) (zM (a_mv (v := .i .i64 i) q₄_6) (zM (a_ixa (E := Zc) (z := i) (hO₁₀.sl 2 rfl : Sl Zc (k₉.bump 11) v₁ x) rfl rfl c₁) (zM (ZaL (E := Zc) (hO₁₀.sl 2 rfl : Sl Zc (k₉.bump 11) v₁ x) rfl (Zq c₁)) (zM (a_mv (v := v₁) q₄_5) (zM (a_mv (v := .i .i64 k_) q₄_7) (zM (a_ixa (E := Zc) (z := k_) (hO₁₀.sl 2 rfl : Sl Zc (k₉.bump 11) v₁ x) rfl rfl c₂) (zM (ZaL (E := Zc) (hO₁₀.sl 2 rfl : Sl Zc (k₉.bump 11) v₁ x) rfl (Zq c₂)) ?_)))))))
      refine ZaR (hO₁₀.stb (ws := Zc.c (gi x (i : Int).toNat)) (cs' := Zc.c (gi x (i : Int).toNat)) (v := .ag (Zc.c (gi x (i : Int).toNat))) 0 rfl q₄_2 rfl rfl ⟨rfl, Nat.le_of_ble_eq_true rfl, rfl⟩ rfl) ?_
      rintro _ k₁₁ z₁ ⟨rfl, f₃, m₁, hW⟩
      have fr₄ := fr₃.kept f₃ (by decide)
      have hO₁₁ : Own B h k₁₁ [eBox r₁ (Zc.c (gi x (i : Int).toNat)), eBox r₂ (Zc.c (⟨0, 0⟩ : Zl)), eSl Zc v₁ x] := hW
      refine ZaR (hO₁₁.stb (ws := Zc.c (gi x (k_ : Int).toNat)) (cs' := Zc.c (gi x (k_ : Int).toNat)) (v := .ag (Zc.c (gi x (k_ : Int).toNat))) 1 rfl q₄_3 rfl rfl ⟨rfl, Nat.le_of_ble_eq_true rfl, rfl⟩ rfl) ?_
      rintro _ k₁₂ z₂ ⟨rfl, f₄, m₂, hW⟩
      have fr₅ := fr₄.kept f₄ (by decide)
      have hO₁₂ : Own B h k₁₂ [eBox r₁ (Zc.c (gi x (i : Int).toNat)), eBox r₂ (Zc.c (gi x (k_ : Int).toNat)), eSl Zc v₁ x] := hW
      refine zM (a_mv (v := .b true) rfl) (WD_end ?_)
      refine And.intro ?_ ?_
      ·intro q hq
       simp only [List.mem_cons, List.not_mem_nil, or_false] at hq
       rcases hq with rfl | rfl
       ·refine ap_ll ?_ ?_
        ·exact (fun h => nomatch h)
        ·exact (fun h => nomatch h)
       ·refine ap_oo ?_ ?_ ?_
        ·exact (fun r h1 h2 => hO₉.apartAt (i := 2) (j := 0) rfl rfl (by decide) r (refs_elt (tch (v := V.elt v₁ (k_ : Int).toNat 0) (ZaM h1) rfl)) (tch (v := V.p r₁ 0) (ZaT h2) q₄_2))
        ·exact (fun h => nomatch h)
        ·exact (fun _ hm => Nat.lt_irrefl _ (Nat.lt_of_lt_of_le (hO₉.ltAt 2 rfl _ (refs_elt (tch (v := V.elt v₁ (k_ : Int).toNat 0) (ZaM hm) rfl))) (Nat.le_add_right _ _)))
      refine Ze (W_rt (Zak (zy ?_)))
      have hp := Option.some.inj hp; subst hp
      refine (Or.inr (Exists.intro (.inr (gi x (k_ : Int).toNat)) (And.intro rfl (And.intro (fun h => nomatch h) (fun he => ?_)))))
      subst he; exact (And.intro rfl (And.intro (q₄_2) (And.intro (q₄_3) (And.intro (rfl) (hO₁₂.pick [0, 1] rfl (by decide))))))
     ·refine W_cF (t := (decide (x4 = 2))) rfl b₃ ?_
      refine W_sk (zL (Ze (W_rg (Zb (a_mv (v := .i .i64 k_) q₄_7) ?_))))
      obtain ⟨c₃, hp⟩ := Zo hp
      refine Zb (a_add (a := k_) (b := 1) rfl rfl c₃) (Zb (a_mv (v := .i .i64 (k_ + 1)) rfl) (Zh ?_))
      have hp := Option.some.inj hp; subst hp
      exact (Or.inl (Exists.intro (k_ + 1) (And.intro rfl (And.intro rfl (And.intro (q₄_0) (And.intro (q₄_2) (And.intro (q₄_3) (And.intro (q₄_5) (And.intro (q₄_6) (And.intro (rfl) (hO₉.pick [0, 1, 2] rfl (by decide))))))))))))
    ·refine W_cF (t := (decide (k_ < (x.length : Int)))) rfl b₂ ?_
     refine W_ex (zC ?_)
     have hp := Option.some.inj hp; subst hp
     refine (Or.inr (Exists.intro (.inl ()) (And.intro rfl (And.intro (fun h => nomatch h) (fun he => ?_)))))
     subst he; exact (And.intro rfl (And.intro (q₄_0) (And.intro (q₄_2) (And.intro (q₄_3) (And.intro (q₄_5) (And.intro (q₄_6) (hO₇.pick [0, 1, 2] rfl (by decide))))))))
   intro e₂ q₃ k₆ hJ₂
   rcases o₃ with _ | x3
   ·obtain ⟨rfl, q₃_0, q₃_2, q₃_3, q₃_5, q₃_6, hO₆⟩ := hJ₂
    refine zS (zL (Ze (W_rg (Zb (a_mv (v := .i .i64 i) q₃_6) ?_))))
    obtain ⟨c₄, hp⟩ := Zo hp
    refine Zb (a_add (a := i) (b := 1) rfl rfl c₄) (Zb (a_mv (v := .i .i64 (i + 1)) rfl) (Zh ?_))
    have hp := Option.some.inj hp; subst hp
    exact (Or.inl (Exists.intro (i + 1) (And.intro rfl (And.intro rfl (And.intro (q₃_0) (And.intro (q₃_2) (And.intro (q₃_3) (And.intro (q₃_5) (And.intro (rfl) (hO₆.pick [0, 1, 2] rfl (by decide)))))))))))
   ·obtain ⟨rfl, q₃_2, q₃_3, q₃_4, hO₆⟩ := hJ₂
    refine Zak (Zak (zy ?_))
    have hp := Option.some.inj hp; subst hp
    refine (Or.inr (Exists.intro (.inr (gi x (i : Int).toNat, x3)) (And.intro rfl (And.intro (fun h => nomatch h) (fun he => ?_)))))
    subst he; exact (And.intro rfl (And.intro (q₃_2) (And.intro (q₃_3) (And.intro (q₃_4) (hO₆.pick [0, 1] rfl (by decide))))))
  ·refine W_cF (t := (decide (i < (x.length : Int)))) rfl b₁ ?_
   refine W_ex (zC ?_)
   have hp := Option.some.inj hp; subst hp
   refine (Or.inr (Exists.intro (.inl ()) (And.intro rfl (And.intro (fun h => nomatch h) (fun he => ?_)))))
   subst he; exact (And.intro rfl (And.intro (q₂_2) (And.intro (q₂_3) (hO₅.pick [0, 1] rfl (by decide)))))
 intro e₁ q₁ k₄ hJ₁
 rcases o₁ with _ | ⟨x1, x2⟩
 ·obtain ⟨rfl, q₁_2, q₁_3, hO₄⟩ := hJ₁
  refine zS (Ze (W_sq (W_rg (Zb (Zaw (cs := Zc.c (⟨(0 : Int), (0 : Int)⟩ : Zl)) (by rw [ev_nil]; rfl)) (Zb (Zaw (cs := Zc.c (⟨(0 : Int), (0 : Int)⟩ : Zl)) (by rw [ev_nil]; rfl)) (zq (hO₄.stb (ws := Zc.c (⟨(0 : Int), (0 : Int)⟩ : Zl)) (cs' := Zc.c (⟨(0 : Int), (0 : Int)⟩ : Zl)) (v := .ag (Zc.c (⟨(0 : Int), (0 : Int)⟩ : Zl))) 0 rfl q₁_2 rfl rfl ⟨rfl, Nat.le_of_ble_eq_true rfl, rfl⟩ rfl) ?_))))))
  rintro _ k₁₃ ⟨rfl, f₅, m₃, hW⟩
  have hO₁₃ : Own B h k₁₃ [eBox r₁ (Zc.c (⟨(0 : Int), (0 : Int)⟩ : Zl)), eBox r₂ (Zc.c (⟨0, 0⟩ : Zl))] := hW
  refine zq (hO₁₃.stb (ws := Zc.c (⟨(0 : Int), (0 : Int)⟩ : Zl)) (cs' := Zc.c (⟨(0 : Int), (0 : Int)⟩ : Zl)) (v := .ag (Zc.c (⟨(0 : Int), (0 : Int)⟩ : Zl))) 1 rfl q₁_3 rfl rfl ⟨rfl, Nat.le_of_ble_eq_true rfl, rfl⟩ rfl) ?_
  rintro _ k₁₄ ⟨rfl, f₆, m₄, hW⟩
  have hO₁₄ : Own B h k₁₄ [eBox r₁ (Zc.c (⟨(0 : Int), (0 : Int)⟩ : Zl)), eBox r₂ (Zc.c (⟨(0 : Int), (0 : Int)⟩ : Zl))] := hW
  refine Zb (a_mv (v := .b false) rfl) (Zh (Ze (W_rt (Ret_r (rs_c (n := 2) (v := .ag (Zc.c (⟨(0 : Int), (0 : Int)⟩ : Zl))) (r := r₁) q₁_2 (hO₁₄.box 0 rfl) rfl (rs_c (n := 3) (v := .ag (Zc.c (⟨(0 : Int), (0 : Int)⟩ : Zl))) (r := r₂) q₁_3 (hO₁₄.box 1 rfl) rfl (rs_t (n := 4) (v := .b false) rfl rs_nil))) ?_))))
  have hp := Option.some.inj hp; subst hp
  exact (And.intro rfl (hO₁₄.pick [] rfl (by decide)))
 ·obtain ⟨rfl, q₁_2, q₁_3, q₁_4, hO₄⟩ := hJ₁
  refine Zak (zy (Ret_r (rs_c (n := 2) (v := .ag (Zc.c x1)) (r := r₁) q₁_2 (hO₄.box 0 rfl) rfl (rs_c (n := 3) (v := .ag (Zc.c x2)) (r := r₂) q₁_3 (hO₄.box 1 rfl) rfl (rs_t (n := 4) (v := .b true) q₁_4 rs_nil))) ?_))
  have hp := Option.some.inj hp; subst hp
  exact (And.intro rfl (hO₄.pick [] rfl (by decide)))

theorem zJ.ok {h : Hp} {s : List Zd} {v : Zd} {v_s : V} (s_s : Sl Za h v_s s) {r : Int} (hp : zJ s v = some r) :
  ∃ u k', Is G 81 [v_s, .ag (Za.c v)] h u k' ∧ V.i .i64 r = u ∧ Own (fun r => r < h.n) h k' [] := by
 refine WC.is (WC_of G_F_slices_Index_kitty_Corner ?_)
 unfold zJ at hp
 let B : Nat → Prop := (fun r => r < h.n)
 have hO : Own B h h [] := Own.start0 h
 refine W_sq (W_rg (zq (hO.boxd (v := .ag (Za.c v)) (cs := Za.c v) hO.fr rfl rfl) ?_))
 rintro _ k₁ ⟨r₁, rfl, n₁, f₁, hW⟩
 have hO₁ : Own B h k₁ [eBox r₁ (Za.c v)] := hW
 refine Zb (a_mv (v := .i .i64 0) rfl) (Zh (Ze (W_sq (W_sq (W_rg (Zb (a_mv (v := v_s) rfl) (Zb (a_len (hO₁.rd0 s_s.rd : Sl Za k₁ v_s s) rfl) ?_)))))))
 refine Zb (a_mv (v := .i .i64 0) rfl) (Zh (Ze (W_bl ?_)))
 obtain ⟨o₁, ho₁, hp⟩ := Zt hp
 refine W.mono (Q := fun e fr k => match (generalizing := false) o₁ with
   | .inl _ => e = (.exit 0) ∧ Own B h k []
   | .inr x1 => e = .ret ∧ fr 4 = .i .i64 x1 ∧ Own B h k []) ?_ ?_
 ·clear hp
  refine z3 (fun st fr k => match st with | x => fr 0 = v_s ∧ fr 3 = .p r₁ 0 ∧ fr 7 = .i .i64 (s.length : Int) ∧ fr 8 = .i .i64 x ∧ Own B h k [eBox r₁ (Za.c v)]) ho₁ (s := 0) (And.intro (rfl) (And.intro (rfl) (And.intro (rfl) (And.intro (rfl) (hO₁.pick [0] rfl (by decide)))))) ?_
  rintro x q₂ k₃ ⟨q₂_0, q₂_3, q₂_7, q₂_8, hO₃⟩ o₂ hp
  dsimp only [zJ.s0] at hp
  refine W_sq (W_rg (Zb (a_lss (a := x) (b := (s.length : Int)) q₂_8 q₂_7) (Zh (Ze (W_sq ?_)))))
  rcases Zv hp with ⟨b₁, hp⟩ | ⟨b₁, hp⟩
  ·refine W_cT (t := (decide (x < (s.length : Int)))) rfl b₁ ?_
   refine W_sk (Ze (W_sq (W_bl (W_sq (W_rg (Zb (a_mv (v := .i .i64 x) q₂_8) (Zb (a_mv (v := .i .i64 x) rfl) ?_)))))))
   refine Zh (Ze (W_sq (W_qd ?_)))
   have hW := hO₃.bump 6
   have hO₄ : Own B h (k₃.bump 6) [eBox r₁ (Za.c v)] := hW
   refine Z8 rfl (a_ldbA (cs := (Za.c v)) (ws := Za.c v) (hO₄.box 0 rfl) q₂_3 rfl) (Z8 rfl (a_mv (v := v_s) q₂_0) (Z8 rfl (a_mv (v := .i .i64 x) rfl) ?_))
   obtain ⟨c₁, hp⟩ := Zo hp
   refine Z8 rfl (a_ixa (E := Za) (z := x) (hO₄.rd0 s_s.rd : Sl Za (k₃.bump 6) v_s s) rfl rfl c₁) (Z8 rfl (ZaL (E := Za) (hO₄.rd0 s_s.rd : Sl Za (k₃.bump 6) v_s s) rfl (Zq c₁)) (Z8 rfl (a_eqA (as := Za.c v) (bs := Za.c (gi s (x : Int).toNat)) rfl rfl (Mu.Za.same _ _)) (zQ (Ze ?_))))
   rcases Zv hp with ⟨b₂, hp⟩ | ⟨b₂, hp⟩
   ·refine W_cT (t := (decide (v = gi s (x : Int).toNat))) rfl b₂ ?_
    refine W_sq (W_rg (Zb (a_mv (v := .i .i64 x) rfl) (Zb (a_mv (v := .i .i64 x) rfl) (Zh (Ze (W_rt (Zak ?_)))))))
    refine zy ?_
    have hp := Option.some.inj hp; subst hp
    refine (Or.inr (Exists.intro (.inr x) (And.intro rfl (And.intro (fun h => nomatch h) (fun he => ?_)))))
    subst he; exact (And.intro rfl (And.intro (rfl) (hO₄.pick [] rfl (by decide))))
   ·refine W_cF (t := (decide (v = gi s (x : Int).toNat))) rfl b₂ ?_
    refine W_sk (zL (Ze (W_rg ?_)))
    obtain ⟨c₂, hp⟩ := Zo hp
    refine Zb (a_add (a := x) (b := 1) q₂_8 rfl c₂) (Zb (a_mv (v := .i .i64 (x + 1)) rfl) (Zh ?_))
    have hp := Option.some.inj hp; subst hp
    exact (Or.inl (Exists.intro (x + 1) (And.intro rfl (And.intro rfl (And.intro (q₂_0) (And.intro (q₂_3) (And.intro (q₂_7) (And.intro (rfl) (hO₄.pick [0] rfl (by decide))))))))))
  ·refine W_cF (t := (decide (x < (s.length : Int)))) rfl b₁ ?_
   refine W_ex (zC ?_)
   have hp := Option.some.inj hp; subst hp
   refine (Or.inr (Exists.intro (.inl ()) (And.intro rfl (And.intro (fun h => nomatch h) (fun he => ?_)))))
   subst he; exact (And.intro rfl (hO₃.pick [] rfl (by decide)))
 intro e₁ q₁ k₂ hJ₁
 rcases o₁ with _ | x1
 ·obtain ⟨rfl, hO₂⟩ := hJ₁
  refine zS (Ze (W_sq (W_rg (Zb (a_mv (v := .i .i64 (-1)) rfl) (Zh (Ze (W_rt ?_)))))))
  refine Ret_r (rs_t (n := 4) (v := .i .i64 (-1)) rfl rs_nil) ?_
  have hp := Option.some.inj hp; subst hp
  exact (And.intro rfl (hO₂.pick [] rfl (by decide)))
 ·obtain ⟨rfl, q₁_4, hO₂⟩ := hJ₁
  refine Zak (zy (Ret_r (rs_t (n := 4) (v := .i .i64 x1) q₁_4 rs_nil) ?_))
  have hp := Option.some.inj hp; subst hp
  exact (And.intro rfl (hO₂.pick [] rfl (by decide)))

theorem zK.ok {h : Hp} {s : List Zd} {v : Zd} {v_s : V} (s_s : Sl Za h v_s s) {r : Bool} (hp : zK s v = some r) :
  ∃ u k', Is G 60 [v_s, .ag (Za.c v)] h u k' ∧ V.b r = u ∧ Own (fun r => r < h.n) h k' [] := by
 refine WC.is (WC_of G_F_slices_Contains_kitty_Corner ?_)
 unfold zK at hp
 let B : Nat → Prop := (fun r => r < h.n)
 have hO : Own B h h [] := Own.start0 h
 refine W_sq (W_rg (zq (hO.boxd (v := .ag (Za.c v)) (cs := Za.c v) hO.fr rfl rfl) ?_))
 rintro _ k₁ ⟨r₁, rfl, n₁, f₁, hW⟩
 have hO₁ : Own B h k₁ [eBox r₁ (Za.c v)] := hW
 refine Zb (a_mv (v := .b false) rfl) (Zh (Ze (W_sq (W_rg (Zb (a_mv (v := v_s) rfl) (Zb (a_ldbA (cs := (Za.c v)) (ws := Za.c v) (hO₁.box 0 rfl) rfl rfl) ?_))))))
 obtain ⟨x, hx₁, hp⟩ := Zt hp
 obtain ⟨u₁, k₂, ca₁, rfl, hW₁⟩ := zJ.ok (h := k₁)  (hO₁.rd0 s_s.rd : Sl Za k₁ v_s s) hx₁
 refine Zaj (id := 81) (caps := []) rfl (Z7 (v := v_s) rfl (Z7 (v := .ag (Za.c v)) rfl zl)) ca₁ ?_
 have hO₂ : Own B h k₂ [eBox r₁ (Za.c v)] := hO₁.call hW₁ rfl
 refine Zb (a_geq (a := x) (b := 0) rfl rfl) (Zb (a_mv (v := .b (decide (0 ≤ x))) rfl) (Zh (Ze (W_rt (Ret_r (rs_t (n := 4) (v := .b (decide (0 ≤ x))) rfl rs_nil) ?_)))))
 have hp := Option.some.inj hp; subst hp
 exact (And.intro rfl (hO₂.pick [] rfl (by decide)))

theorem ZaC.ok {h : Hp} {turns : List Int} {a : Zd} {b : Zd} {v_turns : V} (s_turns : Sl eInt h v_turns turns) {r : Int × Int} (hp : ZaC turns a b = some r) :
  ∃ u k', Is G 22 [v_turns, .ag (Za.c a), .ag (Za.c b)] h u k' ∧ V.tu [.i .i64 r.1, .i .i64 r.2] = u ∧ Own (fun r => r < h.n) h k' [] := by
 refine WC.is (WC_of G_F_kitty_Rot ?_)
 unfold ZaC at hp
 let B : Nat → Prop := (fun r => r < h.n)
 have hO : Own B h h [] := Own.start0 h
 refine W_sq (W_rg (zq (hO.boxd (v := .ag (Za.c a)) (cs := Za.c a) hO.fr rfl rfl) ?_))
 rintro _ k₁ ⟨r₁, rfl, n₁, f₁, hW⟩
 have hO₁ : Own B h k₁ [eBox r₁ (Za.c a)] := hW
 refine zq (hO₁.boxd (v := .ag (Za.c b)) (cs := Za.c b) hO₁.fr rfl rfl) ?_
 rintro _ k₂ ⟨r₂, rfl, n₂, f₂, hW⟩
 have hO₂ : Own B h k₂ [eBox r₁ (Za.c a), eBox r₂ (Za.c b)] := hW
 refine Zb (a_mv (v := .i .i64 0) rfl) (Zb (a_mv (v := .i .i64 0) rfl) (Zh (Ze (W_sq (W_rg (Zb (a_mv (v := v_turns) rfl) ?_))))))
 obtain ⟨x, hx₁, hp⟩ := Zt hp
 obtain ⟨u₁, k₃, ca₁, v₁, rfl, hW₁⟩ := zt.ok (h := k₂)  (hO₂.rd0 s_turns.rd : Sl eInt k₂ v_turns turns) hx₁
 refine Zaj (id := 19) (caps := []) rfl (Z7 (v := v_turns) rfl zl) ca₁ ?_
 have hO₃ : Own B h k₃ [eBox r₁ (Za.c a), eBox r₂ (Za.c b), eSl Za v₁ x] := hO₂.call hW₁ rfl
 refine Zb (a_mv (v := v₁) rfl) (Zh (Ze (W_sq (W_sq (W_rg (Zb (a_mv (v := v_turns) rfl) ?_))))))
 obtain ⟨x1, hx₂, hp⟩ := Zt hp
 obtain ⟨u₂, k₄, ca₂, rfl, hW₂⟩ := Zay.ok (h := k₃)  (hO₃.rd0 s_turns.rd : Sl eInt k₃ v_turns turns) hx₂
 refine Zaj (id := 59) (caps := []) rfl (Z7 (v := v_turns) rfl zl) ca₂ ?_
 have hO₄ : Own B h k₄ [eBox r₁ (Za.c a), eBox r₂ (Za.c b), eSl Za v₁ x] := hO₃.call hW₂ rfl
 refine Zb (a_not (t := x1) rfl) (Zb (a_mv (v := .b (!x1)) rfl) ?_)
 obtain ⟨t, hv₁, hp⟩ := Zt hp
 refine zX 5 (fun fr' k' => Own B h k' [eBox r₁ (Za.c a), eBox r₂ (Za.c b), eSl Za v₁ x] ∧ fr' 19 = .b t ∧ fr' 0 = v_turns ∧ fr' 4 = .p r₁ 0 ∧ fr' 5 = .p r₂ 0 ∧ fr' 8 = v₁) ?_ ?_
 ·clear hp; rcases Zv hv₁ with ⟨b₁, hp⟩ | ⟨b₁, hp⟩
  ·skip
   refine WO_off rfl b₁ (WO_off rfl b₁ (WO_off rfl b₁ (WO_off rfl b₁ (Zb (zk (t := (!x1)) (v := .b t) rfl b₁ (Eq.trans (b := V.b true) rfl (congrArg V.b (Option.some.inj hp)))) (Zh ?_)))))
   exact ⟨hO₄.pick [0, 1, 2] rfl (by decide), rfl, rfl, rfl, rfl, rfl⟩
  ·skip
   refine WO_on rfl b₁ (Zb (a_mv (v := v₁) rfl) (WO_on rfl b₁ (Zb (a_ldbA (cs := (Za.c a)) (ws := Za.c a) (hO₄.box 0 rfl) rfl rfl) (WO_on rfl b₁ ?_))))
   obtain ⟨x2, hx₃, hp⟩ := Zt hp
   obtain ⟨u₃, k₅, ca₃, rfl, hW₃⟩ := zK.ok (h := k₄)  (hO₄.sl 2 rfl : Sl Za k₄ v₁ x) hx₃
   refine Zaj (id := 60) (caps := []) rfl (Z7 (v := v₁) rfl (Z7 (v := .ag (Za.c a)) rfl zl)) ca₃ ?_
   have hO₅ : Own B h k₅ [eBox r₁ (Za.c a), eBox r₂ (Za.c b), eSl Za v₁ x] := hO₄.call hW₃ rfl
   refine WO_on rfl b₁ (Zb (a_not (t := x2) rfl) (Zb (zi (t := (!x1)) (v := .b t) rfl b₁ (Eq.trans (b := V.b (!x2)) rfl (congrArg V.b (Option.some.inj hp)))) (Zh ?_)))
   exact ⟨hO₅.pick [0, 1, 2] rfl (by decide), rfl, rfl, rfl, rfl, rfl⟩
 rintro frg₁ k₆ ⟨hO₆, g₁_19, g₁_0, g₁_4, g₁_5, g₁_8⟩
 refine Zb (a_mv (v := .b t) g₁_19) ?_
 obtain ⟨t1, hv₂, hp⟩ := Zt hp
 refine zX 5 (fun fr' k' => Own B h k' [eBox r₁ (Za.c a), eBox r₂ (Za.c b), eSl Za v₁ x] ∧ fr' 25 = .b t1 ∧ fr' 0 = v_turns ∧ fr' 4 = .p r₁ 0 ∧ fr' 5 = .p r₂ 0) ?_ ?_
 ·clear hp; rcases Zv hv₂ with ⟨b₂, hp⟩ | ⟨b₂, hp⟩
  ·skip
   refine WO_off rfl b₂ (WO_off rfl b₂ (WO_off rfl b₂ (WO_off rfl b₂ (Zb (zk (t := t) (v := .b t1) rfl b₂ (Eq.trans (b := V.b true) rfl (congrArg V.b (Option.some.inj hp)))) (Zh ?_)))))
   exact ⟨hO₆.pick [0, 1, 2] rfl (by decide), rfl, g₁_0, g₁_4, g₁_5⟩
  ·skip
   refine WO_on rfl b₂ (Zb (a_mv (v := v₁) g₁_8) (WO_on rfl b₂ (Zb (a_ldbA (cs := (Za.c b)) (ws := Za.c b) (hO₆.box 1 rfl) g₁_5 rfl) (WO_on rfl b₂ ?_))))
   obtain ⟨x3, hx₄, hp⟩ := Zt hp
   obtain ⟨u₄, k₇, ca₄, rfl, hW₄⟩ := zK.ok (h := k₆)  (hO₆.sl 2 rfl : Sl Za k₆ v₁ x) hx₄
   refine Zaj (id := 60) (caps := []) rfl (Z7 (v := v₁) rfl (Z7 (v := .ag (Za.c b)) rfl zl)) ca₄ ?_
   have hO₇ : Own B h k₇ [eBox r₁ (Za.c a), eBox r₂ (Za.c b), eSl Za v₁ x] := hO₆.call hW₄ rfl
   refine WO_on rfl b₂ (Zb (a_not (t := x3) rfl) (Zb (zi (t := t) (v := .b t1) rfl b₂ (Eq.trans (b := V.b (!x3)) rfl (congrArg V.b (Option.some.inj hp)))) (Zh ?_)))
   exact ⟨hO₇.pick [0, 1, 2] rfl (by decide), rfl, g₁_0, g₁_4, g₁_5⟩
 rintro frg₂ k₈ ⟨hO₈, g₂_25, g₂_0, g₂_4, g₂_5⟩
 refine Zh (Ze ?_)
 rcases Zv hp with ⟨b₃, hp⟩ | ⟨b₃, hp⟩
 ·refine W_cT (t := t1) g₂_25 b₃ ?_
  refine W_sq (W_rg (Zb (a_mv (v := .i .i64 0) rfl) (Zb (a_mv (v := .i .i64 2) rfl) (Zh (Ze (W_rt (zy ?_)))))))
  refine Ret_r (rs_t (n := 6) (v := .i .i64 0) rfl (rs_t (n := 7) (v := .i .i64 2) rfl rs_nil)) ?_
  have hp := Option.some.inj hp; subst hp
  exact (And.intro rfl (hO₈.pick [] rfl (by decide)))
 ·refine W_cF (t := t1) g₂_25 b₃ ?_
  refine W_sk (Ze (W_sq (W_dr ?_)))
  have hW := hO₈.bump 7
  have fr₁ := Fresh.start k₈ 7
  have nb₁ : ∀ {i : Nat}, h.n ≤ k₈.n + i := Nat.le_trans hO₈.n (Nat.le_add_right _ _)
  have hO₉ : Own B h (k₈.bump 7) [eBox r₁ (Za.c a), eBox r₂ (Za.c b), eSl Za v₁ x] := hW
  refine zM (a_mv (v := v_turns) g₂_0) ?_
  obtain ⟨x4, hx₅, hp⟩ := Zt hp
  obtain ⟨u₅, k₁₀, ca₅, v₂, rfl, hW₅⟩ := Zag.ok (h := (k₈.bump 7))  (hO₉.rd0 s_turns.rd : Sl eInt (k₈.bump 7) v_turns turns) hx₅
  refine WD_c (id := 62) (caps := []) rfl (Z7 (v := v_turns) rfl zl) ca₅ ?_
  have fr₂ := fr₁.call hW₅
  have hO₁₀ : Own B h k₁₀ [eBox r₁ (Za.c a), eBox r₂ (Za.c b), eSl Za v₁ x, eSl eInt v₂ x4] := hO₉.call hW₅ rfl
  refine zM (a_ldbA (cs := (Za.c a)) (ws := Za.c a) (hO₁₀.box 0 rfl) g₂_4 rfl) (zM (a_ldbA (cs := (Za.c b)) (ws := Za.c b) (hO₁₀.box 1 rfl) g₂_5 rfl) ?_)
  obtain ⟨x5, hx₆, hp⟩ := Zt hp
  obtain ⟨u₆, k₁₁, ca₆, rfl, hW₆⟩ := Za3.ok (h := k₁₀)  (hO₁₀.sl 3 rfl : Sl eInt k₁₀ v₂ x4) hx₆
  refine WD_c (id := 61) (caps := []) rfl (Z7 (v := v₂) rfl (Z7 (v := .ag (Za.c a)) rfl (Z7 (v := .ag (Za.c b)) rfl zl))) ca₆ ?_
  have fr₃ := fr₂.call hW₆
  have hO₁₁ : Own B h k₁₁ [eBox r₁ (Za.c a), eBox r₂ (Za.c b), eSl Za v₁ x, eSl eInt v₂ x4] := hO₁₀.call hW₆ rfl
  refine zM (a_mv (v := .i .i64 x5) rfl) (zM (a_mv (v := .i .i64 0) rfl) (WD_end ?_))
  refine And.intro ?_ ?_
  ·intro q hq
   simp only [List.mem_cons, List.not_mem_nil, or_false] at hq
   rcases hq with rfl | rfl | rfl
   ·refine ap_cl rfl ?_
    ·exact (fun r hm hc => hc (hW₅.base r (Nat.lt_of_lt_of_le (hO₈.ltAt 0 rfl _ (tch (v := V.p r₁ 0) (ZaM hm) g₂_4)) (Nat.le_trans (Nat.le_add_right _ _) fr₁.n))))
   ·refine ap_cl rfl ?_
    ·exact (fun r hm hc => hc (hW₅.base r (Nat.lt_of_lt_of_le (hO₈.ltAt 1 rfl _ (tch (v := V.p r₂ 0) (ZaM hm) g₂_5)) (Nat.le_trans (Nat.le_add_right _ _) fr₁.n))))
   ·refine ap_ll ?_ ?_
    ·exact (fun h => nomatch h)
    ·exact (fun h => nomatch h)
  refine Ze (W_rt (Ret_r (rs_t (n := 6) (v := .i .i64 x5) rfl (rs_t (n := 7) (v := .i .i64 0) rfl rs_nil)) ?_))
  have hp := Option.some.inj hp; subst hp
  exact (And.intro rfl (hO₁₁.pick [] rfl (by decide)))

theorem Zav.ok {h : Hp}    {r : Bool} (hp : Zav  = some r) :
  ∃ u k', Is G 27 [] h u k' ∧ V.b r = u ∧ Own (fun r => r < h.n) h k' [] := by
 refine WC.is (WC_of G_F_muntinlaw15_wakes ?_)
 unfold Zav at hp
 let B : Nat → Prop := (fun r => r < h.n)
 have hO : Own B h h [] := Own.start0 h
 refine W_sq (W_rg (Zb (a_mv (v := .b false) rfl) (Zh (Ze (W_sq (W_rg (zq (hO.bsl (E := eInt) (l := ([(-1), 1, 1, (-1), 1, 1, (-1), 1, 1, (-1), 1, 1] : List Int)) hO.fr (by rw [(zc (v := .i .i64 (-1)) rfl (zc (v := .i .i64 1) rfl (zc (v := .i .i64 1) rfl (zc (v := .i .i64 (-1)) rfl (zc (v := .i .i64 1) rfl (zc (v := .i .i64 1) rfl (zc (v := .i .i64 (-1)) rfl (zc (v := .i .i64 1) rfl (zc (v := .i .i64 1) rfl (zc (v := .i .i64 (-1)) rfl (zc (v := .i .i64 1) rfl (zc (v := .i .i64 1) rfl ev_nil))))))))))))]; rfl) rfl) ?_)))))))
 rintro v₁ k₁ ⟨r₁, f₁, hW⟩
 have hO₁ : Own B h k₁ [eSl eInt v₁ ([(-1), 1, 1, (-1), 1, 1, (-1), 1, 1, (-1), 1, 1] : List Int)] := hW
 obtain ⟨⟨x, x1, x2⟩, hx₁, hp⟩ := Zt hp
 obtain ⟨u₁, k₂, ca₁, rfl, hW₁⟩ := z8.ok (h := k₁)  (hO₁.sl 0 rfl : Sl eInt k₁ v₁ ([(-1), 1, 1, (-1), 1, 1, (-1), 1, 1, (-1), 1, 1] : List Int)) hx₁
 refine Zaj (id := 24) (caps := []) rfl (Z7 (v := v₁) rfl zl) ca₁ ?_
 have hO₂ : Own B h k₂ [eSl eInt v₁ ([(-1), 1, 1, (-1), 1, 1, (-1), 1, 1, (-1), 1, 1] : List Int)] := hO₁.call hW₁ rfl
 refine Zb (a_mv (v := .tu [.ag (Za.c x), .ag (Za.c x1), .b x2]) rfl) (Zb (Zax (vs := [.ag (Za.c x), .ag (Za.c x1), .b x2]) (v := .ag (Za.c x)) rfl rfl) (Zb (Zax (vs := [.ag (Za.c x), .ag (Za.c x1), .b x2]) (v := .ag (Za.c x1)) rfl rfl) (Zb (Zax (vs := [.ag (Za.c x), .ag (Za.c x1), .b x2]) (v := .b x2) rfl rfl) (zq (hO₂.alloc (cs := Za.c (⟨0, 0⟩ : Zd)) hO₂.fr) ?_))))
 rintro _ k₃ ⟨r₂, rfl, n₁, f₂, hW⟩
 have hO₃ : Own B h k₃ [eSl eInt v₁ ([(-1), 1, 1, (-1), 1, 1, (-1), 1, 1, (-1), 1, 1] : List Int), eBox r₂ (Za.c (⟨0, 0⟩ : Zd))] := hW
 refine zq (hO₃.alloc (cs := Za.c (⟨0, 0⟩ : Zd)) hO₃.fr) ?_
 rintro _ k₄ ⟨r₃, rfl, n₂, f₃, hW⟩
 have hO₄ : Own B h k₄ [eSl eInt v₁ ([(-1), 1, 1, (-1), 1, 1, (-1), 1, 1, (-1), 1, 1] : List Int), eBox r₂ (Za.c (⟨0, 0⟩ : Zd)), eBox r₃ (Za.c (⟨0, 0⟩ : Zd))] := hW
 refine zq (hO₄.stb (ws := Za.c x) (cs' := Za.c x) (v := .ag (Za.c x)) 1 rfl rfl rfl rfl ⟨rfl, Nat.le_of_ble_eq_true rfl, rfl⟩ rfl) ?_
 rintro _ k₅ ⟨rfl, f₄, m₁, hW⟩
 have hO₅ : Own B h k₅ [eSl eInt v₁ ([(-1), 1, 1, (-1), 1, 1, (-1), 1, 1, (-1), 1, 1] : List Int), eBox r₂ (Za.c x), eBox r₃ (Za.c (⟨0, 0⟩ : Zd))] := hW
 refine zq (hO₅.stb (ws := Za.c x1) (cs' := Za.c x1) (v := .ag (Za.c x1)) 2 rfl rfl rfl rfl ⟨rfl, Nat.le_of_ble_eq_true rfl, rfl⟩ rfl) ?_
 rintro _ k₆ ⟨rfl, f₅, m₂, hW⟩
 have hO₆ : Own B h k₆ [eSl eInt v₁ ([(-1), 1, 1, (-1), 1, 1, (-1), 1, 1, (-1), 1, 1] : List Int), eBox r₂ (Za.c x), eBox r₃ (Za.c x1)] := hW
 refine Zb (a_mv (v := .b x2) rfl) (Zh (Ze (W_sq (W_rg (zq (hO₆.bsl (E := eInt) (l := ([(-2), (-2)] : List Int)) hO₆.fr (by rw [(zc (v := .i .i64 (-2)) rfl (zc (v := .i .i64 (-2)) rfl ev_nil))]; rfl) rfl) ?_)))))
 rintro v₂ k₇ ⟨r₄, f₆, hW⟩
 have hO₇ : Own B h k₇ [eSl eInt v₁ ([(-1), 1, 1, (-1), 1, 1, (-1), 1, 1, (-1), 1, 1] : List Int), eBox r₂ (Za.c x), eBox r₃ (Za.c x1), eSl eInt v₂ ([(-2), (-2)] : List Int)] := hW
 refine Zb (Zaw (cs := Za.c (⟨(0 : Int), (0 : Int)⟩ : Zd)) (by rw [ev_nil]; rfl)) (Zb (Zaw (cs := Za.c (⟨1, (0 : Int)⟩ : Zd)) (by rw [(zc (v := .i .i64 1) rfl ev_nil)]; rfl)) ?_)
 obtain ⟨⟨x3, x4⟩, hx₂, hp⟩ := Zt hp
 obtain ⟨u₂, k₈, ca₂, rfl, hW₂⟩ := ZaC.ok (h := k₇)  (hO₇.sl 3 rfl : Sl eInt k₇ v₂ ([(-2), (-2)] : List Int)) hx₂
 refine Zaj (id := 22) (caps := []) rfl (Z7 (v := v₂) rfl (Z7 (v := .ag (Za.c (⟨(0 : Int), (0 : Int)⟩ : Zd))) rfl (Z7 (v := .ag (Za.c (⟨1, (0 : Int)⟩ : Zd))) rfl zl))) ca₂ ?_
 have hO₈ : Own B h k₈ [eSl eInt v₁ ([(-1), 1, 1, (-1), 1, 1, (-1), 1, 1, (-1), 1, 1] : List Int), eBox r₂ (Za.c x), eBox r₃ (Za.c x1), eSl eInt v₂ ([(-2), (-2)] : List Int)] := hO₇.call hW₂ rfl
 refine Zb (a_mv (v := .tu [.i .i64 x3, .i .i64 x4]) rfl) (Zb (Zax (vs := [.i .i64 x3, .i .i64 x4]) (v := .i .i64 x3) rfl rfl) (Zb (Zax (vs := [.i .i64 x3, .i .i64 x4]) (v := .i .i64 x4) rfl rfl) (Zb (a_mv (v := .i .i64 x3) rfl) (Zb (a_mv (v := .i .i64 x4) rfl) (Zh (Ze (W_sq ?_)))))))
 refine W_rg (zq (hO₈.bsl (E := eInt) (l := ([1] : List Int)) hO₈.fr (by rw [(zc (v := .i .i64 1) rfl ev_nil)]; rfl) rfl) ?_)
 rintro v₃ k₉ ⟨r₅, f₇, hW⟩
 have hO₉ : Own B h k₉ [eSl eInt v₁ ([(-1), 1, 1, (-1), 1, 1, (-1), 1, 1, (-1), 1, 1] : List Int), eBox r₂ (Za.c x), eBox r₃ (Za.c x1), eSl eInt v₂ ([(-2), (-2)] : List Int), eSl eInt v₃ ([1] : List Int)] := hW
 refine Zb (Zaw (cs := Za.c (⟨(0 : Int), (0 : Int)⟩ : Zd)) (by rw [ev_nil]; rfl)) (Zb (Zaw (cs := Za.c (⟨(0 : Int), (0 : Int)⟩ : Zd)) (by rw [ev_nil]; rfl)) ?_)
 obtain ⟨⟨x5, x6⟩, hx₃, hp⟩ := Zt hp
 obtain ⟨u₃, k₁₀, ca₃, rfl, hW₃⟩ := ZaC.ok (h := k₉)  (hO₉.sl 4 rfl : Sl eInt k₉ v₃ ([1] : List Int)) hx₃
 refine Zaj (id := 22) (caps := []) rfl (Z7 (v := v₃) rfl (Z7 (v := .ag (Za.c (⟨(0 : Int), (0 : Int)⟩ : Zd))) rfl (Z7 (v := .ag (Za.c (⟨(0 : Int), (0 : Int)⟩ : Zd))) rfl zl))) ca₃ ?_
 have hO₁₀ : Own B h k₁₀ [eSl eInt v₁ ([(-1), 1, 1, (-1), 1, 1, (-1), 1, 1, (-1), 1, 1] : List Int), eBox r₂ (Za.c x), eBox r₃ (Za.c x1), eSl eInt v₂ ([(-2), (-2)] : List Int), eSl eInt v₃ ([1] : List Int)] := hO₉.call hW₃ rfl
 refine Zb (a_mv (v := .tu [.i .i64 x5, .i .i64 x6]) rfl) (Zb (Zax (vs := [.i .i64 x5, .i .i64 x6]) (v := .i .i64 x5) rfl rfl) (Zb (Zax (vs := [.i .i64 x5, .i .i64 x6]) (v := .i .i64 x6) rfl rfl) (Zb (a_mv (v := .i .i64 x5) rfl) (Zb (a_mv (v := .i .i64 x6) rfl) (Zh (Ze (W_sq ?_)))))))
 refine W_rg (zq (hO₁₀.bsl (E := eInt) (l := ([(-1), 1, 1, 1, 1, 1] : List Int)) hO₁₀.fr (by rw [(zc (v := .i .i64 (-1)) rfl (zc (v := .i .i64 1) rfl (zc (v := .i .i64 1) rfl (zc (v := .i .i64 1) rfl (zc (v := .i .i64 1) rfl (zc (v := .i .i64 1) rfl ev_nil))))))]; rfl) rfl) ?_)
 rintro v₄ k₁₁ ⟨r₆, f₈, hW⟩
 have hO₁₁ : Own B h k₁₁ [eSl eInt v₁ ([(-1), 1, 1, (-1), 1, 1, (-1), 1, 1, (-1), 1, 1] : List Int), eBox r₂ (Za.c x), eBox r₃ (Za.c x1), eSl eInt v₂ ([(-2), (-2)] : List Int), eSl eInt v₃ ([1] : List Int), eSl eInt v₄ ([(-1), 1, 1, 1, 1, 1] : List Int)] := hW
 obtain ⟨⟨x7, x8, x9⟩, hx₄, hp⟩ := Zt hp
 obtain ⟨u₄, k₁₂, ca₄, rfl, hW₄⟩ := z8.ok (h := k₁₁)  (hO₁₁.sl 5 rfl : Sl eInt k₁₁ v₄ ([(-1), 1, 1, 1, 1, 1] : List Int)) hx₄
 refine Zaj (id := 24) (caps := []) rfl (Z7 (v := v₄) rfl zl) ca₄ ?_
 have hO₁₂ : Own B h k₁₂ [eSl eInt v₁ ([(-1), 1, 1, (-1), 1, 1, (-1), 1, 1, (-1), 1, 1] : List Int), eBox r₂ (Za.c x), eBox r₃ (Za.c x1), eSl eInt v₂ ([(-2), (-2)] : List Int), eSl eInt v₃ ([1] : List Int), eSl eInt v₄ ([(-1), 1, 1, 1, 1, 1] : List Int)] := hO₁₁.call hW₄ rfl
 refine Zb (a_mv (v := .tu [.ag (Za.c x7), .ag (Za.c x8), .b x9]) rfl) (Zb (Zax (vs := [.ag (Za.c x7), .ag (Za.c x8), .b x9]) (v := .ag (Za.c x7)) rfl rfl) (Zb (Zax (vs := [.ag (Za.c x7), .ag (Za.c x8), .b x9]) (v := .ag (Za.c x8)) rfl rfl) (Zb (Zax (vs := [.ag (Za.c x7), .ag (Za.c x8), .b x9]) (v := .b x9) rfl rfl) (zq (hO₁₂.alloc (cs := Za.c (⟨0, 0⟩ : Zd)) hO₁₂.fr) ?_))))
 rintro _ k₁₃ ⟨r₇, rfl, n₃, f₉, hW⟩
 have hO₁₃ : Own B h k₁₃ [eSl eInt v₁ ([(-1), 1, 1, (-1), 1, 1, (-1), 1, 1, (-1), 1, 1] : List Int), eBox r₂ (Za.c x), eBox r₃ (Za.c x1), eSl eInt v₂ ([(-2), (-2)] : List Int), eSl eInt v₃ ([1] : List Int), eSl eInt v₄ ([(-1), 1, 1, 1, 1, 1] : List Int), eBox r₇ (Za.c (⟨0, 0⟩ : Zd))] := hW
 refine zq (hO₁₃.alloc (cs := Za.c (⟨0, 0⟩ : Zd)) hO₁₃.fr) ?_
 rintro _ k₁₄ ⟨r₈, rfl, n₄, f₁₀, hW⟩
 have hO₁₄ : Own B h k₁₄ [eSl eInt v₁ ([(-1), 1, 1, (-1), 1, 1, (-1), 1, 1, (-1), 1, 1] : List Int), eBox r₂ (Za.c x), eBox r₃ (Za.c x1), eSl eInt v₂ ([(-2), (-2)] : List Int), eSl eInt v₃ ([1] : List Int), eSl eInt v₄ ([(-1), 1, 1, 1, 1, 1] : List Int), eBox r₇ (Za.c (⟨0, 0⟩ : Zd)), eBox r₈ (Za.c (⟨0, 0⟩ : Zd))] := hW
 refine zq (hO₁₄.stb (ws := Za.c x7) (cs' := Za.c x7) (v := .ag (Za.c x7)) 6 rfl rfl rfl rfl ⟨rfl, Nat.le_of_ble_eq_true rfl, rfl⟩ rfl) ?_
 rintro _ k₁₅ ⟨rfl, f₁₁, m₃, hW⟩
 have hO₁₅ : Own B h k₁₅ [eSl eInt v₁ ([(-1), 1, 1, (-1), 1, 1, (-1), 1, 1, (-1), 1, 1] : List Int), eBox r₂ (Za.c x), eBox r₃ (Za.c x1), eSl eInt v₂ ([(-2), (-2)] : List Int), eSl eInt v₃ ([1] : List Int), eSl eInt v₄ ([(-1), 1, 1, 1, 1, 1] : List Int), eBox r₇ (Za.c x7), eBox r₈ (Za.c (⟨0, 0⟩ : Zd))] := hW
 refine zq (hO₁₅.stb (ws := Za.c x8) (cs' := Za.c x8) (v := .ag (Za.c x8)) 7 rfl rfl rfl rfl ⟨rfl, Nat.le_of_ble_eq_true rfl, rfl⟩ rfl) ?_
 rintro _ k₁₆ ⟨rfl, f₁₂, m₄, hW⟩
 have hO₁₆ : Own B h k₁₆ [eSl eInt v₁ ([(-1), 1, 1, (-1), 1, 1, (-1), 1, 1, (-1), 1, 1] : List Int), eBox r₂ (Za.c x), eBox r₃ (Za.c x1), eSl eInt v₂ ([(-2), (-2)] : List Int), eSl eInt v₃ ([1] : List Int), eSl eInt v₄ ([(-1), 1, 1, 1, 1, 1] : List Int), eBox r₇ (Za.c x7), eBox r₈ (Za.c x8)] := hW
 refine Zb (a_mv (v := .b x9) rfl) (Zh (Ze (W_sq (W_rg (Zb (a_ldbA (cs := (Za.c x)) (ws := Za.c x) (hO₁₆.box 1 rfl) rfl rfl) (Zb (Zaw (cs := Za.c (⟨(0 : Int), (0 : Int)⟩ : Zd)) (by rw [ev_nil]; rfl)) (Zb (a_eqA (as := Za.c x) (bs := Za.c (⟨(0 : Int), (0 : Int)⟩ : Zd)) rfl rfl (Mu.Za.same _ _)) ?_)))))))
 refine Zb (a_mv (v := .b (decide (x = (⟨(0 : Int), (0 : Int)⟩ : Zd)))) rfl) ?_
 refine zX 4 (fun fr' k' => k₁₆ = k' ∧ fr' 44 = .b ((decide (x = (⟨(0 : Int), (0 : Int)⟩ : Zd))) && (decide (x1 = (⟨6, (0 : Int)⟩ : Zd)))) ∧ fr' 10 = .b x9 ∧ fr' 3 = .b x2 ∧ fr' 4 = .i .i64 x3 ∧ fr' 5 = .i .i64 x4 ∧ fr' 7 = .i .i64 x6) ?_ ?_
 ·rcases bc (decide (x = (⟨(0 : Int), (0 : Int)⟩ : Zd))) with b₁ | b₁
  ·skip
   refine WO_on rfl b₁ (Zb (a_ldbA (cs := (Za.c x1)) (ws := Za.c x1) (hO₁₆.box 2 rfl) rfl rfl) (WO_on rfl b₁ (Zb (Zaw (cs := Za.c (⟨6, (0 : Int)⟩ : Zd)) (by rw [(zc (v := .i .i64 6) rfl ev_nil)]; rfl)) (WO_on rfl b₁ (Zb (a_eqA (as := Za.c x1) (bs := Za.c (⟨6, (0 : Int)⟩ : Zd)) rfl rfl (Mu.Za.same _ _)) (Zb (zk (t := (decide (x = (⟨(0 : Int), (0 : Int)⟩ : Zd)))) (v := .b ((decide (x = (⟨(0 : Int), (0 : Int)⟩ : Zd))) && (decide (x1 = (⟨6, (0 : Int)⟩ : Zd))))) rfl b₁ (Eq.trans (b := V.b (decide (x1 = (⟨6, (0 : Int)⟩ : Zd)))) rfl (ZaD b₁))) (Zh ?_)))))))
   exact ⟨rfl, rfl, rfl, rfl, rfl, rfl, rfl⟩
  ·skip
   refine WO_off rfl b₁ (WO_off rfl b₁ (WO_off rfl b₁ (Zb (zi (t := (decide (x = (⟨(0 : Int), (0 : Int)⟩ : Zd)))) (v := .b ((decide (x = (⟨(0 : Int), (0 : Int)⟩ : Zd))) && (decide (x1 = (⟨6, (0 : Int)⟩ : Zd))))) rfl b₁ (Eq.trans (b := V.b false) rfl (Za2 b₁))) (Zh ?_))))
   exact ⟨rfl, rfl, rfl, rfl, rfl, rfl, rfl⟩
 rintro frg₁ _ ⟨rfl, g₁_44, g₁_10, g₁_3, g₁_4, g₁_5, g₁_7⟩
 refine Zb (a_mv (v := .b ((decide (x = (⟨(0 : Int), (0 : Int)⟩ : Zd))) && (decide (x1 = (⟨6, (0 : Int)⟩ : Zd))))) g₁_44) ?_
 refine zX 2 (fun fr' k' => k₁₆ = k' ∧ fr' 47 = .b (((decide (x = (⟨(0 : Int), (0 : Int)⟩ : Zd))) && (decide (x1 = (⟨6, (0 : Int)⟩ : Zd)))) && x2) ∧ fr' 10 = .b x9 ∧ fr' 4 = .i .i64 x3 ∧ fr' 5 = .i .i64 x4 ∧ fr' 7 = .i .i64 x6) ?_ ?_
 ·rcases bc ((decide (x = (⟨(0 : Int), (0 : Int)⟩ : Zd))) && (decide (x1 = (⟨6, (0 : Int)⟩ : Zd)))) with b₂ | b₂
  ·skip
   refine WO_on rfl b₂ (Zb (a_mv (v := .b x2) g₁_3) (Zb (zk (t := ((decide (x = (⟨(0 : Int), (0 : Int)⟩ : Zd))) && (decide (x1 = (⟨6, (0 : Int)⟩ : Zd))))) (v := .b (((decide (x = (⟨(0 : Int), (0 : Int)⟩ : Zd))) && (decide (x1 = (⟨6, (0 : Int)⟩ : Zd)))) && x2)) rfl b₂ (Eq.trans (b := V.b x2) rfl (ZaD b₂))) (Zh ?_)))
   exact ⟨rfl, rfl, g₁_10, g₁_4, g₁_5, g₁_7⟩
  ·skip
   refine WO_off rfl b₂ (Zb (zi (t := ((decide (x = (⟨(0 : Int), (0 : Int)⟩ : Zd))) && (decide (x1 = (⟨6, (0 : Int)⟩ : Zd))))) (v := .b (((decide (x = (⟨(0 : Int), (0 : Int)⟩ : Zd))) && (decide (x1 = (⟨6, (0 : Int)⟩ : Zd)))) && x2)) rfl b₂ (Eq.trans (b := V.b false) rfl (Za2 b₂))) (Zh ?_))
   exact ⟨rfl, rfl, g₁_10, g₁_4, g₁_5, g₁_7⟩
 rintro frg₂ _ ⟨rfl, g₂_47, g₂_10, g₂_4, g₂_5, g₂_7⟩
 refine Zb (a_mv (v := .b (((decide (x = (⟨(0 : Int), (0 : Int)⟩ : Zd))) && (decide (x1 = (⟨6, (0 : Int)⟩ : Zd)))) && x2)) g₂_47) ?_
 refine zX 3 (fun fr' k' => k₁₆ = k' ∧ fr' 51 = .b ((((decide (x = (⟨(0 : Int), (0 : Int)⟩ : Zd))) && (decide (x1 = (⟨6, (0 : Int)⟩ : Zd)))) && x2) && (decide (x3 = (-2)))) ∧ fr' 10 = .b x9 ∧ fr' 5 = .i .i64 x4 ∧ fr' 7 = .i .i64 x6) ?_ ?_
 ·rcases bc (((decide (x = (⟨(0 : Int), (0 : Int)⟩ : Zd))) && (decide (x1 = (⟨6, (0 : Int)⟩ : Zd)))) && x2) with b₃ | b₃
  ·skip
   refine WO_on rfl b₃ (Zb (a_mv (v := .i .i64 x3) g₂_4) (WO_on rfl b₃ (Zb (a_eqI (a := x3) (b := (-2)) rfl rfl) (Zb (zk (t := (((decide (x = (⟨(0 : Int), (0 : Int)⟩ : Zd))) && (decide (x1 = (⟨6, (0 : Int)⟩ : Zd)))) && x2)) (v := .b ((((decide (x = (⟨(0 : Int), (0 : Int)⟩ : Zd))) && (decide (x1 = (⟨6, (0 : Int)⟩ : Zd)))) && x2) && (decide (x3 = (-2))))) rfl b₃ (Eq.trans (b := V.b (decide (x3 = (-2)))) rfl (ZaD b₃))) (Zh ?_)))))
   exact ⟨rfl, rfl, g₂_10, g₂_5, g₂_7⟩
  ·skip
   refine WO_off rfl b₃ (WO_off rfl b₃ (Zb (zi (t := (((decide (x = (⟨(0 : Int), (0 : Int)⟩ : Zd))) && (decide (x1 = (⟨6, (0 : Int)⟩ : Zd)))) && x2)) (v := .b ((((decide (x = (⟨(0 : Int), (0 : Int)⟩ : Zd))) && (decide (x1 = (⟨6, (0 : Int)⟩ : Zd)))) && x2) && (decide (x3 = (-2))))) rfl b₃ (Eq.trans (b := V.b false) rfl (Za2 b₃))) (Zh ?_)))
   exact ⟨rfl, rfl, g₂_10, g₂_5, g₂_7⟩
 rintro frg₃ _ ⟨rfl, g₃_51, g₃_10, g₃_5, g₃_7⟩
 refine Zb (a_mv (v := .b ((((decide (x = (⟨(0 : Int), (0 : Int)⟩ : Zd))) && (decide (x1 = (⟨6, (0 : Int)⟩ : Zd)))) && x2) && (decide (x3 = (-2))))) g₃_51) ?_
 refine zX 3 (fun fr' k' => k₁₆ = k' ∧ fr' 55 = .b (((((decide (x = (⟨(0 : Int), (0 : Int)⟩ : Zd))) && (decide (x1 = (⟨6, (0 : Int)⟩ : Zd)))) && x2) && (decide (x3 = (-2)))) && (decide (x4 = 0))) ∧ fr' 10 = .b x9 ∧ fr' 7 = .i .i64 x6) ?_ ?_
 ·rcases bc ((((decide (x = (⟨(0 : Int), (0 : Int)⟩ : Zd))) && (decide (x1 = (⟨6, (0 : Int)⟩ : Zd)))) && x2) && (decide (x3 = (-2)))) with b₄ | b₄
  ·skip
   refine WO_on rfl b₄ (Zb (a_mv (v := .i .i64 x4) g₃_5) (WO_on rfl b₄ (Zb (a_eqI (a := x4) (b := 0) rfl rfl) (Zb (zk (t := ((((decide (x = (⟨(0 : Int), (0 : Int)⟩ : Zd))) && (decide (x1 = (⟨6, (0 : Int)⟩ : Zd)))) && x2) && (decide (x3 = (-2))))) (v := .b (((((decide (x = (⟨(0 : Int), (0 : Int)⟩ : Zd))) && (decide (x1 = (⟨6, (0 : Int)⟩ : Zd)))) && x2) && (decide (x3 = (-2)))) && (decide (x4 = 0)))) rfl b₄ (Eq.trans (b := V.b (decide (x4 = 0))) rfl (ZaD b₄))) (Zh ?_)))))
   exact ⟨rfl, rfl, g₃_10, g₃_7⟩
  ·skip
   refine WO_off rfl b₄ (WO_off rfl b₄ (Zb (zi (t := ((((decide (x = (⟨(0 : Int), (0 : Int)⟩ : Zd))) && (decide (x1 = (⟨6, (0 : Int)⟩ : Zd)))) && x2) && (decide (x3 = (-2))))) (v := .b (((((decide (x = (⟨(0 : Int), (0 : Int)⟩ : Zd))) && (decide (x1 = (⟨6, (0 : Int)⟩ : Zd)))) && x2) && (decide (x3 = (-2)))) && (decide (x4 = 0)))) rfl b₄ (Eq.trans (b := V.b false) rfl (Za2 b₄))) (Zh ?_)))
   exact ⟨rfl, rfl, g₃_10, g₃_7⟩
 rintro frg₄ _ ⟨rfl, g₄_55, g₄_10, g₄_7⟩
 refine Zb (a_mv (v := .b (((((decide (x = (⟨(0 : Int), (0 : Int)⟩ : Zd))) && (decide (x1 = (⟨6, (0 : Int)⟩ : Zd)))) && x2) && (decide (x3 = (-2)))) && (decide (x4 = 0)))) g₄_55) ?_
 refine zX 3 (fun fr' k' => k₁₆ = k' ∧ fr' 59 = .b ((((((decide (x = (⟨(0 : Int), (0 : Int)⟩ : Zd))) && (decide (x1 = (⟨6, (0 : Int)⟩ : Zd)))) && x2) && (decide (x3 = (-2)))) && (decide (x4 = 0))) && (decide (x6 = 2))) ∧ fr' 10 = .b x9) ?_ ?_
 ·rcases bc (((((decide (x = (⟨(0 : Int), (0 : Int)⟩ : Zd))) && (decide (x1 = (⟨6, (0 : Int)⟩ : Zd)))) && x2) && (decide (x3 = (-2)))) && (decide (x4 = 0))) with b₅ | b₅
  ·skip
   refine WO_on rfl b₅ (Zb (a_mv (v := .i .i64 x6) g₄_7) (WO_on rfl b₅ (Zb (a_eqI (a := x6) (b := 2) rfl rfl) (Zb (zk (t := (((((decide (x = (⟨(0 : Int), (0 : Int)⟩ : Zd))) && (decide (x1 = (⟨6, (0 : Int)⟩ : Zd)))) && x2) && (decide (x3 = (-2)))) && (decide (x4 = 0)))) (v := .b ((((((decide (x = (⟨(0 : Int), (0 : Int)⟩ : Zd))) && (decide (x1 = (⟨6, (0 : Int)⟩ : Zd)))) && x2) && (decide (x3 = (-2)))) && (decide (x4 = 0))) && (decide (x6 = 2)))) rfl b₅ (Eq.trans (b := V.b (decide (x6 = 2))) rfl (ZaD b₅))) (Zh ?_)))))
   exact ⟨rfl, rfl, g₄_10⟩
  ·skip
   refine WO_off rfl b₅ (WO_off rfl b₅ (Zb (zi (t := (((((decide (x = (⟨(0 : Int), (0 : Int)⟩ : Zd))) && (decide (x1 = (⟨6, (0 : Int)⟩ : Zd)))) && x2) && (decide (x3 = (-2)))) && (decide (x4 = 0)))) (v := .b ((((((decide (x = (⟨(0 : Int), (0 : Int)⟩ : Zd))) && (decide (x1 = (⟨6, (0 : Int)⟩ : Zd)))) && x2) && (decide (x3 = (-2)))) && (decide (x4 = 0))) && (decide (x6 = 2)))) rfl b₅ (Eq.trans (b := V.b false) rfl (Za2 b₅))) (Zh ?_)))
   exact ⟨rfl, rfl, g₄_10⟩
 rintro frg₅ _ ⟨rfl, g₅_59, g₅_10⟩
 refine Zb (a_mv (v := .b ((((((decide (x = (⟨(0 : Int), (0 : Int)⟩ : Zd))) && (decide (x1 = (⟨6, (0 : Int)⟩ : Zd)))) && x2) && (decide (x3 = (-2)))) && (decide (x4 = 0))) && (decide (x6 = 2)))) g₅_59) ?_
 refine zX 3 (fun fr' k' => k₁₆ = k' ∧ fr' 63 = .b (((((((decide (x = (⟨(0 : Int), (0 : Int)⟩ : Zd))) && (decide (x1 = (⟨6, (0 : Int)⟩ : Zd)))) && x2) && (decide (x3 = (-2)))) && (decide (x4 = 0))) && (decide (x6 = 2))) && (!x9))) ?_ ?_
 ·rcases bc ((((((decide (x = (⟨(0 : Int), (0 : Int)⟩ : Zd))) && (decide (x1 = (⟨6, (0 : Int)⟩ : Zd)))) && x2) && (decide (x3 = (-2)))) && (decide (x4 = 0))) && (decide (x6 = 2))) with b₆ | b₆
  ·skip
   refine WO_on rfl b₆ (Zb (a_mv (v := .b x9) g₅_10) (WO_on rfl b₆ (Zb (a_not (t := x9) rfl) (Zb (zk (t := ((((((decide (x = (⟨(0 : Int), (0 : Int)⟩ : Zd))) && (decide (x1 = (⟨6, (0 : Int)⟩ : Zd)))) && x2) && (decide (x3 = (-2)))) && (decide (x4 = 0))) && (decide (x6 = 2)))) (v := .b (((((((decide (x = (⟨(0 : Int), (0 : Int)⟩ : Zd))) && (decide (x1 = (⟨6, (0 : Int)⟩ : Zd)))) && x2) && (decide (x3 = (-2)))) && (decide (x4 = 0))) && (decide (x6 = 2))) && (!x9))) rfl b₆ (Eq.trans (b := V.b (!x9)) rfl (ZaD b₆))) (Zh ?_)))))
   exact ⟨rfl, rfl⟩
  ·skip
   refine WO_off rfl b₆ (WO_off rfl b₆ (Zb (zi (t := ((((((decide (x = (⟨(0 : Int), (0 : Int)⟩ : Zd))) && (decide (x1 = (⟨6, (0 : Int)⟩ : Zd)))) && x2) && (decide (x3 = (-2)))) && (decide (x4 = 0))) && (decide (x6 = 2)))) (v := .b (((((((decide (x = (⟨(0 : Int), (0 : Int)⟩ : Zd))) && (decide (x1 = (⟨6, (0 : Int)⟩ : Zd)))) && x2) && (decide (x3 = (-2)))) && (decide (x4 = 0))) && (decide (x6 = 2))) && (!x9))) rfl b₆ (Eq.trans (b := V.b false) rfl (Za2 b₆))) (Zh ?_)))
   exact ⟨rfl, rfl⟩
 rintro frg₆ _ ⟨rfl, g₆_63⟩
 refine Zb (a_mv (v := .b (((((((decide (x = (⟨(0 : Int), (0 : Int)⟩ : Zd))) && (decide (x1 = (⟨6, (0 : Int)⟩ : Zd)))) && x2) && (decide (x3 = (-2)))) && (decide (x4 = 0))) && (decide (x6 = 2))) && (!x9))) g₆_63) (Zh (Ze (W_rt (Ret_r (rs_t (n := 0) (v := .b (((((((decide (x = (⟨(0 : Int), (0 : Int)⟩ : Zd))) && (decide (x1 = (⟨6, (0 : Int)⟩ : Zd)))) && x2) && (decide (x3 = (-2)))) && (decide (x4 = 0))) && (decide (x6 = 2))) && (!x9))) rfl rs_nil) ?_))))
 have hp := Option.some.inj hp; subst hp
 exact (And.intro rfl (hO₁₆.pick [] rfl (by decide)))

theorem ZK.ok {h : Hp} {z : zn} {raw : List Zk} {v_z_At : V} {v_z_Bits : V} {v_z_Own : V} {v_raw : V} (s_z_At : Sl ZaJ h v_z_At z.At) (s_z_Bits : Sl ZaJ h v_z_Bits z.Bits) (s_z_Own : Sl ZaN h v_z_Own z.Own) (s_raw : Sl Zf h v_raw raw) {r : Bool} (hp : ZK z raw = some r) :
  ∃ u k', Is G 160 [.ag [v_z_At, v_z_Bits, v_z_Own], v_raw] h u k' ∧ V.b r = u ∧ Own (fun r => r < h.n) h k' [] := by
 refine WC.is (WC_of G_F_muntinlaw15_KittyRegular ?_)
 unfold ZK at hp
 let B : Nat → Prop := (fun r => r < h.n)
 have hO : Own B h h [] := Own.start0 h
 refine W_sq (W_rg (zq (hO.boxd (v := .ag [v_z_At, v_z_Bits, v_z_Own]) (cs := [v_z_At, v_z_Bits, v_z_Own]) hO.fr rfl rfl) ?_))
 rintro _ k₁ ⟨r₁, rfl, n₁, f₁, hW⟩
 have hO₁ : Own B h k₁ [eBox r₁ [v_z_At, v_z_Bits, v_z_Own]] := hW
 refine Zb (a_mv (v := .b false) rfl) (Zh (Ze (W_sq (W_rg (Zb (a_ldbA (cs := [v_z_At, v_z_Bits, v_z_Own]) (ws := [v_z_At, v_z_Bits, v_z_Own]) (hO₁.box 0 rfl) rfl rfl) ?_)))))
 obtain ⟨⟨x, x1⟩, hx₁, hp⟩ := Zt hp
 obtain ⟨u₁, k₂, ca₁, v₁, v₂, rfl, hW₁⟩ := ZF.ok (h := k₁)  (hO₁.rd0 s_z_At.rd : Sl ZaJ k₁ v_z_At z.At) (hO₁.rd0 s_z_Bits.rd : Sl ZaJ k₁ v_z_Bits z.Bits) (hO₁.rd0 s_z_Own.rd : Sl ZaN k₁ v_z_Own z.Own) hx₁
 refine Zaj (id := 28) (caps := []) rfl (Z7 (v := .ag [v_z_At, v_z_Bits, v_z_Own]) rfl (Z7 (v := .i .i64 16) rfl zl)) ca₁ ?_
 have hO₂ : Own B h k₂ [eBox r₁ [v_z_At, v_z_Bits, v_z_Own], eSl Zf v₁ x, eSl Zj v₂ x1] := hO₁.call hW₁ rfl
 refine Zb (a_mv (v := .tu [v₁, v₂]) rfl) (Zb (Zax (vs := [v₁, v₂]) (v := v₁) rfl rfl) (Zb (Zax (vs := [v₁, v₂]) (v := v₂) rfl rfl) (Zb (a_mv (v := v₁) rfl) (Zb (a_mv (v := v₂) rfl) (Zh (Ze (W_sq ?_)))))))
 refine W_sq (W_rg (Zb (a_mv (v := v₁) rfl) (Zb (a_mv (v := v_raw) rfl) (Zb (a_mv (v := v_raw) rfl) (Zb (a_len (hO₂.rd0 s_raw.rd : Sl Zf k₂ v_raw raw) rfl) (Zb (a_mn (a := (raw.length : Int)) (b := 4) rfl rfl) ?_))))))
 obtain ⟨c₁, hp⟩ := Zo hp
 refine Zb (a_slcU (E := Zf) (z := (min (raw.length : Int) 4)) (hO₂.rd0 s_raw.rd : Sl Zf k₂ v_raw raw) rfl rfl c₁) (zq (hO₂.bsl (E := eV) (l := [v₁, (V.cut v_raw 0 (min (raw.length : Int) 4 : Int).toNat)]) hO₂.fr (by rw [(zc (v := v₁) rfl (zc (v := (V.cut v_raw 0 (min (raw.length : Int) 4 : Int).toNat)) rfl ev_nil))]; simp [fill, over, (hO₂.sl 1 rfl : Sl Zf k₂ v₁ x).cells, (Sl.cutU (hO₂.rd0 s_raw.rd : Sl Zf k₂ v_raw raw) c₁ : Sl Zf k₂ (V.cut v_raw 0 (min (raw.length : Int) 4 : Int).toNat) (raw.take (min (raw.length : Int) 4 : Int).toNat)).cells]) rfl) ?_)
 rintro v₃ k₃ ⟨r₂, f₂, hW⟩
 have hO₃ : Own B h k₃ [eBox r₁ [v_z_At, v_z_Bits, v_z_Own], eSl Zf v₁ x, eSl Zj v₂ x1, eSl eV v₃ [v₁, (V.cut v_raw 0 (min (raw.length : Int) 4 : Int).toNat)]] := hW
 refine Zb (a_lenN (n := ([x, raw.take (min (raw.length : Int) 4 : Int).toNat]).length) (hO₃.sl 3 rfl : Sl eV k₃ v₃ [v₁, (V.cut v_raw 0 (min (raw.length : Int) 4 : Int).toNat)]) rfl rfl) (Zb (a_mv (v := .i .i64 0) rfl) (Zh (Ze (W_bl ?_))))
 obtain ⟨o₁, ho₁, hp⟩ := Zt hp
 refine W.mono (Q := fun e fr k => match (generalizing := false) o₁ with
   | .inl _ => e = (.exit 0) ∧ Own B h k []
   | .inr _ => e = .ret ∧ fr 4 = .b false ∧ Own B h k []) ?_ ?_
 ·clear hp
  refine z3 (fun st fr k => match st with | x2 => fr 30 = v₃ ∧ fr 31 = .i .i64 ([x, raw.take (min (raw.length : Int) 4 : Int).toNat].length : Int) ∧ fr 32 = .i .i64 x2 ∧ Own B h k [eSl eV v₃ [v₁, (V.cut v_raw 0 (min (raw.length : Int) 4 : Int).toNat)], eSl Zf v₁ x]) ho₁ (s := 0) (And.intro (rfl) (And.intro (rfl) (And.intro (rfl) (hO₃.pick [3, 1] rfl (by decide))))) ?_
  rintro x2 q₂ k₅ ⟨q₂_30, q₂_31, q₂_32, hO₅⟩ o₂ hp
  dsimp only [ZK.s0] at hp
  refine W_sq (W_rg (Zb (a_lss (a := x2) (b := ([x, raw.take (min (raw.length : Int) 4 : Int).toNat].length : Int)) q₂_32 q₂_31) (Zh (Ze (W_sq ?_)))))
  rcases Zv hp with ⟨b₁, hp⟩ | ⟨b₁, hp⟩
  ·refine W_cT (t := (decide (x2 < ([x, raw.take (min (raw.length : Int) 4 : Int).toNat].length : Int)))) rfl b₁ ?_
   refine W_sk (Ze (W_sq (W_bl (W_sq (W_rg ?_)))))
   obtain ⟨c₂, hp⟩ := Zo hp
   refine Zb (a_ixa (E := eV) (z := x2) (hO₅.sl 0 rfl : Sl eV k₅ v₃ [v₁, (V.cut v_raw 0 (min (raw.length : Int) 4 : Int).toNat)]) q₂_30 q₂_32 c₂) (Zb (zH (w := (gi [v₁, (V.cut v_raw 0 (min (raw.length : Int) 4 : Int).toNat)] (x2 : Int).toNat)) (hO₅.sl 0 rfl : Sl eV k₅ v₃ [v₁, (V.cut v_raw 0 (min (raw.length : Int) 4 : Int).toNat)]) rfl (Zq c₂) rfl) (Zb (a_mv (v := (gi [v₁, (V.cut v_raw 0 (min (raw.length : Int) 4 : Int).toNat)] (x2 : Int).toNat)) rfl) (Zh (Ze (W_sq (W_rg (Zb (a_mv (v := (gi [v₁, (V.cut v_raw 0 (min (raw.length : Int) 4 : Int).toNat)] (x2 : Int).toNat)) rfl) ?_)))))))
   obtain ⟨⟨x3, x4⟩, hx₂, hp⟩ := Zt hp
   obtain ⟨u₂, k₆, ca₂, rfl, hW₂⟩ := zT.ok (h := k₅)  (Lit.at (Lit.cons (hO₅.sl 1 rfl : Sl Zf k₅ v₁ x) (Lit.cons (Sl.cutU (hO₅.rd0 s_raw.rd : Sl Zf k₅ v_raw raw) c₁ : Sl Zf k₅ (V.cut v_raw 0 (min (raw.length : Int) 4 : Int).toNat) (raw.take (min (raw.length : Int) 4 : Int).toNat)) Lit.nil)) (Zq c₂) : Sl Zf k₅ (gi [v₁, (V.cut v_raw 0 (min (raw.length : Int) 4 : Int).toNat)] (x2 : Int).toNat) (gi [x, raw.take (min (raw.length : Int) 4 : Int).toNat] (x2 : Int).toNat)) hx₂
   refine Zaj (id := 180) (caps := []) rfl (Z7 (v := (gi [v₁, (V.cut v_raw 0 (min (raw.length : Int) 4 : Int).toNat)] (x2 : Int).toNat)) rfl zl) ca₂ ?_
   have hO₆ : Own B h k₆ [eSl eV v₃ [v₁, (V.cut v_raw 0 (min (raw.length : Int) 4 : Int).toNat)], eSl Zf v₁ x] := hO₅.call hW₂ rfl
   refine Zb (a_mv (v := .tu [.b x3, .i .i64 x4]) rfl) (Zb (Zax (vs := [.b x3, .i .i64 x4]) (v := .b x3) rfl rfl) (Zb (Zax (vs := [.b x3, .i .i64 x4]) (v := .i .i64 x4) rfl rfl) (Zb (a_mv (v := .b x3) rfl) (Zb (a_mv (v := .i .i64 x4) rfl) (Zh (Ze (W_sq ?_)))))))
   refine W_rg (Zb (a_mv (v := (gi [v₁, (V.cut v_raw 0 (min (raw.length : Int) 4 : Int).toNat)] (x2 : Int).toNat)) rfl) ?_)
   obtain ⟨⟨x5, x6⟩, hx₃, hp⟩ := Zt hp
   obtain ⟨u₃, k₇, ca₃, rfl, hW₃⟩ := zG.ok (h := k₆)  (Lit.at (Lit.cons (hO₆.sl 1 rfl : Sl Zf k₆ v₁ x) (Lit.cons (Sl.cutU (hO₆.rd0 s_raw.rd : Sl Zf k₆ v_raw raw) c₁ : Sl Zf k₆ (V.cut v_raw 0 (min (raw.length : Int) 4 : Int).toNat) (raw.take (min (raw.length : Int) 4 : Int).toNat)) Lit.nil)) (Zq c₂) : Sl Zf k₆ (gi [v₁, (V.cut v_raw 0 (min (raw.length : Int) 4 : Int).toNat)] (x2 : Int).toNat) (gi [x, raw.take (min (raw.length : Int) 4 : Int).toNat] (x2 : Int).toNat)) hx₃
   refine Zaj (id := 181) (caps := []) rfl (Z7 (v := (gi [v₁, (V.cut v_raw 0 (min (raw.length : Int) 4 : Int).toNat)] (x2 : Int).toNat)) rfl zl) ca₃ ?_
   have hO₇ : Own B h k₇ [eSl eV v₃ [v₁, (V.cut v_raw 0 (min (raw.length : Int) 4 : Int).toNat)], eSl Zf v₁ x] := hO₆.call hW₃ rfl
   refine Zb (a_mv (v := .tu [.i .i64 x5, .i .i64 x6]) rfl) (Zb (Zax (vs := [.i .i64 x5, .i .i64 x6]) (v := .i .i64 x5) rfl rfl) (Zb (Zax (vs := [.i .i64 x5, .i .i64 x6]) (v := .i .i64 x6) rfl rfl) (Zb (a_mv (v := .i .i64 x5) rfl) (Zb (a_mv (v := .i .i64 x6) rfl) (Zh (Ze (W_sq ?_)))))))
   refine W_sq (W_rg (Zb (a_mv (v := .i .i64 x4) rfl) (Zb (a_mv (v := .i .i64 x6) rfl) (Zb (a_neI (a := x4) (b := x6) rfl rfl) (Zh (Ze ?_))))))
   rcases Zv hp with ⟨b₂, hp⟩ | ⟨b₂, hp⟩
   ·refine W_cT (t := (!(decide (x4 = x6)))) rfl b₂ ?_
    refine W_sq (W_rg (Zb (a_mv (v := .b false) rfl) (Zh (Ze (W_rt (zy (Zak ?_)))))))
    refine zy ?_
    have hp := Option.some.inj hp; subst hp
    refine (Or.inr (Exists.intro (.inr ()) (And.intro rfl (And.intro (fun h => nomatch h) (fun he => ?_)))))
    subst he; exact (And.intro rfl (And.intro (rfl) (hO₇.pick [] rfl (by decide))))
   ·refine W_cF (t := (!(decide (x4 = x6)))) rfl b₂ ?_
    refine W_sk (Ze (W_sq (W_rg (Zb (a_mv (v := .i .i64 x6) rfl) (Zb (a_eqI (a := x6) (b := 0) rfl rfl) (Zb (a_mv (v := .b (decide (x6 = 0))) rfl) (Zh ?_)))))))
    refine Ze (W_sq (W_sq (W_rg (Zb (a_mv (v := .b (decide (x6 = 0))) rfl) (Zh (Ze ?_))))))
    rcases Zv hp with ⟨b₃, hp⟩ | ⟨b₃, hp⟩
    ·refine W_cT (t := (decide (x6 = 0))) rfl b₃ ?_
     refine W_sq (W_rg (Zb (a_mv (v := (gi [v₁, (V.cut v_raw 0 (min (raw.length : Int) 4 : Int).toNat)] (x2 : Int).toNat)) rfl) ?_))
     obtain ⟨x7, hx₄, hp⟩ := Zt hp
     obtain ⟨u₄, k₈, ca₄, v₄, vs₁, rfl, hW₄⟩ := ZL.ok (h := k₇)  (Lit.at (Lit.cons (hO₇.sl 1 rfl : Sl Zf k₇ v₁ x) (Lit.cons (Sl.cutU (hO₇.rd0 s_raw.rd : Sl Zf k₇ v_raw raw) c₁ : Sl Zf k₇ (V.cut v_raw 0 (min (raw.length : Int) 4 : Int).toNat) (raw.take (min (raw.length : Int) 4 : Int).toNat)) Lit.nil)) (Zq c₂) : Sl Zf k₇ (gi [v₁, (V.cut v_raw 0 (min (raw.length : Int) 4 : Int).toNat)] (x2 : Int).toNat) (gi [x, raw.take (min (raw.length : Int) 4 : Int).toNat] (x2 : Int).toNat)) hx₄
     refine Zaj (id := 177) (caps := []) rfl (Z7 (v := (gi [v₁, (V.cut v_raw 0 (min (raw.length : Int) 4 : Int).toNat)] (x2 : Int).toNat)) rfl zl) ca₄ ?_
     have hO₈ : Own B h k₈ [eSl eV v₃ [v₁, (V.cut v_raw 0 (min (raw.length : Int) 4 : Int).toNat)], eSl Zf v₁ x, eSl eV v₄ vs₁, eAll Zi vs₁ x7] := hO₇.call hW₄ rfl
     refine Zb (a_lenN (n := (x7).length) (hO₈.sl 2 rfl : Sl eV k₈ v₄ vs₁) (hO₈.allLen 3 rfl : (vs₁).length = (x7).length) rfl) (Zb (a_mv (v := .i .i64 0) rfl) (Zh (Ze (W_bl ?_))))
     obtain ⟨o₃, ho₂, hp⟩ := Zt hp
     refine W.mono (Q := fun e fr k => match (generalizing := false) o₃ with
       | want1 => e = (.exit 2) ∧ fr 9 = .b x3 ∧ fr 13 = .b want1 ∧ fr 30 = v₃ ∧ fr 31 = .i .i64 ([x, raw.take (min (raw.length : Int) 4 : Int).toNat].length : Int) ∧ fr 32 = .i .i64 x2 ∧ Own B h k [eSl eV v₃ [v₁, (V.cut v_raw 0 (min (raw.length : Int) 4 : Int).toNat)], eSl Zf v₁ x]) ?_ ?_
     ·clear hp
      refine z3 (fun st fr k => match st with | (want, x8) => fr 8 = (gi [v₁, (V.cut v_raw 0 (min (raw.length : Int) 4 : Int).toNat)] (x2 : Int).toNat) ∧ fr 9 = .b x3 ∧ fr 13 = .b want ∧ fr 30 = v₃ ∧ fr 31 = .i .i64 ([x, raw.take (min (raw.length : Int) 4 : Int).toNat].length : Int) ∧ fr 32 = .i .i64 x2 ∧ fr 53 = v₄ ∧ fr 54 = .i .i64 (x7.length : Int) ∧ fr 55 = .i .i64 x8 ∧ Own B h k [eSl Zf v₁ x, eSl eV v₃ [v₁, (V.cut v_raw 0 (min (raw.length : Int) 4 : Int).toNat)], eSl eV v₄ vs₁, eAll Zi vs₁ x7]) ho₂ (s := (decide (x6 = 0), 0)) (And.intro (rfl) (And.intro (rfl) (And.intro (rfl) (And.intro (q₂_30) (And.intro (q₂_31) (And.intro (q₂_32) (And.intro (rfl) (And.intro (rfl) (And.intro (rfl) (hO₈.pick [1, 0, 2, 3] rfl (by decide))))))))))) ?_
      rintro ⟨want, x8⟩ q₄ k₁₀ ⟨q₄_8, q₄_9, q₄_13, q₄_30, q₄_31, q₄_32, q₄_53, q₄_54, q₄_55, hO₁₀⟩ o₄ hp
      dsimp only [ZK.s1] at hp
      refine W_sq (W_rg (Zb (a_lss (a := x8) (b := (x7.length : Int)) q₄_55 q₄_54) (Zh (Ze (W_sq ?_)))))
      rcases Zv hp with ⟨b₄, hp⟩ | ⟨b₄, hp⟩
      ·refine W_cT (t := (decide (x8 < (x7.length : Int)))) rfl b₄ ?_
       refine W_sk (Ze (W_sq (W_bl (W_sq (W_rg ?_)))))
       obtain ⟨c₃, hp⟩ := Zo hp
       refine Zb (a_ixa (E := eV) (z := x8) (hO₁₀.sl 2 rfl : Sl eV k₁₀ v₄ vs₁) q₄_53 q₄_55 (by rw [(hO₁₀.allLen 3 rfl : (vs₁).length = (x7).length)]; exact c₃)) (Zb (zH (w := (gi vs₁ (x8 : Int).toNat)) (hO₁₀.sl 2 rfl : Sl eV k₁₀ v₄ vs₁) rfl (by rw [(hO₁₀.allLen 3 rfl : (vs₁).length = (x7).length)]; exact Zq c₃) rfl) (Zb (a_mv (v := (gi vs₁ (x8 : Int).toNat)) rfl) (Zh (Ze (W_sq (W_rg (Zb (a_mv (v := (gi [v₁, (V.cut v_raw 0 (min (raw.length : Int) 4 : Int).toNat)] (x2 : Int).toNat)) q₄_8) ?_)))))))
       refine Zb (a_mv (v := (gi vs₁ (x8 : Int).toNat)) rfl) ?_
       obtain ⟨x9, hx₅, hp⟩ := Zt hp
       obtain ⟨u₅, k₁₁, ca₅, v₅, rfl, hW₅⟩ := zA.ok (h := k₁₀)  (Lit.at (Lit.cons (hO₁₀.sl 0 rfl : Sl Zf k₁₀ v₁ x) (Lit.cons (Sl.cutU (hO₁₀.rd0 s_raw.rd : Sl Zf k₁₀ v_raw raw) c₁ : Sl Zf k₁₀ (V.cut v_raw 0 (min (raw.length : Int) 4 : Int).toNat) (raw.take (min (raw.length : Int) 4 : Int).toNat)) Lit.nil)) (Zq c₂) : Sl Zf k₁₀ (gi [v₁, (V.cut v_raw 0 (min (raw.length : Int) 4 : Int).toNat)] (x2 : Int).toNat) (gi [x, raw.take (min (raw.length : Int) 4 : Int).toNat] (x2 : Int).toNat)) (hO₁₀.inn 3 rfl (Zq c₃) : Sl Zi k₁₀ (gi vs₁ (x8 : Int).toNat) (gi x7 (x8 : Int).toNat)) hx₅
       refine Zaj (id := 182) (caps := []) rfl (Z7 (v := (gi [v₁, (V.cut v_raw 0 (min (raw.length : Int) 4 : Int).toNat)] (x2 : Int).toNat)) rfl (Z7 (v := (gi vs₁ (x8 : Int).toNat)) rfl zl)) ca₅ ?_
       have hO₁₁ : Own B h k₁₁ [eSl Zf v₁ x, eSl eV v₃ [v₁, (V.cut v_raw 0 (min (raw.length : Int) 4 : Int).toNat)], eSl eV v₄ vs₁, eAll Zi vs₁ x7, eSl eInt v₅ x9] := hO₁₀.call hW₅ rfl
       obtain ⟨⟨x10, x11, x12⟩, hx₆, hp⟩ := Zt hp
       obtain ⟨u₆, k₁₂, ca₆, rfl, hW₆⟩ := zf.ok (h := k₁₁)  (hO₁₁.sl 4 rfl : Sl eInt k₁₁ v₅ x9) hx₆
       refine Zaj (id := 25) (caps := []) rfl (Z7 (v := v₅) rfl zl) ca₆ ?_
       have hO₁₂ : Own B h k₁₂ [eSl Zf v₁ x, eSl eV v₃ [v₁, (V.cut v_raw 0 (min (raw.length : Int) 4 : Int).toNat)], eSl eV v₄ vs₁, eAll Zi vs₁ x7, eSl eInt v₅ x9] := hO₁₁.call hW₆ rfl
       refine Zb (a_mv (v := .tu [.ag (Zc.c x10), .ag (Zc.c x11), .b x12]) rfl) (Zb (Zax (vs := [.ag (Zc.c x10), .ag (Zc.c x11), .b x12]) (v := .ag (Zc.c x10)) rfl rfl) (Zb (Zax (vs := [.ag (Zc.c x10), .ag (Zc.c x11), .b x12]) (v := .ag (Zc.c x11)) rfl rfl) (Zb (Zax (vs := [.ag (Zc.c x10), .ag (Zc.c x11), .b x12]) (v := .b x12) rfl rfl) (zq (hO₁₂.alloc (cs := Zc.c (⟨0, 0⟩ : Zl)) hO₁₂.fr) ?_))))
       rintro _ k₁₃ ⟨r₃, rfl, n₂, f₃, hW⟩
       have hO₁₃ : Own B h k₁₃ [eSl Zf v₁ x, eSl eV v₃ [v₁, (V.cut v_raw 0 (min (raw.length : Int) 4 : Int).toNat)], eSl eV v₄ vs₁, eAll Zi vs₁ x7, eSl eInt v₅ x9, eBox r₃ (Zc.c (⟨0, 0⟩ : Zl))] := hW
       refine zq (hO₁₃.alloc (cs := Zc.c (⟨0, 0⟩ : Zl)) hO₁₃.fr) ?_
       rintro _ k₁₄ ⟨r₄, rfl, n₃, f₄, hW⟩
       have hO₁₄ : Own B h k₁₄ [eSl Zf v₁ x, eSl eV v₃ [v₁, (V.cut v_raw 0 (min (raw.length : Int) 4 : Int).toNat)], eSl eV v₄ vs₁, eAll Zi vs₁ x7, eSl eInt v₅ x9, eBox r₃ (Zc.c (⟨0, 0⟩ : Zl)), eBox r₄ (Zc.c (⟨0, 0⟩ : Zl))] := hW
       refine zq (hO₁₄.stb (ws := Zc.c x10) (cs' := Zc.c x10) (v := .ag (Zc.c x10)) 5 rfl rfl rfl rfl ⟨rfl, Nat.le_of_ble_eq_true rfl, rfl⟩ rfl) ?_
       rintro _ k₁₅ ⟨rfl, f₅, m₁, hW⟩
       have hO₁₅ : Own B h k₁₅ [eSl Zf v₁ x, eSl eV v₃ [v₁, (V.cut v_raw 0 (min (raw.length : Int) 4 : Int).toNat)], eSl eV v₄ vs₁, eAll Zi vs₁ x7, eSl eInt v₅ x9, eBox r₃ (Zc.c x10), eBox r₄ (Zc.c (⟨0, 0⟩ : Zl))] := hW
       refine zq (hO₁₅.stb (ws := Zc.c x11) (cs' := Zc.c x11) (v := .ag (Zc.c x11)) 6 rfl rfl rfl rfl ⟨rfl, Nat.le_of_ble_eq_true rfl, rfl⟩ rfl) ?_
       rintro _ k₁₆ ⟨rfl, f₆, m₂, hW⟩
       have hO₁₆ : Own B h k₁₆ [eSl Zf v₁ x, eSl eV v₃ [v₁, (V.cut v_raw 0 (min (raw.length : Int) 4 : Int).toNat)], eSl eV v₄ vs₁, eAll Zi vs₁ x7, eSl eInt v₅ x9, eBox r₃ (Zc.c x10), eBox r₄ (Zc.c x11)] := hW
       refine Zb (a_mv (v := .b x12) rfl) (Zh (Ze (W_sq (W_rg (Zb (a_mv (v := .b x12) rfl) (Zh (Ze ?_)))))))
       rcases Zv hp with ⟨b₅, hp⟩ | ⟨b₅, hp⟩
       ·refine W_cT (t := x12) rfl b₅ ?_
        refine W_rg (Zb (a_mv (v := .b false) rfl) (Zh (zL (Ze (W_rg ?_)))))
        obtain ⟨c₄, hp⟩ := Zo hp
        refine Zb (a_add (a := x8) (b := 1) q₄_55 rfl c₄) (Zb (a_mv (v := .i .i64 (x8 + 1)) rfl) (Zh ?_))
        have hp := Option.some.inj hp; subst hp
        exact (Or.inl (Exists.intro (false, x8 + 1) (And.intro rfl (And.intro rfl (And.intro (q₄_8) (And.intro (q₄_9) (And.intro (rfl) (And.intro (q₄_30) (And.intro (q₄_31) (And.intro (q₄_32) (And.intro (q₄_53) (And.intro (q₄_54) (And.intro (rfl) (hO₁₆.pick [0, 1, 2, 3] rfl (by decide)))))))))))))))
       ·refine W_cF (t := x12) rfl b₅ ?_
        refine W_sk (zL (Ze (W_rg ?_)))
        obtain ⟨c₅, hp⟩ := Zo hp
        refine Zb (a_add (a := x8) (b := 1) q₄_55 rfl c₅) (Zb (a_mv (v := .i .i64 (x8 + 1)) rfl) (Zh ?_))
        have hp := Option.some.inj hp; subst hp
        exact (Or.inl (Exists.intro (want, x8 + 1) (And.intro rfl (And.intro rfl (And.intro (q₄_8) (And.intro (q₄_9) (And.intro (q₄_13) (And.intro (q₄_30) (And.intro (q₄_31) (And.intro (q₄_32) (And.intro (q₄_53) (And.intro (q₄_54) (And.intro (rfl) (hO₁₆.pick [0, 1, 2, 3] rfl (by decide)))))))))))))))
      ·refine W_cF (t := (decide (x8 < (x7.length : Int)))) rfl b₄ ?_
       refine W_ex (zC ?_)
       have hp := Option.some.inj hp; subst hp
       refine (Or.inr (Exists.intro want (And.intro rfl (And.intro (fun h => nomatch h) (fun he => ?_)))))
       subst he; exact (And.intro rfl (And.intro (q₄_9) (And.intro (q₄_13) (And.intro (q₄_30) (And.intro (q₄_31) (And.intro (q₄_32) (hO₁₀.pick [1, 0] rfl (by decide))))))))
     intro e₂ q₃ k₉ hJ₂
     obtain ⟨want1, rfl⟩ : ∃ x, x = o₃ := ⟨_, rfl⟩
     obtain ⟨rfl, q₃_9, q₃_13, q₃_30, q₃_31, q₃_32, hO₉⟩ := hJ₂
     refine zS (Ze (W_sq (W_rg (Zb (a_mv (v := .b x3) q₃_9) (Zb (a_mv (v := .b want1) q₃_13) (Zb (a_neB (a := x3) (b := want1) rfl rfl) (Zh ?_)))))))
     refine Ze ?_
     rcases Zv hp with ⟨b₆, hp⟩ | ⟨b₆, hp⟩
     ·refine W_cT (t := (!(decide (x3 = want1)))) rfl b₆ ?_
      refine W_sq (W_rg (Zb (a_mv (v := .b false) rfl) (Zh (Ze (W_rt (Zak (zy ?_)))))))
      have hp := Option.some.inj hp; subst hp
      refine (Or.inr (Exists.intro (.inr ()) (And.intro rfl (And.intro (fun h => nomatch h) (fun he => ?_)))))
      subst he; exact (And.intro rfl (And.intro (rfl) (hO₉.pick [] rfl (by decide))))
     ·refine W_cF (t := (!(decide (x3 = want1)))) rfl b₆ ?_
      refine W_sk (zL (Ze (W_rg ?_)))
      obtain ⟨c₆, hp⟩ := Zo hp
      refine Zb (a_add (a := x2) (b := 1) q₃_32 rfl c₆) (Zb (a_mv (v := .i .i64 (x2 + 1)) rfl) (Zh ?_))
      have hp := Option.some.inj hp; subst hp
      exact (Or.inl (Exists.intro (x2 + 1) (And.intro rfl (And.intro rfl (And.intro (q₃_30) (And.intro (q₃_31) (And.intro (rfl) (hO₉.pick [0, 1] rfl (by decide)))))))))
    ·refine W_cF (t := (decide (x6 = 0))) rfl b₃ ?_
     refine W_sk (Ze (W_sq (W_rg (Zb (a_mv (v := .b x3) rfl) (Zb (a_mv (v := .b (decide (x6 = 0))) rfl) (Zb (a_neB (a := x3) (b := (decide (x6 = 0))) rfl rfl) (Zh ?_)))))))
     refine Ze ?_
     rcases Zv hp with ⟨b₇, hp⟩ | ⟨b₇, hp⟩
     ·refine W_cT (t := (!(decide (x3 = (decide (x6 = 0)))))) rfl b₇ ?_
      refine W_sq (W_rg (Zb (a_mv (v := .b false) rfl) (Zh (Ze (W_rt (Zak (zy ?_)))))))
      have hp := Option.some.inj hp; subst hp
      refine (Or.inr (Exists.intro (.inr ()) (And.intro rfl (And.intro (fun h => nomatch h) (fun he => ?_)))))
      subst he; exact (And.intro rfl (And.intro (rfl) (hO₇.pick [] rfl (by decide))))
     ·refine W_cF (t := (!(decide (x3 = (decide (x6 = 0)))))) rfl b₇ ?_
      refine W_sk (zL (Ze (W_rg ?_)))
      obtain ⟨c₇, hp⟩ := Zo hp
      refine Zb (a_add (a := x2) (b := 1) q₂_32 rfl c₇) (Zb (a_mv (v := .i .i64 (x2 + 1)) rfl) (Zh ?_))
      have hp := Option.some.inj hp; subst hp
      exact (Or.inl (Exists.intro (x2 + 1) (And.intro rfl (And.intro rfl (And.intro (q₂_30) (And.intro (q₂_31) (And.intro (rfl) (hO₇.pick [0, 1] rfl (by decide)))))))))
  ·refine W_cF (t := (decide (x2 < ([x, raw.take (min (raw.length : Int) 4 : Int).toNat].length : Int)))) rfl b₁ ?_
   refine W_ex (zC ?_)
   have hp := Option.some.inj hp; subst hp
   refine (Or.inr (Exists.intro (.inl ()) (And.intro rfl (And.intro (fun h => nomatch h) (fun he => ?_)))))
   subst he; exact (And.intro rfl (hO₅.pick [] rfl (by decide)))
 intro e₁ q₁ k₄ hJ₁
 rcases o₁ with _ | _
 ·obtain ⟨rfl, hO₄⟩ := hJ₁
  refine zS (Ze (W_sq (W_rg ?_)))
  obtain ⟨x13, hx₇, hp⟩ := Zt hp
  obtain ⟨u₇, k₁₇, ca₇, rfl, hW₇⟩ := Zav.ok (h := k₄)   hx₇
  refine Zaj (id := 27) (caps := []) rfl zl ca₇ ?_
  have hO₁₇ : Own B h k₁₇ [] := hO₄.call hW₇ rfl
  refine Zb (a_mv (v := .b x13) rfl) (Zh (Ze (W_rt (Ret_r (rs_t (n := 4) (v := .b x13) rfl rs_nil) ?_))))
  have hp := Option.some.inj hp; subst hp
  exact (And.intro rfl (hO₁₇.pick [] rfl (by decide)))
 ·obtain ⟨rfl, q₁_4, hO₄⟩ := hJ₁
  refine Zak (zy (Ret_r (rs_t (n := 4) (v := .b false) q₁_4 rs_nil) ?_))
  have hp := Option.some.inj hp; subst hp
  exact (And.intro rfl (hO₄.pick [] rfl (by decide)))

end Mu
