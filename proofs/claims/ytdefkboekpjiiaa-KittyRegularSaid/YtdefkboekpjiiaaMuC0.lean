/- The code comes to what was worked out. -/
import Derived.Test.YtdefkboekpjiiaaMuDf
import Derived.Test.YtdefkboekpjiiaaMuPa
set_option linter.unusedVariables false
set_option linter.unnecessarySimpa false
set_option linter.unusedSimpArgs false
set_option maxHeartbeats 2000000
set_option maxRecDepth 10000
namespace Mu
open Go (IntKind BinOp UnOp)
theorem zP {x : Zk} {i : Int} (h : 0 ≤ i ∧ i < 4) : (Zf.c x)[0 + i.toNat * 1]? = some (.i .i64 ((x.Next).get i)) := by
 rcases (show i = 0 ∨ i = 1 ∨ i = 2 ∨ i = 3 by omega) with rfl | rfl | rfl | rfl <;> rfl
theorem ZaE {x : Zk} {i : Int} {w : Int} (h : 0 ≤ i ∧ i < 4) : over (Zf.c x) (0 + i.toNat * 1) [.i .i64 w] = Zf.c ({ x with Next := (x.Next).set i w }) := by
 rcases (show i = 0 ∨ i = 1 ∨ i = 2 ∨ i = 3 by omega) with rfl | rfl | rfl | rfl <;> rfl
theorem Za6 {x : Zk} {i : Int} (h : 0 ≤ i ∧ i < 4) : (Zf.c x)[4 + i.toNat * 1]? = some (.i .i64 ((x.Owner).get i)) := by
 rcases (show i = 0 ∨ i = 1 ∨ i = 2 ∨ i = 3 by omega) with rfl | rfl | rfl | rfl <;> rfl
theorem ZaI {x : Zk} {i : Int} {w : Int} (h : 0 ≤ i ∧ i < 4) : over (Zf.c x) (4 + i.toNat * 1) [.i .i64 w] = Zf.c ({ x with Owner := (x.Owner).set i w }) := by
 rcases (show i = 0 ∨ i = 1 ∨ i = 2 ∨ i = 3 by omega) with rfl | rfl | rfl | rfl <;> rfl
theorem ZaV {x : A4 Int} {i : Int} (h : 0 ≤ i ∧ i < 4) : (Za9.c x)[0 + i.toNat * 1]? = some (.i .i64 ((x).get i)) := by
 rcases (show i = 0 ∨ i = 1 ∨ i = 2 ∨ i = 3 by omega) with rfl | rfl | rfl | rfl <;> rfl
theorem ZaP {x : A4 Int} {i : Int} (h : 0 ≤ i ∧ i < 4) : partOf false (Za9.c x) (i.toNat * 1) 1 = some (.i .i64 ((x).get i)) := by
 rcases (show i = 0 ∨ i = 1 ∨ i = 2 ∨ i = 3 by omega) with rfl | rfl | rfl | rfl <;> rfl
theorem ZaU {x : A4 Int} {i : Int} {w : Int} (h : 0 ≤ i ∧ i < 4) : over (Za9.c x) (0 + i.toNat * 1) [.i .i64 w] = Za9.c ((x).set i w) := by
 rcases (show i = 0 ∨ i = 1 ∨ i = 2 ∨ i = 3 by omega) with rfl | rfl | rfl | rfl <;> rfl
theorem dec_u8 (cs : List Go.Value) (h : OkL [some .u8] cs) : ∃ x : Int, ZaJ.c x = cs.map toV ∧ ZaO x := by
 obtain ⟨n0, cs0, rfl, w0, h⟩ := h.inv_i
 obtain rfl := h.inv_n
 exact ⟨n0, rfl, w0⟩
theorem dec_i8 (cs : List Go.Value) (h : OkL [some .i8] cs) : ∃ x : Int, ZaN.c x = cs.map toV ∧ ZaS x := by
 obtain ⟨n0, cs0, rfl, w0, h⟩ := h.inv_i
 obtain rfl := h.inv_n
 exact ⟨n0, rfl, w0⟩
theorem dec_T_api_Cell (cs : List Go.Value) (h : OkL [some .i64, some .i64, some .i64, some .i64, some .i64, some .i64, some .i64, some .i64] cs) : ∃ x : Zk, Zf.c x = cs.map toV ∧ ZaK x := by
 obtain ⟨n0, cs0, rfl, w0, h⟩ := h.inv_i
 obtain ⟨n1, cs1, rfl, w1, h⟩ := h.inv_i
 obtain ⟨n2, cs2, rfl, w2, h⟩ := h.inv_i
 obtain ⟨n3, cs3, rfl, w3, h⟩ := h.inv_i
 obtain ⟨n4, cs4, rfl, w4, h⟩ := h.inv_i
 obtain ⟨n5, cs5, rfl, w5, h⟩ := h.inv_i
 obtain ⟨n6, cs6, rfl, w6, h⟩ := h.inv_i
 obtain ⟨n7, cs7, rfl, w7, h⟩ := h.inv_i
 obtain rfl := h.inv_n
 exact ⟨⟨⟨n0, n1, n2, n3⟩, ⟨n4, n5, n6, n7⟩⟩, rfl, ⟨w0, w1, w2, w3, w4, w5, w6, w7⟩⟩
theorem zx.ok {h : Hp} {n : Int}   {r : (List Zk)} (hp : zx n = some r) :
  ∃ u k', Is G 46 [.i .i64 n] h u k' ∧ ∃ (v₁ : V), v₁ = u ∧ Own (fun r => r < h.n) h k' [eSl Zf v₁ r] := by
 refine WC.is (WC_of G_F_muntinref10_New ?_)
 unfold zx at hp
 let B : Nat → Prop := (fun r => r < h.n)
 have hO : Own B h h [] := Own.start0 h
 refine W_sq (W_rg (Zb (a_mv (v := .sn) rfl) (Zh (Ze (W_sq (W_rg (Zb (a_mv (v := .i .i64 n) rfl) ?_)))))))
 obtain ⟨c₁, hp⟩ := Zo hp
 refine zq (hO.mks (E := Zf) (y := (⟨⟨0, 0, 0, 0⟩, ⟨0, 0, 0, 0⟩⟩ : Zk)) (bytes := 64) (z := n) hO.fr rfl rfl rfl c₁ (by decide)) ?_
 rintro v₂ k₁ ⟨r₁, f₁, hW⟩
 have hO₁ : Own B h k₁ [eSl Zf v₂ (List.replicate (n : Int).toNat (⟨⟨0, 0, 0, 0⟩, ⟨0, 0, 0, 0⟩⟩ : Zk))] := hW
 refine Zb (a_mv (v := v₂) rfl) (Zh (Ze (W_sq (W_sq (W_rg (Zb (a_mv (v := .i .i64 0) rfl) (Zh ?_)))))))
 refine Ze (W_bl ?_)
 obtain ⟨o₁, ho₁, hp⟩ := Zt hp
 refine W.mono (Q := fun e fr k => match (generalizing := false) o₁ with
   | l1 => e = (.exit 0) ∧ fr 3 = v₂ ∧ Own B h k [eSl Zf v₂ l1]) ?_ ?_
 ·clear hp
  refine z3 (fun st fr k => match st with | (l, v) => fr 0 = .i .i64 n ∧ fr 3 = v₂ ∧ fr 4 = .i .i64 v ∧ Own B h k [eSl Zf v₂ l]) ho₁ (s := (List.replicate (n : Int).toNat (⟨⟨0, 0, 0, 0⟩, ⟨0, 0, 0, 0⟩⟩ : Zk), 0)) (And.intro (rfl) (And.intro (rfl) (And.intro (rfl) (hO₁.pick [0] rfl (by decide))))) ?_
  rintro ⟨l, v⟩ q₂ k₃ ⟨q₂_0, q₂_3, q₂_4, hO₃⟩ o₂ hp
  dsimp only [zx.s0] at hp
  refine W_sq (W_sq (W_rg (Zb (a_mv (v := .i .i64 v) q₂_4) (Zb (a_mv (v := .i .i64 n) q₂_0) (Zb (a_lss (a := v) (b := n) rfl rfl) (Zh (Ze ?_)))))))
  rcases Zv hp with ⟨b₁, hp⟩ | ⟨b₁, hp⟩
  ·refine W_cT (t := (decide (v < n))) rfl b₁ ?_
   refine W_sk (Ze (W_sq (W_bl (W_sq (W_rg (Zb (a_mv (v := .i .i64 0) rfl) (Zh ?_)))))))
   refine Ze (W_bl ?_)
   obtain ⟨o₃, ho₂, hp⟩ := Zt hp
   refine W.mono (Q := fun e fr k => match (generalizing := false) o₃ with
     | l3 => e = (.exit 2) ∧ fr 0 = .i .i64 n ∧ fr 3 = v₂ ∧ fr 4 = .i .i64 v ∧ Own B h k [eSl Zf v₂ l3]) ?_ ?_
   ·clear hp
    refine z3 (fun st fr k => match st with | (l2, d) => fr 0 = .i .i64 n ∧ fr 3 = v₂ ∧ fr 4 = .i .i64 v ∧ fr 5 = .i .i64 d ∧ Own B h k [eSl Zf v₂ l2]) ho₂ (s := (l, 0)) (And.intro (q₂_0) (And.intro (q₂_3) (And.intro (q₂_4) (And.intro (rfl) (hO₃.pick [0] rfl (by decide)))))) ?_
    rintro ⟨l2, d⟩ q₄ k₅ ⟨q₄_0, q₄_3, q₄_4, q₄_5, hO₅⟩ o₄ hp
    dsimp only [zx.s1] at hp
    refine W_sq (W_sq (W_rg (Zb (a_mv (v := .i .i64 d) q₄_5) (Zb (a_lss (a := d) (b := 4) rfl rfl) (Zh (Ze ?_))))))
    rcases Zv hp with ⟨b₂, hp⟩ | ⟨b₂, hp⟩
    ·refine W_cT (t := (decide (d < 4))) rfl b₂ ?_
     refine W_sk (Ze (W_sq (W_bl (W_rg (Zb (a_mv (v := v₂) q₄_3) (Zb (a_mv (v := .i .i64 v) q₄_4) (Zb (a_mv (v := .i .i64 d) q₄_5) ?_)))))))
     obtain ⟨c₂, hp⟩ := Zo hp
     refine Zb (a_ixa (E := Zf) (z := v) (hO₅.sl 0 rfl : Sl Zf k₅ v₂ l2) rfl rfl c₂) (Zb (Zan (off' := 0) (off2 := 0) (hO₅.sl 0 rfl : Sl Zf k₅ v₂ l2) (Zq c₂) rfl rfl) ?_)
     obtain ⟨c₃, hp⟩ := Zo hp
     refine Zb (Za4 (off := 0) (off2 := (0 + (d : Int).toNat * 1)) (z := d) (hO₅.sl 0 rfl : Sl Zf k₅ v₂ l2) (Zq c₂) rfl rfl c₃ rfl) (zq (hO₅.ste (E := Zf) (y := ({ gi l2 (v : Int).toNat with Next := ((gi l2 (v : Int).toNat).Next).set d (-1) })) (ws := [.i .i64 (-1)]) 0 rfl rfl (Zq c₂) rfl rfl ⟨rfl, (by have := c₃; exact (show 0 + (d : Int).toNat * 1 + 1 ≤ 8 by omega)), rfl⟩ (ZaE c₃)) ?_)
     rintro _ k₆ ⟨rfl, f₂, m₁, hW⟩
     have hO₆ : Own B h k₆ [eSl Zf v₂ (l2.set (v : Int).toNat ({ gi l2 (v : Int).toNat with Next := ((gi l2 (v : Int).toNat).Next).set d (-1) }))] := hW
     refine Zh (zL (Ze (W_rg (Zb (a_mv (v := .i .i64 d) q₄_5) ?_))))
     obtain ⟨c₄, hp⟩ := Zo hp
     refine Zb (a_add (a := d) (b := 1) rfl rfl c₄) (Zb (a_mv (v := .i .i64 (d + 1)) rfl) (Zh ?_))
     have hp := Option.some.inj hp; subst hp
     exact (Or.inl (Exists.intro (l2.set (v : Int).toNat ({ gi l2 (v : Int).toNat with Next := ((gi l2 (v : Int).toNat).Next).set d (-1) }), d + 1) (And.intro rfl (And.intro rfl (And.intro (q₄_0) (And.intro (q₄_3) (And.intro (q₄_4) (And.intro (rfl) (hO₆.pick [0] rfl (by decide))))))))))
    ·refine W_cF (t := (decide (d < 4))) rfl b₂ ?_
     refine W_ex (zC ?_)
     have hp := Option.some.inj hp; subst hp
     refine (Or.inr (Exists.intro l2 (And.intro rfl (And.intro (fun h => nomatch h) (fun he => ?_)))))
     subst he; exact (And.intro rfl (And.intro (q₄_0) (And.intro (q₄_3) (And.intro (q₄_4) (hO₅.pick [0] rfl (by decide))))))
   intro e₂ q₃ k₄ hJ₂
   obtain ⟨l3, rfl⟩ : ∃ x, x = o₃ := ⟨_, rfl⟩
   obtain ⟨rfl, q₃_0, q₃_3, q₃_4, hO₄⟩ := hJ₂
   refine zS (zL (Ze (W_rg (Zb (a_mv (v := .i .i64 v) q₃_4) ?_))))
   obtain ⟨c₅, hp⟩ := Zo hp
   refine Zb (a_add (a := v) (b := 1) rfl rfl c₅) (Zb (a_mv (v := .i .i64 (v + 1)) rfl) (Zh ?_))
   have hp := Option.some.inj hp; subst hp
   exact (Or.inl (Exists.intro (l3, v + 1) (And.intro rfl (And.intro rfl (And.intro (q₃_0) (And.intro (q₃_3) (And.intro (rfl) (hO₄.pick [0] rfl (by decide)))))))))
  ·refine W_cF (t := (decide (v < n))) rfl b₁ ?_
   refine W_ex (zC ?_)
   have hp := Option.some.inj hp; subst hp
   refine (Or.inr (Exists.intro l (And.intro rfl (And.intro (fun h => nomatch h) (fun he => ?_)))))
   subst he; exact (And.intro rfl (And.intro (q₂_3) (hO₃.pick [0] rfl (by decide))))
 intro e₁ q₁ k₂ hJ₁
 obtain ⟨l1, rfl⟩ : ∃ x, x = o₁ := ⟨_, rfl⟩
 obtain ⟨rfl, q₁_3, hO₂⟩ := hJ₁
 refine zS (Ze (W_sq (W_rg (Zb (a_mv (v := v₂) q₁_3) (Zb (a_mv (v := v₂) rfl) (Zh (Ze ?_)))))))
 refine W_rt (Ret_r (rs_t (n := 2) (v := v₂) rfl rs_nil) ?_)
 have hp := Option.some.inj hp; subst hp
 exact (Exists.intro v₂ (And.intro rfl (hO₂.pick [0] rfl (by decide))))

theorem ZU.ok {h : Hp} {at_ : List Zu} {i : Int} {d : Int} {v_at_ : V} (s_at_ : Sl Zj h v_at_ at_) {r : Int} (hp : ZU at_ i d = some r) :
  ∃ u k', Is G 63 [v_at_, .i .i64 i, .i .i64 d] h u k' ∧ V.i .i64 r = u ∧ Own (fun r => r < h.n) h k' [] := by
 refine WC.is (WC_of G_F_muntinref10_Nearest ?_)
 unfold ZU at hp
 let B : Nat → Prop := (fun r => r < h.n)
 have hO : Own B h h [] := Own.start0 h
 refine W_sq (W_rg (Zb (a_mv (v := .i .i64 0) rfl) (Zh (Ze (W_sq (W_rg (Zb (a_mv (v := .i .i64 (-1)) rfl) ?_)))))))
 refine Zh (Ze (W_sq (W_sq (W_rg (Zb (a_mv (v := .i .i64 0) rfl) (Zh (Ze ?_)))))))
 refine W_bl ?_
 obtain ⟨o₁, ho₁, hp⟩ := Zt hp
 refine W.mono (Q := fun e fr k => match (generalizing := false) o₁ with
   | best1 => e = (.exit 0) ∧ fr 7 = .i .i64 best1 ∧ Own B h k []) ?_ ?_
 ·clear hp
  refine z3 (fun st fr k => match st with | (best, k_) => fr 0 = v_at_ ∧ fr 1 = .i .i64 i ∧ fr 2 = .i .i64 d ∧ fr 7 = .i .i64 best ∧ fr 8 = .i .i64 k_ ∧ Own B h k []) ho₁ (s := ((-1), 0)) (And.intro (rfl) (And.intro (rfl) (And.intro (rfl) (And.intro (rfl) (And.intro (rfl) (hO.pick [] rfl (by decide))))))) ?_
  rintro ⟨best, k_⟩ q₂ k₂ ⟨q₂_0, q₂_1, q₂_2, q₂_7, q₂_8, hO₂⟩ o₂ hp
  dsimp only [ZU.s0] at hp
  refine W_sq (W_sq (W_rg (Zb (a_mv (v := .i .i64 k_) q₂_8) (Zb (a_mv (v := v_at_) q₂_0) (Zb (a_len (hO₂.rd0 s_at_.rd : Sl Zj k₂ v_at_ at_) rfl) (Zb (a_lss (a := k_) (b := (at_.length : Int)) rfl rfl) (Zh ?_)))))))
  refine Ze ?_
  rcases Zv hp with ⟨b₁, hp⟩ | ⟨b₁, hp⟩
  ·refine W_cT (t := (decide (k_ < (at_.length : Int)))) rfl b₁ ?_
   refine W_sk (Ze (W_sq (W_bl (W_sq (W_sq (W_qd ?_))))))
   have hW := hO₂.bump 45
   have hO₃ : Own B h (k₂.bump 45) [] := hW
   refine Z8 rfl (a_mv (v := .i .i64 d) q₂_2) (Z8 rfl (a_eqI (a := d) (b := 0) rfl rfl) (Z8 rfl (a_mv (v := .b (decide (d = 0))) rfl) ?_))
   obtain ⟨t, hv₁, hp⟩ := Zt hp
   refine Za7 12 (fun fr' k' => (k₂.bump 45) = k' ∧ fr' 29 = .b t ∧ fr' 0 = v_at_ ∧ fr' 1 = .i .i64 i ∧ fr' 2 = .i .i64 d ∧ fr' 7 = .i .i64 best ∧ fr' 8 = .i .i64 k_) ?_ ?_
   ·clear hp; rcases Zv hv₁ with ⟨b₂, hp⟩ | ⟨b₂, hp⟩
    ·skip
     refine ZI rfl b₂ (Z8 rfl (a_mv (v := v_at_) q₂_0) (ZI rfl b₂ (Z8 rfl (a_mv (v := .i .i64 k_) q₂_8) (ZI rfl b₂ ?_))))
     obtain ⟨c₁, hp⟩ := Zo hp
     refine Z8 rfl (a_ixa (E := Zj) (z := k_) (hO₃.rd0 s_at_.rd : Sl Zj (k₂.bump 45) v_at_ at_) rfl rfl c₁) (ZI rfl b₂ (Z8 rfl (Zan (off' := 0) (off2 := 1) (hO₃.rd0 s_at_.rd : Sl Zj (k₂.bump 45) v_at_ at_) (Zq c₁) rfl rfl) (ZI rfl b₂ (Z8 rfl (zH (w := .i .i64 ((gi at_ (k_ : Int).toNat).Y)) (hO₃.rd0 s_at_.rd : Sl Zj (k₂.bump 45) v_at_ at_) rfl (Zq c₁) rfl) (ZI rfl b₂ (Z8 rfl (a_mv (v := v_at_) q₂_0) (ZI rfl b₂ ?_)))))))
     refine Z8 rfl (a_mv (v := .i .i64 i) q₂_1) (ZI rfl b₂ ?_)
     obtain ⟨c₂, hp⟩ := Zo hp
     refine Z8 rfl (a_ixa (E := Zj) (z := i) (hO₃.rd0 s_at_.rd : Sl Zj (k₂.bump 45) v_at_ at_) rfl rfl c₂) (ZI rfl b₂ (Z8 rfl (Zan (off' := 0) (off2 := 1) (hO₃.rd0 s_at_.rd : Sl Zj (k₂.bump 45) v_at_ at_) (Zq c₂) rfl rfl) (ZI rfl b₂ (Z8 rfl (zH (w := .i .i64 ((gi at_ (i : Int).toNat).Y)) (hO₃.rd0 s_at_.rd : Sl Zj (k₂.bump 45) v_at_ at_) rfl (Zq c₂) rfl) (ZI rfl b₂ (Z8 rfl (a_eqI (a := ((gi at_ (k_ : Int).toNat).Y)) (b := ((gi at_ (i : Int).toNat).Y)) rfl rfl) (Z8 rfl (zk (t := (decide (d = 0))) (v := .b t) rfl b₂ (Eq.trans (b := V.b (decide ((gi at_ (k_ : Int).toNat).Y = (gi at_ (i : Int).toNat).Y))) rfl (congrArg V.b (Option.some.inj hp)))) ?_)))))))
     refine zQ ?_
     exact ⟨rfl, rfl, q₂_0, q₂_1, q₂_2, q₂_7, q₂_8⟩
    ·skip
     refine Z5 rfl b₂ (Z5 rfl b₂ (Z5 rfl b₂ (Z5 rfl b₂ (Z5 rfl b₂ (Z5 rfl b₂ (Z5 rfl b₂ (Z5 rfl b₂ ?_)))))))
     refine Z5 rfl b₂ (Z5 rfl b₂ (Z5 rfl b₂ (Z8 rfl (zi (t := (decide (d = 0))) (v := .b t) rfl b₂ (Eq.trans (b := V.b false) rfl (congrArg V.b (Option.some.inj hp)))) (zQ ?_))))
     exact ⟨rfl, rfl, q₂_0, q₂_1, q₂_2, q₂_7, q₂_8⟩
   rintro frg₁ _ ⟨rfl, g₁_29, g₁_0, g₁_1, g₁_2, g₁_7, g₁_8⟩
   refine Z8 rfl (a_mv (v := .b t) g₁_29) ?_
   obtain ⟨t1, hv₂, hp⟩ := Zt hp
   refine Za7 12 (fun fr' k' => (k₂.bump 45) = k' ∧ fr' 42 = .b t1 ∧ fr' 0 = v_at_ ∧ fr' 1 = .i .i64 i ∧ fr' 2 = .i .i64 d ∧ fr' 7 = .i .i64 best ∧ fr' 8 = .i .i64 k_) ?_ ?_
   ·clear hp; rcases Zv hv₂ with ⟨b₃, hp⟩ | ⟨b₃, hp⟩
    ·skip
     refine ZI rfl b₃ (Z8 rfl (a_mv (v := v_at_) g₁_0) (ZI rfl b₃ (Z8 rfl (a_mv (v := .i .i64 k_) g₁_8) (ZI rfl b₃ ?_))))
     obtain ⟨c₃, hp⟩ := Zo hp
     refine Z8 rfl (a_ixa (E := Zj) (z := k_) (hO₃.rd0 s_at_.rd : Sl Zj (k₂.bump 45) v_at_ at_) rfl rfl c₃) (ZI rfl b₃ (Z8 rfl (Zan (off' := 0) (off2 := 0) (hO₃.rd0 s_at_.rd : Sl Zj (k₂.bump 45) v_at_ at_) (Zq c₃) rfl rfl) (ZI rfl b₃ (Z8 rfl (zH (w := .i .i64 ((gi at_ (k_ : Int).toNat).X)) (hO₃.rd0 s_at_.rd : Sl Zj (k₂.bump 45) v_at_ at_) rfl (Zq c₃) rfl) (ZI rfl b₃ (Z8 rfl (a_mv (v := v_at_) g₁_0) (ZI rfl b₃ ?_)))))))
     refine Z8 rfl (a_mv (v := .i .i64 i) g₁_1) (ZI rfl b₃ ?_)
     obtain ⟨c₄, hp⟩ := Zo hp
     refine Z8 rfl (a_ixa (E := Zj) (z := i) (hO₃.rd0 s_at_.rd : Sl Zj (k₂.bump 45) v_at_ at_) rfl rfl c₄) (ZI rfl b₃ (Z8 rfl (Zan (off' := 0) (off2 := 0) (hO₃.rd0 s_at_.rd : Sl Zj (k₂.bump 45) v_at_ at_) (Zq c₄) rfl rfl) (ZI rfl b₃ (Z8 rfl (zH (w := .i .i64 ((gi at_ (i : Int).toNat).X)) (hO₃.rd0 s_at_.rd : Sl Zj (k₂.bump 45) v_at_ at_) rfl (Zq c₄) rfl) (ZI rfl b₃ (Z8 rfl (a_gtr (a := ((gi at_ (k_ : Int).toNat).X)) (b := ((gi at_ (i : Int).toNat).X)) rfl rfl) (Z8 rfl (zk (t := t) (v := .b t1) rfl b₃ (Eq.trans (b := V.b (decide (((gi at_ (i : Int).toNat).X) < ((gi at_ (k_ : Int).toNat).X)))) rfl (congrArg V.b (Option.some.inj hp)))) ?_)))))))
     refine zQ ?_
     exact ⟨rfl, rfl, g₁_0, g₁_1, g₁_2, g₁_7, g₁_8⟩
    ·skip
     refine Z5 rfl b₃ (Z5 rfl b₃ (Z5 rfl b₃ (Z5 rfl b₃ (Z5 rfl b₃ (Z5 rfl b₃ (Z5 rfl b₃ (Z5 rfl b₃ ?_)))))))
     refine Z5 rfl b₃ (Z5 rfl b₃ (Z5 rfl b₃ (Z8 rfl (zi (t := t) (v := .b t1) rfl b₃ (Eq.trans (b := V.b false) rfl (congrArg V.b (Option.some.inj hp)))) (zQ ?_))))
     exact ⟨rfl, rfl, g₁_0, g₁_1, g₁_2, g₁_7, g₁_8⟩
   rintro frg₂ _ ⟨rfl, g₂_42, g₂_0, g₂_1, g₂_2, g₂_7, g₂_8⟩
   refine Z8 rfl (a_mv (v := .b t1) g₂_42) ?_
   obtain ⟨t2, hv₃, hp⟩ := Zt hp
   refine Za7 16 (fun fr' k' => (k₂.bump 45) = k' ∧ fr' 59 = .b t2 ∧ fr' 0 = v_at_ ∧ fr' 1 = .i .i64 i ∧ fr' 2 = .i .i64 d ∧ fr' 7 = .i .i64 best ∧ fr' 8 = .i .i64 k_) ?_ ?_
   ·clear hp; rcases Zv hv₃ with ⟨b₄, hp⟩ | ⟨b₄, hp⟩
    ·skip
     refine ZI rfl b₄ (Z8 rfl (a_mv (v := .i .i64 best) g₂_7) (ZI rfl b₄ (Z8 rfl (a_lss (a := best) (b := 0) rfl rfl) (ZI rfl b₄ (Z8 rfl (a_mv (v := .b (decide (best < 0))) rfl) ?_)))))
     obtain ⟨t3, hv₄, hp⟩ := Zt hp
     refine Za7 12 (fun fr' k' => (k₂.bump 45) = k' ∧ fr' 58 = .b t3 ∧ fr' 0 = v_at_ ∧ fr' 1 = .i .i64 i ∧ fr' 2 = .i .i64 d ∧ fr' 43 = .b t1 ∧ fr' 7 = .i .i64 best ∧ fr' 8 = .i .i64 k_) ?_ ?_
     ·clear hp; rcases Zv hv₄ with ⟨b₅, hp⟩ | ⟨b₅, hp⟩
      ·skip
       refine Z5 rfl b₅ (Z5 rfl b₅ (Z5 rfl b₅ (Z5 rfl b₅ (Z5 rfl b₅ (Z5 rfl b₅ (Z5 rfl b₅ (Z5 rfl b₅ ?_)))))))
       refine Z5 rfl b₅ (Z5 rfl b₅ (Z5 rfl b₅ (ZI rfl b₄ (Z8 rfl (zk (t := (decide (best < 0))) (v := .b t3) rfl b₅ (Eq.trans (b := V.b true) rfl (congrArg V.b (Option.some.inj hp)))) (zQ ?_)))))
       exact ⟨rfl, rfl, g₂_0, g₂_1, g₂_2, rfl, g₂_7, g₂_8⟩
      ·skip
       refine ZI rfl b₅ (Z8 rfl (a_mv (v := v_at_) g₂_0) (ZI rfl b₅ (Z8 rfl (a_mv (v := .i .i64 k_) g₂_8) (ZI rfl b₅ ?_))))
       obtain ⟨c₅, hp⟩ := Zo hp
       refine Z8 rfl (a_ixa (E := Zj) (z := k_) (hO₃.rd0 s_at_.rd : Sl Zj (k₂.bump 45) v_at_ at_) rfl rfl c₅) (ZI rfl b₅ (Z8 rfl (Zan (off' := 0) (off2 := 0) (hO₃.rd0 s_at_.rd : Sl Zj (k₂.bump 45) v_at_ at_) (Zq c₅) rfl rfl) (ZI rfl b₅ (Z8 rfl (zH (w := .i .i64 ((gi at_ (k_ : Int).toNat).X)) (hO₃.rd0 s_at_.rd : Sl Zj (k₂.bump 45) v_at_ at_) rfl (Zq c₅) rfl) (ZI rfl b₅ (Z8 rfl (a_mv (v := v_at_) g₂_0) (ZI rfl b₅ ?_)))))))
       refine Z8 rfl (a_mv (v := .i .i64 best) g₂_7) (ZI rfl b₅ ?_)
       obtain ⟨c₆, hp⟩ := Zo hp
       refine Z8 rfl (a_ixa (E := Zj) (z := best) (hO₃.rd0 s_at_.rd : Sl Zj (k₂.bump 45) v_at_ at_) rfl rfl c₆) (ZI rfl b₅ (Z8 rfl (Zan (off' := 0) (off2 := 0) (hO₃.rd0 s_at_.rd : Sl Zj (k₂.bump 45) v_at_ at_) (Zq c₆) rfl rfl) (ZI rfl b₅ (Z8 rfl (zH (w := .i .i64 ((gi at_ (best : Int).toNat).X)) (hO₃.rd0 s_at_.rd : Sl Zj (k₂.bump 45) v_at_ at_) rfl (Zq c₆) rfl) (ZI rfl b₅ (Z8 rfl (a_lss (a := ((gi at_ (k_ : Int).toNat).X)) (b := ((gi at_ (best : Int).toNat).X)) rfl rfl) (ZI rfl b₄ ?_)))))))
       refine Z8 rfl (zi (t := (decide (best < 0))) (v := .b t3) rfl b₅ (Eq.trans (b := V.b (decide (((gi at_ (k_ : Int).toNat).X) < ((gi at_ (best : Int).toNat).X)))) rfl (congrArg V.b (Option.some.inj hp)))) (zQ ?_)
       exact ⟨rfl, rfl, g₂_0, g₂_1, g₂_2, rfl, g₂_7, g₂_8⟩
     rintro frg₃ _ ⟨rfl, g₃_58, g₃_0, g₃_1, g₃_2, g₃_43, g₃_7, g₃_8⟩
     refine Z8 rfl (zk (t := t1) (v := .b t2) g₃_43 b₄ (Eq.trans (b := V.b t3) g₃_58 (congrArg V.b (Option.some.inj hp)))) (zQ ?_)
     exact ⟨rfl, rfl, g₃_0, g₃_1, g₃_2, g₃_7, g₃_8⟩
    ·skip
     refine Z5 rfl b₄ (Z5 rfl b₄ (Z5 rfl b₄ (WQ_un rfl (WQ_un rfl (WQ_un rfl (WQ_un rfl (WQ_un rfl ?_)))))))
     refine WQ_un rfl (WQ_un rfl (WQ_un rfl (WQ_un rfl (WQ_un rfl (WQ_un rfl (Z5 rfl b₄ (Z8 rfl (zi (t := t1) (v := .b t2) rfl b₄ (Eq.trans (b := V.b false) rfl (congrArg V.b (Option.some.inj hp)))) ?_)))))))
     refine zQ ?_
     exact ⟨rfl, rfl, g₂_0, g₂_1, g₂_2, g₂_7, g₂_8⟩
   rintro frg₄ _ ⟨rfl, g₄_59, g₄_0, g₄_1, g₄_2, g₄_7, g₄_8⟩
   refine zQ (Ze ?_)
   obtain ⟨o₃, ho₂, hp⟩ := Zt hp
   refine W.mono (Q := fun e fr k => match (generalizing := false) o₃ with
     | best2 => e = .normal ∧ fr 0 = v_at_ ∧ fr 1 = .i .i64 i ∧ fr 2 = .i .i64 d ∧ fr 7 = .i .i64 best2 ∧ fr 8 = .i .i64 k_ ∧ Own B h k []) ?_ ?_
   ·clear hp; have hp := ho₂; clear ho₂
    rcases Zv hp with ⟨b₆, hp⟩ | ⟨b₆, hp⟩
    ·refine W_cT (t := t2) g₄_59 b₆ ?_
     refine W_rg (Zb (a_mv (v := .i .i64 k_) g₄_8) (Zb (a_mv (v := .i .i64 k_) rfl) (Zh ?_)))
     have hp := Option.some.inj hp; subst hp
     exact (And.intro rfl (And.intro (g₄_0) (And.intro (g₄_1) (And.intro (g₄_2) (And.intro (rfl) (And.intro (g₄_8) (hO₃.pick [] rfl (by decide))))))))
    ·refine W_cF (t := t2) g₄_59 b₆ ?_
     refine W_sk ?_
     have hp := Option.some.inj hp; subst hp
     exact (And.intro rfl (And.intro (g₄_0) (And.intro (g₄_1) (And.intro (g₄_2) (And.intro (g₄_7) (And.intro (g₄_8) (hO₃.pick [] rfl (by decide))))))))
   intro e₂ q₃ k₄ hJ₂
   obtain ⟨best2, rfl⟩ : ∃ x, x = o₃ := ⟨_, rfl⟩
   obtain ⟨rfl, q₃_0, q₃_1, q₃_2, q₃_7, q₃_8, hO₄⟩ := hJ₂
   refine Ze (W_sq (W_qd ?_))
   have hW := hO₄.bump 45
   have hO₅ : Own B h (k₄.bump 45) [] := hW
   refine Z8 rfl (a_mv (v := .i .i64 d) q₃_2) (Z8 rfl (a_eqI (a := d) (b := 1) rfl rfl) (Z8 rfl (a_mv (v := .b (decide (d = 1))) rfl) ?_))
   obtain ⟨t4, hv₅, hp⟩ := Zt hp
   refine Za7 12 (fun fr' k' => (k₄.bump 45) = k' ∧ fr' 75 = .b t4 ∧ fr' 0 = v_at_ ∧ fr' 1 = .i .i64 i ∧ fr' 2 = .i .i64 d ∧ fr' 7 = .i .i64 best2 ∧ fr' 8 = .i .i64 k_) ?_ ?_
   ·clear hp; rcases Zv hv₅ with ⟨b₇, hp⟩ | ⟨b₇, hp⟩
    ·skip
     refine ZI rfl b₇ (Z8 rfl (a_mv (v := v_at_) q₃_0) (ZI rfl b₇ (Z8 rfl (a_mv (v := .i .i64 k_) q₃_8) (ZI rfl b₇ ?_))))
     obtain ⟨c₇, hp⟩ := Zo hp
     refine Z8 rfl (a_ixa (E := Zj) (z := k_) (hO₅.rd0 s_at_.rd : Sl Zj (k₄.bump 45) v_at_ at_) rfl rfl c₇) (ZI rfl b₇ (Z8 rfl (Zan (off' := 0) (off2 := 0) (hO₅.rd0 s_at_.rd : Sl Zj (k₄.bump 45) v_at_ at_) (Zq c₇) rfl rfl) (ZI rfl b₇ (Z8 rfl (zH (w := .i .i64 ((gi at_ (k_ : Int).toNat).X)) (hO₅.rd0 s_at_.rd : Sl Zj (k₄.bump 45) v_at_ at_) rfl (Zq c₇) rfl) (ZI rfl b₇ (Z8 rfl (a_mv (v := v_at_) q₃_0) (ZI rfl b₇ ?_)))))))
     refine Z8 rfl (a_mv (v := .i .i64 i) q₃_1) (ZI rfl b₇ ?_)
     obtain ⟨c₈, hp⟩ := Zo hp
     refine Z8 rfl (a_ixa (E := Zj) (z := i) (hO₅.rd0 s_at_.rd : Sl Zj (k₄.bump 45) v_at_ at_) rfl rfl c₈) (ZI rfl b₇ (Z8 rfl (Zan (off' := 0) (off2 := 0) (hO₅.rd0 s_at_.rd : Sl Zj (k₄.bump 45) v_at_ at_) (Zq c₈) rfl rfl) (ZI rfl b₇ (Z8 rfl (zH (w := .i .i64 ((gi at_ (i : Int).toNat).X)) (hO₅.rd0 s_at_.rd : Sl Zj (k₄.bump 45) v_at_ at_) rfl (Zq c₈) rfl) (ZI rfl b₇ (Z8 rfl (a_eqI (a := ((gi at_ (k_ : Int).toNat).X)) (b := ((gi at_ (i : Int).toNat).X)) rfl rfl) (Z8 rfl (zk (t := (decide (d = 1))) (v := .b t4) rfl b₇ (Eq.trans (b := V.b (decide ((gi at_ (k_ : Int).toNat).X = (gi at_ (i : Int).toNat).X))) rfl (congrArg V.b (Option.some.inj hp)))) ?_)))))))
     refine zQ ?_
     exact ⟨rfl, rfl, q₃_0, q₃_1, q₃_2, q₃_7, q₃_8⟩
    ·skip
     refine Z5 rfl b₇ (Z5 rfl b₇ (Z5 rfl b₇ (Z5 rfl b₇ (Z5 rfl b₇ (Z5 rfl b₇ (Z5 rfl b₇ (Z5 rfl b₇ ?_)))))))
     refine Z5 rfl b₇ (Z5 rfl b₇ (Z5 rfl b₇ (Z8 rfl (zi (t := (decide (d = 1))) (v := .b t4) rfl b₇ (Eq.trans (b := V.b false) rfl (congrArg V.b (Option.some.inj hp)))) (zQ ?_))))
     exact ⟨rfl, rfl, q₃_0, q₃_1, q₃_2, q₃_7, q₃_8⟩
   rintro frg₅ _ ⟨rfl, g₅_75, g₅_0, g₅_1, g₅_2, g₅_7, g₅_8⟩
   refine Z8 rfl (a_mv (v := .b t4) g₅_75) ?_
   obtain ⟨t5, hv₆, hp⟩ := Zt hp
   refine Za7 12 (fun fr' k' => (k₄.bump 45) = k' ∧ fr' 88 = .b t5 ∧ fr' 0 = v_at_ ∧ fr' 1 = .i .i64 i ∧ fr' 2 = .i .i64 d ∧ fr' 7 = .i .i64 best2 ∧ fr' 8 = .i .i64 k_) ?_ ?_
   ·clear hp; rcases Zv hv₆ with ⟨b₈, hp⟩ | ⟨b₈, hp⟩
    ·skip
     refine ZI rfl b₈ (Z8 rfl (a_mv (v := v_at_) g₅_0) (ZI rfl b₈ (Z8 rfl (a_mv (v := .i .i64 k_) g₅_8) (ZI rfl b₈ ?_))))
     obtain ⟨c₉, hp⟩ := Zo hp
     refine Z8 rfl (a_ixa (E := Zj) (z := k_) (hO₅.rd0 s_at_.rd : Sl Zj (k₄.bump 45) v_at_ at_) rfl rfl c₉) (ZI rfl b₈ (Z8 rfl (Zan (off' := 0) (off2 := 1) (hO₅.rd0 s_at_.rd : Sl Zj (k₄.bump 45) v_at_ at_) (Zq c₉) rfl rfl) (ZI rfl b₈ (Z8 rfl (zH (w := .i .i64 ((gi at_ (k_ : Int).toNat).Y)) (hO₅.rd0 s_at_.rd : Sl Zj (k₄.bump 45) v_at_ at_) rfl (Zq c₉) rfl) (ZI rfl b₈ (Z8 rfl (a_mv (v := v_at_) g₅_0) (ZI rfl b₈ ?_)))))))
     refine Z8 rfl (a_mv (v := .i .i64 i) g₅_1) (ZI rfl b₈ ?_)
     obtain ⟨c₁₀, hp⟩ := Zo hp
     refine Z8 rfl (a_ixa (E := Zj) (z := i) (hO₅.rd0 s_at_.rd : Sl Zj (k₄.bump 45) v_at_ at_) rfl rfl c₁₀) (ZI rfl b₈ (Z8 rfl (Zan (off' := 0) (off2 := 1) (hO₅.rd0 s_at_.rd : Sl Zj (k₄.bump 45) v_at_ at_) (Zq c₁₀) rfl rfl) (ZI rfl b₈ (Z8 rfl (zH (w := .i .i64 ((gi at_ (i : Int).toNat).Y)) (hO₅.rd0 s_at_.rd : Sl Zj (k₄.bump 45) v_at_ at_) rfl (Zq c₁₀) rfl) (ZI rfl b₈ (Z8 rfl (a_gtr (a := ((gi at_ (k_ : Int).toNat).Y)) (b := ((gi at_ (i : Int).toNat).Y)) rfl rfl) (Z8 rfl (zk (t := t4) (v := .b t5) rfl b₈ (Eq.trans (b := V.b (decide (((gi at_ (i : Int).toNat).Y) < ((gi at_ (k_ : Int).toNat).Y)))) rfl (congrArg V.b (Option.some.inj hp)))) ?_)))))))
     refine zQ ?_
     exact ⟨rfl, rfl, g₅_0, g₅_1, g₅_2, g₅_7, g₅_8⟩
    ·skip
     refine Z5 rfl b₈ (Z5 rfl b₈ (Z5 rfl b₈ (Z5 rfl b₈ (Z5 rfl b₈ (Z5 rfl b₈ (Z5 rfl b₈ (Z5 rfl b₈ ?_)))))))
     refine Z5 rfl b₈ (Z5 rfl b₈ (Z5 rfl b₈ (Z8 rfl (zi (t := t4) (v := .b t5) rfl b₈ (Eq.trans (b := V.b false) rfl (congrArg V.b (Option.some.inj hp)))) (zQ ?_))))
     exact ⟨rfl, rfl, g₅_0, g₅_1, g₅_2, g₅_7, g₅_8⟩
   rintro frg₆ _ ⟨rfl, g₆_88, g₆_0, g₆_1, g₆_2, g₆_7, g₆_8⟩
   refine Z8 rfl (a_mv (v := .b t5) g₆_88) ?_
   obtain ⟨t6, hv₇, hp⟩ := Zt hp
   refine Za7 16 (fun fr' k' => (k₄.bump 45) = k' ∧ fr' 105 = .b t6 ∧ fr' 0 = v_at_ ∧ fr' 1 = .i .i64 i ∧ fr' 2 = .i .i64 d ∧ fr' 7 = .i .i64 best2 ∧ fr' 8 = .i .i64 k_) ?_ ?_
   ·clear hp; rcases Zv hv₇ with ⟨b₉, hp⟩ | ⟨b₉, hp⟩
    ·skip
     refine ZI rfl b₉ (Z8 rfl (a_mv (v := .i .i64 best2) g₆_7) (ZI rfl b₉ (Z8 rfl (a_lss (a := best2) (b := 0) rfl rfl) (ZI rfl b₉ (Z8 rfl (a_mv (v := .b (decide (best2 < 0))) rfl) ?_)))))
     obtain ⟨t7, hv₈, hp⟩ := Zt hp
     refine Za7 12 (fun fr' k' => (k₄.bump 45) = k' ∧ fr' 104 = .b t7 ∧ fr' 0 = v_at_ ∧ fr' 1 = .i .i64 i ∧ fr' 2 = .i .i64 d ∧ fr' 7 = .i .i64 best2 ∧ fr' 8 = .i .i64 k_ ∧ fr' 89 = .b t5) ?_ ?_
     ·clear hp; rcases Zv hv₈ with ⟨b₁₀, hp⟩ | ⟨b₁₀, hp⟩
      ·skip
       refine Z5 rfl b₁₀ (Z5 rfl b₁₀ (Z5 rfl b₁₀ (Z5 rfl b₁₀ (Z5 rfl b₁₀ (Z5 rfl b₁₀ (Z5 rfl b₁₀ (Z5 rfl b₁₀ ?_)))))))
       refine Z5 rfl b₁₀ (Z5 rfl b₁₀ (Z5 rfl b₁₀ (ZI rfl b₉ (Z8 rfl (zk (t := (decide (best2 < 0))) (v := .b t7) rfl b₁₀ (Eq.trans (b := V.b true) rfl (congrArg V.b (Option.some.inj hp)))) (zQ ?_)))))
       exact ⟨rfl, rfl, g₆_0, g₆_1, g₆_2, g₆_7, g₆_8, rfl⟩
      ·skip
       refine ZI rfl b₁₀ (Z8 rfl (a_mv (v := v_at_) g₆_0) (ZI rfl b₁₀ (Z8 rfl (a_mv (v := .i .i64 k_) g₆_8) (ZI rfl b₁₀ ?_))))
       obtain ⟨c₁₁, hp⟩ := Zo hp
       refine Z8 rfl (a_ixa (E := Zj) (z := k_) (hO₅.rd0 s_at_.rd : Sl Zj (k₄.bump 45) v_at_ at_) rfl rfl c₁₁) (ZI rfl b₁₀ (Z8 rfl (Zan (off' := 0) (off2 := 1) (hO₅.rd0 s_at_.rd : Sl Zj (k₄.bump 45) v_at_ at_) (Zq c₁₁) rfl rfl) (ZI rfl b₁₀ (Z8 rfl (zH (w := .i .i64 ((gi at_ (k_ : Int).toNat).Y)) (hO₅.rd0 s_at_.rd : Sl Zj (k₄.bump 45) v_at_ at_) rfl (Zq c₁₁) rfl) (ZI rfl b₁₀ (Z8 rfl (a_mv (v := v_at_) g₆_0) (ZI rfl b₁₀ ?_)))))))
       refine Z8 rfl (a_mv (v := .i .i64 best2) g₆_7) (ZI rfl b₁₀ ?_)
       obtain ⟨c₁₂, hp⟩ := Zo hp
       refine Z8 rfl (a_ixa (E := Zj) (z := best2) (hO₅.rd0 s_at_.rd : Sl Zj (k₄.bump 45) v_at_ at_) rfl rfl c₁₂) (ZI rfl b₁₀ (Z8 rfl (Zan (off' := 0) (off2 := 1) (hO₅.rd0 s_at_.rd : Sl Zj (k₄.bump 45) v_at_ at_) (Zq c₁₂) rfl rfl) (ZI rfl b₁₀ (Z8 rfl (zH (w := .i .i64 ((gi at_ (best2 : Int).toNat).Y)) (hO₅.rd0 s_at_.rd : Sl Zj (k₄.bump 45) v_at_ at_) rfl (Zq c₁₂) rfl) (ZI rfl b₁₀ (Z8 rfl (a_lss (a := ((gi at_ (k_ : Int).toNat).Y)) (b := ((gi at_ (best2 : Int).toNat).Y)) rfl rfl) (ZI rfl b₉ ?_)))))))
       refine Z8 rfl (zi (t := (decide (best2 < 0))) (v := .b t7) rfl b₁₀ (Eq.trans (b := V.b (decide (((gi at_ (k_ : Int).toNat).Y) < ((gi at_ (best2 : Int).toNat).Y)))) rfl (congrArg V.b (Option.some.inj hp)))) (zQ ?_)
       exact ⟨rfl, rfl, g₆_0, g₆_1, g₆_2, g₆_7, g₆_8, rfl⟩
     rintro frg₇ _ ⟨rfl, g₇_104, g₇_0, g₇_1, g₇_2, g₇_7, g₇_8, g₇_89⟩
     refine Z8 rfl (zk (t := t5) (v := .b t6) g₇_89 b₉ (Eq.trans (b := V.b t7) g₇_104 (congrArg V.b (Option.some.inj hp)))) (zQ ?_)
     exact ⟨rfl, rfl, g₇_0, g₇_1, g₇_2, g₇_7, g₇_8⟩
    ·skip
     refine Z5 rfl b₉ (Z5 rfl b₉ (Z5 rfl b₉ (WQ_un rfl (WQ_un rfl (WQ_un rfl (WQ_un rfl (WQ_un rfl ?_)))))))
     refine WQ_un rfl (WQ_un rfl (WQ_un rfl (WQ_un rfl (WQ_un rfl (WQ_un rfl (Z5 rfl b₉ (Z8 rfl (zi (t := t5) (v := .b t6) rfl b₉ (Eq.trans (b := V.b false) rfl (congrArg V.b (Option.some.inj hp)))) ?_)))))))
     refine zQ ?_
     exact ⟨rfl, rfl, g₆_0, g₆_1, g₆_2, g₆_7, g₆_8⟩
   rintro frg₈ _ ⟨rfl, g₈_105, g₈_0, g₈_1, g₈_2, g₈_7, g₈_8⟩
   refine zQ (Ze ?_)
   rcases Zv hp with ⟨b₁₁, hp⟩ | ⟨b₁₁, hp⟩
   ·refine W_cT (t := t6) g₈_105 b₁₁ ?_
    refine W_rg (Zb (a_mv (v := .i .i64 k_) g₈_8) (Zb (a_mv (v := .i .i64 k_) rfl) (Zh (zL (Ze (W_rg (Zb (a_mv (v := .i .i64 k_) g₈_8) ?_)))))))
    obtain ⟨c₁₃, hp⟩ := Zo hp
    refine Zb (a_add (a := k_) (b := 1) rfl rfl c₁₃) (Zb (a_mv (v := .i .i64 (k_ + 1)) rfl) (Zh ?_))
    have hp := Option.some.inj hp; subst hp
    exact (Or.inl (Exists.intro (k_, k_ + 1) (And.intro rfl (And.intro rfl (And.intro (g₈_0) (And.intro (g₈_1) (And.intro (g₈_2) (And.intro (rfl) (And.intro (rfl) (hO₅.pick [] rfl (by decide)))))))))))
   ·refine W_cF (t := t6) g₈_105 b₁₁ ?_
    refine W_sk (zL (Ze (W_rg (Zb (a_mv (v := .i .i64 k_) g₈_8) ?_))))
    obtain ⟨c₁₄, hp⟩ := Zo hp
    refine Zb (a_add (a := k_) (b := 1) rfl rfl c₁₄) (Zb (a_mv (v := .i .i64 (k_ + 1)) rfl) (Zh ?_))
    have hp := Option.some.inj hp; subst hp
    exact (Or.inl (Exists.intro (best2, k_ + 1) (And.intro rfl (And.intro rfl (And.intro (g₈_0) (And.intro (g₈_1) (And.intro (g₈_2) (And.intro (g₈_7) (And.intro (rfl) (hO₅.pick [] rfl (by decide)))))))))))
  ·refine W_cF (t := (decide (k_ < (at_.length : Int)))) rfl b₁ ?_
   refine W_ex (zC ?_)
   have hp := Option.some.inj hp; subst hp
   refine (Or.inr (Exists.intro best (And.intro rfl (And.intro (fun h => nomatch h) (fun he => ?_)))))
   subst he; exact (And.intro rfl (And.intro (q₂_7) (hO₂.pick [] rfl (by decide))))
 intro e₁ q₁ k₁ hJ₁
 obtain ⟨best1, rfl⟩ : ∃ x, x = o₁ := ⟨_, rfl⟩
 obtain ⟨rfl, q₁_7, hO₁⟩ := hJ₁
 refine zS (Ze (W_sq (W_rg (Zb (a_mv (v := .i .i64 best1) q₁_7) (Zb (a_mv (v := .i .i64 best1) rfl) (Zh (Ze ?_)))))))
 refine W_rt (Ret_r (rs_t (n := 6) (v := .i .i64 best1) rfl rs_nil) ?_)
 have hp := Option.some.inj hp; subst hp
 exact (And.intro rfl (hO₁.pick [] rfl (by decide)))

theorem ZT.ok {h : Hp} {at_ : List Zu} {l : List Zk} {i : Int} {w : Int} {v_at_ : V} {v_l : V} (s_at_ : Sl Zj h v_at_ at_) (s_l : Sl Zf h v_l l) {r : Bool} (hp : ZT at_ l i w = some r) :
  ∃ u k', Is G 64 [v_at_, v_l, .i .i64 i, .i .i64 w] h u k' ∧ V.b r = u ∧ Own (fun r => r < h.n) h k' [] := by
 refine WC.is (WC_of G_F_muntinref10_Crossed ?_)
 unfold ZT at hp
 let B : Nat → Prop := (fun r => r < h.n)
 have hO : Own B h h [] := Own.start0 h
 refine W_sq (W_rg (Zb (a_mv (v := .b false) rfl) (Zh (Ze (W_sq (W_sq (W_rg ?_)))))))
 refine Zb (a_mv (v := .i .i64 0) rfl) (Zh (Ze (W_bl ?_)))
 obtain ⟨o₁, ho₁, hp⟩ := Zt hp
 refine W.mono (Q := fun e fr k => match (generalizing := false) o₁ with
   | .inl _ => e = (.exit 0) ∧ Own B h k []
   | .inr _ => e = .ret ∧ fr 8 = .b true ∧ Own B h k []) ?_ ?_
 ·clear hp
  refine z3 (fun st fr k => match st with | a => fr 0 = v_at_ ∧ fr 1 = v_l ∧ fr 2 = .i .i64 i ∧ fr 3 = .i .i64 w ∧ fr 9 = .i .i64 a ∧ Own B h k []) ho₁ (s := 0) (And.intro (rfl) (And.intro (rfl) (And.intro (rfl) (And.intro (rfl) (And.intro (rfl) (hO.pick [] rfl (by decide))))))) ?_
  rintro a q₂ k₂ ⟨q₂_0, q₂_1, q₂_2, q₂_3, q₂_9, hO₂⟩ o₂ hp
  dsimp only [ZT.s0] at hp
  refine W_sq (W_sq (W_rg (Zb (a_mv (v := .i .i64 a) q₂_9) (Zb (a_mv (v := v_l) q₂_1) (Zb (a_len (hO₂.rd0 s_l.rd : Sl Zf k₂ v_l l) rfl) (Zb (a_lss (a := a) (b := (l.length : Int)) rfl rfl) (Zh ?_)))))))
  refine Ze ?_
  rcases Zv hp with ⟨b₁, hp⟩ | ⟨b₁, hp⟩
  ·refine W_cT (t := (decide (a < (l.length : Int)))) rfl b₁ ?_
   refine W_sk (Ze (W_sq (W_bl (W_sq (W_rg (Zb (a_mv (v := .i .i64 0) rfl) (Zh ?_)))))))
   refine Ze (W_bl ?_)
   obtain ⟨o₃, ho₂, hp⟩ := Zt hp
   refine W.mono (Q := fun e fr k => match (generalizing := false) o₃ with
     | .inl _ => e = (.exit 2) ∧ fr 0 = v_at_ ∧ fr 1 = v_l ∧ fr 2 = .i .i64 i ∧ fr 3 = .i .i64 w ∧ fr 9 = .i .i64 a ∧ Own B h k []
     | .inr _ => e = .ret ∧ fr 8 = .b true ∧ Own B h k []) ?_ ?_
   ·clear hp
    refine z3 (fun st fr k => match st with | d => fr 0 = v_at_ ∧ fr 1 = v_l ∧ fr 2 = .i .i64 i ∧ fr 3 = .i .i64 w ∧ fr 9 = .i .i64 a ∧ fr 10 = .i .i64 d ∧ Own B h k []) ho₂ (s := 0) (And.intro (q₂_0) (And.intro (q₂_1) (And.intro (q₂_2) (And.intro (q₂_3) (And.intro (q₂_9) (And.intro (rfl) (hO₂.pick [] rfl (by decide)))))))) ?_
    rintro d q₄ k₄ ⟨q₄_0, q₄_1, q₄_2, q₄_3, q₄_9, q₄_10, hO₄⟩ o₄ hp
    dsimp only [ZT.s1] at hp
    refine W_sq (W_sq (W_rg (Zb (a_mv (v := .i .i64 d) q₄_10) (Zb (a_lss (a := d) (b := 2) rfl rfl) (Zh (Ze ?_))))))
    rcases Zv hp with ⟨b₂, hp⟩ | ⟨b₂, hp⟩
    ·refine W_cT (t := (decide (d < 2))) rfl b₂ ?_
     refine W_sk (Ze (W_sq (W_bl (W_sq (W_rg (Zb (a_mv (v := v_l) q₄_1) (Zb (a_mv (v := .i .i64 a) q₄_9) ?_)))))))
     refine Zb (a_mv (v := .i .i64 d) q₄_10) ?_
     obtain ⟨c₁, hp⟩ := Zo hp
     refine Zb (a_ixa (E := Zf) (z := a) (hO₄.rd0 s_l.rd : Sl Zf k₄ v_l l) rfl rfl c₁) (Zb (Zan (off' := 0) (off2 := 0) (hO₄.rd0 s_l.rd : Sl Zf k₄ v_l l) (Zq c₁) rfl rfl) ?_)
     obtain ⟨c₂, hp⟩ := Zo hp
     refine Zb (Za4 (off := 0) (off2 := (0 + (d : Int).toNat * 1)) (z := d) (hO₄.rd0 s_l.rd : Sl Zf k₄ v_l l) (Zq c₁) rfl rfl c₂ rfl) (Zb (zH (w := .i .i64 (((gi l (a : Int).toNat).Next).get d)) (hO₄.rd0 s_l.rd : Sl Zf k₄ v_l l) rfl (Zq c₁) (zP c₂)) (Zb (a_mv (v := .i .i64 (((gi l (a : Int).toNat).Next).get d)) rfl) (Zh (Ze (W_sq (W_sq (W_rg ?_)))))))
     refine Zb (a_mv (v := .i .i64 (((gi l (a : Int).toNat).Next).get d)) rfl) (Zb (a_lss (a := (((gi l (a : Int).toNat).Next).get d)) (b := 0) rfl rfl) (Zh (Ze ?_)))
     rcases Zv hp with ⟨b₃, hp⟩ | ⟨b₃, hp⟩
     ·refine W_cT (t := (decide ((((gi l (a : Int).toNat).Next).get d) < 0))) rfl b₃ ?_
      refine W_ex (zC (zS (Ze (W_rg (Zb (a_mv (v := .i .i64 d) q₄_10) ?_)))))
      obtain ⟨c₃, hp⟩ := Zo hp
      refine Zb (a_add (a := d) (b := 1) rfl rfl c₃) (Zb (a_mv (v := .i .i64 (d + 1)) rfl) (Zh ?_))
      have hp := Option.some.inj hp; subst hp
      exact (Or.inl (Exists.intro (d + 1) (And.intro rfl (And.intro rfl (And.intro (q₄_0) (And.intro (q₄_1) (And.intro (q₄_2) (And.intro (q₄_3) (And.intro (q₄_9) (And.intro (rfl) (hO₄.pick [] rfl (by decide))))))))))))
     ·refine W_cF (t := (decide ((((gi l (a : Int).toNat).Next).get d) < 0))) rfl b₃ ?_
      refine W_sk (Ze (W_sq (W_rg (Zb (a_mv (v := v_at_) q₄_0) (Zb (a_mv (v := .i .i64 a) q₄_9) ?_)))))
      obtain ⟨c₄, hp⟩ := Zo hp
      refine Zb (a_ixa (E := Zj) (z := a) (hO₄.rd0 s_at_.rd : Sl Zj k₄ v_at_ at_) rfl rfl c₄) (Zb (ZaL (E := Zj) (hO₄.rd0 s_at_.rd : Sl Zj k₄ v_at_ at_) rfl (Zq c₄)) (zq (hO₄.alloc (cs := Zj.c (⟨0, 0⟩ : Zu)) hO₄.fr) ?_))
      rintro _ k₅ ⟨r₁, rfl, n₁, f₁, hW⟩
      have hO₅ : Own B h k₅ [eBox r₁ (Zj.c (⟨0, 0⟩ : Zu))] := hW
      refine zq (hO₅.stb (ws := Zj.c (gi at_ (a : Int).toNat)) (cs' := Zj.c (gi at_ (a : Int).toNat)) (v := .ag (Zj.c (gi at_ (a : Int).toNat))) 0 rfl rfl rfl rfl ⟨rfl, Nat.le_of_ble_eq_true rfl, rfl⟩ rfl) ?_
      rintro _ k₆ ⟨rfl, f₂, m₁, hW⟩
      have hO₆ : Own B h k₆ [eBox r₁ (Zj.c (gi at_ (a : Int).toNat))] := hW
      refine Zh (Ze (W_sq (W_rg (Zb (a_mv (v := v_at_) q₄_0) (Zb (a_mv (v := .i .i64 (((gi l (a : Int).toNat).Next).get d)) rfl) ?_)))))
      obtain ⟨c₅, hp⟩ := Zo hp
      refine Zb (a_ixa (E := Zj) (z := (((gi l (a : Int).toNat).Next).get d)) (hO₆.rd0 s_at_.rd : Sl Zj k₆ v_at_ at_) rfl rfl c₅) (Zb (ZaL (E := Zj) (hO₆.rd0 s_at_.rd : Sl Zj k₆ v_at_ at_) rfl (Zq c₅)) (zq (hO₆.alloc (cs := Zj.c (⟨0, 0⟩ : Zu)) hO₆.fr) ?_))
      rintro _ k₇ ⟨r₂, rfl, n₂, f₃, hW⟩
      have hO₇ : Own B h k₇ [eBox r₁ (Zj.c (gi at_ (a : Int).toNat)), eBox r₂ (Zj.c (⟨0, 0⟩ : Zu))] := hW
      refine zq (hO₇.stb (ws := Zj.c (gi at_ (((gi l (a : Int).toNat).Next).get d : Int).toNat)) (cs' := Zj.c (gi at_ (((gi l (a : Int).toNat).Next).get d : Int).toNat)) (v := .ag (Zj.c (gi at_ (((gi l (a : Int).toNat).Next).get d : Int).toNat))) 1 rfl rfl rfl rfl ⟨rfl, Nat.le_of_ble_eq_true rfl, rfl⟩ rfl) ?_
      rintro _ k₈ ⟨rfl, f₄, m₂, hW⟩
      have hO₈ : Own B h k₈ [eBox r₁ (Zj.c (gi at_ (a : Int).toNat)), eBox r₂ (Zj.c (gi at_ (((gi l (a : Int).toNat).Next).get d : Int).toNat))] := hW
      refine Zh (Ze (W_sq (W_sq (W_qd ?_))))
      have hW := hO₈.bump 58
      have hO₉ : Own B h (k₈.bump 58) [eBox r₁ (Zj.c (gi at_ (a : Int).toNat)), eBox r₂ (Zj.c (gi at_ (((gi l (a : Int).toNat).Next).get d : Int).toNat))] := hW
      refine Z8 rfl (a_fa (r := r₁) (o := 0) (o' := 1) rfl rfl) (Z8 rfl (Zaf (cs := (Zj.c (gi at_ (a : Int).toNat))) (v := .i .i64 ((gi at_ (a : Int).toNat).Y)) (hO₉.box 0 rfl) rfl rfl) (Z8 rfl (a_fa (r := r₂) (o := 0) (o' := 1) rfl rfl) (Z8 rfl (Zaf (cs := (Zj.c (gi at_ (((gi l (a : Int).toNat).Next).get d : Int).toNat))) (v := .i .i64 ((gi at_ (((gi l (a : Int).toNat).Next).get d : Int).toNat).Y)) (hO₉.box 1 rfl) rfl rfl) (Z8 rfl (a_eqI (a := ((gi at_ (a : Int).toNat).Y)) (b := ((gi at_ (((gi l (a : Int).toNat).Next).get d : Int).toNat).Y)) rfl rfl) (Z8 rfl (a_mv (v := .b (decide ((gi at_ (a : Int).toNat).Y = (gi at_ (((gi l (a : Int).toNat).Next).get d : Int).toNat).Y))) rfl) ?_)))))
      obtain ⟨t, hv₁, hp⟩ := Zt hp
      refine Za7 12 (fun fr' k' => (k₈.bump 58) = k' ∧ fr' 58 = .b t ∧ fr' 0 = v_at_ ∧ fr' 1 = v_l ∧ fr' 10 = .i .i64 d ∧ fr' 12 = .p r₁ 0 ∧ fr' 13 = .p r₂ 0 ∧ fr' 2 = .i .i64 i ∧ fr' 3 = .i .i64 w ∧ fr' 9 = .i .i64 a) ?_ ?_
      ·clear hp; rcases Zv hv₁ with ⟨b₄, hp⟩ | ⟨b₄, hp⟩
       ·skip
        refine ZI rfl b₄ (Z8 rfl (a_mv (v := v_at_) q₄_0) (ZI rfl b₄ (Z8 rfl (a_mv (v := .i .i64 i) q₄_2) (ZI rfl b₄ ?_))))
        obtain ⟨c₆, hp⟩ := Zo hp
        refine Z8 rfl (a_ixa (E := Zj) (z := i) (hO₉.rd0 s_at_.rd : Sl Zj (k₈.bump 58) v_at_ at_) rfl rfl c₆) (ZI rfl b₄ (Z8 rfl (Zan (off' := 0) (off2 := 0) (hO₉.rd0 s_at_.rd : Sl Zj (k₈.bump 58) v_at_ at_) (Zq c₆) rfl rfl) (ZI rfl b₄ (Z8 rfl (zH (w := .i .i64 ((gi at_ (i : Int).toNat).X)) (hO₉.rd0 s_at_.rd : Sl Zj (k₈.bump 58) v_at_ at_) rfl (Zq c₆) rfl) (ZI rfl b₄ (Z8 rfl (a_mv (v := v_at_) q₄_0) (ZI rfl b₄ ?_)))))))
        refine Z8 rfl (a_mv (v := .i .i64 w) q₄_3) (ZI rfl b₄ ?_)
        obtain ⟨c₇, hp⟩ := Zo hp
        refine Z8 rfl (a_ixa (E := Zj) (z := w) (hO₉.rd0 s_at_.rd : Sl Zj (k₈.bump 58) v_at_ at_) rfl rfl c₇) (ZI rfl b₄ (Z8 rfl (Zan (off' := 0) (off2 := 0) (hO₉.rd0 s_at_.rd : Sl Zj (k₈.bump 58) v_at_ at_) (Zq c₇) rfl rfl) (ZI rfl b₄ (Z8 rfl (zH (w := .i .i64 ((gi at_ (w : Int).toNat).X)) (hO₉.rd0 s_at_.rd : Sl Zj (k₈.bump 58) v_at_ at_) rfl (Zq c₇) rfl) (ZI rfl b₄ (Z8 rfl (a_eqI (a := ((gi at_ (i : Int).toNat).X)) (b := ((gi at_ (w : Int).toNat).X)) rfl rfl) (Z8 rfl (zk (t := (decide ((gi at_ (a : Int).toNat).Y = (gi at_ (((gi l (a : Int).toNat).Next).get d : Int).toNat).Y))) (v := .b t) rfl b₄ (Eq.trans (b := V.b (decide ((gi at_ (i : Int).toNat).X = (gi at_ (w : Int).toNat).X))) rfl (congrArg V.b (Option.some.inj hp)))) ?_)))))))
        refine zQ ?_
        exact ⟨rfl, rfl, q₄_0, q₄_1, q₄_10, rfl, rfl, q₄_2, q₄_3, q₄_9⟩
       ·skip
        refine Z5 rfl b₄ (Z5 rfl b₄ (Z5 rfl b₄ (Z5 rfl b₄ (Z5 rfl b₄ (Z5 rfl b₄ (Z5 rfl b₄ (Z5 rfl b₄ ?_)))))))
        refine Z5 rfl b₄ (Z5 rfl b₄ (Z5 rfl b₄ (Z8 rfl (zi (t := (decide ((gi at_ (a : Int).toNat).Y = (gi at_ (((gi l (a : Int).toNat).Next).get d : Int).toNat).Y))) (v := .b t) rfl b₄ (Eq.trans (b := V.b false) rfl (congrArg V.b (Option.some.inj hp)))) (zQ ?_))))
        exact ⟨rfl, rfl, q₄_0, q₄_1, q₄_10, rfl, rfl, q₄_2, q₄_3, q₄_9⟩
      rintro frg₁ _ ⟨rfl, g₁_58, g₁_0, g₁_1, g₁_10, g₁_12, g₁_13, g₁_2, g₁_3, g₁_9⟩
      refine Z8 rfl (a_mv (v := .b t) g₁_58) ?_
      obtain ⟨t1, hv₂, hp⟩ := Zt hp
      refine Za7 9 (fun fr' k' => (k₈.bump 58) = k' ∧ fr' 68 = .b t1 ∧ fr' 0 = v_at_ ∧ fr' 1 = v_l ∧ fr' 10 = .i .i64 d ∧ fr' 12 = .p r₁ 0 ∧ fr' 13 = .p r₂ 0 ∧ fr' 2 = .i .i64 i ∧ fr' 3 = .i .i64 w ∧ fr' 9 = .i .i64 a) ?_ ?_
      ·clear hp; rcases Zv hv₂ with ⟨b₅, hp⟩ | ⟨b₅, hp⟩
       ·skip
        refine ZI rfl b₅ (Z8 rfl (a_fa (r := r₁) (o := 0) (o' := 0) g₁_12 rfl) (ZI rfl b₅ (Z8 rfl (Zaf (cs := (Zj.c (gi at_ (a : Int).toNat))) (v := .i .i64 ((gi at_ (a : Int).toNat).X)) (hO₉.box 0 rfl) rfl rfl) (ZI rfl b₅ (Z8 rfl (a_mv (v := v_at_) g₁_0) (ZI rfl b₅ (Z8 rfl (a_mv (v := .i .i64 i) g₁_2) ?_)))))))
        refine ZI rfl b₅ ?_
        obtain ⟨c₈, hp⟩ := Zo hp
        refine Z8 rfl (a_ixa (E := Zj) (z := i) (hO₉.rd0 s_at_.rd : Sl Zj (k₈.bump 58) v_at_ at_) rfl rfl c₈) (ZI rfl b₅ (Z8 rfl (Zan (off' := 0) (off2 := 0) (hO₉.rd0 s_at_.rd : Sl Zj (k₈.bump 58) v_at_ at_) (Zq c₈) rfl rfl) (ZI rfl b₅ (Z8 rfl (zH (w := .i .i64 ((gi at_ (i : Int).toNat).X)) (hO₉.rd0 s_at_.rd : Sl Zj (k₈.bump 58) v_at_ at_) rfl (Zq c₈) rfl) (ZI rfl b₅ (Z8 rfl (a_lss (a := ((gi at_ (a : Int).toNat).X)) (b := ((gi at_ (i : Int).toNat).X)) rfl rfl) (Z8 rfl (zk (t := t) (v := .b t1) rfl b₅ (Eq.trans (b := V.b (decide (((gi at_ (a : Int).toNat).X) < ((gi at_ (i : Int).toNat).X)))) rfl (congrArg V.b (Option.some.inj hp)))) ?_)))))))
        refine zQ ?_
        exact ⟨rfl, rfl, g₁_0, g₁_1, g₁_10, g₁_12, g₁_13, g₁_2, g₁_3, g₁_9⟩
       ·skip
        refine Z5 rfl b₅ (Z5 rfl b₅ (Z5 rfl b₅ (Z5 rfl b₅ (Z5 rfl b₅ (Z5 rfl b₅ (Z5 rfl b₅ (Z5 rfl b₅ ?_)))))))
        refine Z8 rfl (zi (t := t) (v := .b t1) rfl b₅ (Eq.trans (b := V.b false) rfl (congrArg V.b (Option.some.inj hp)))) (zQ ?_)
        exact ⟨rfl, rfl, g₁_0, g₁_1, g₁_10, g₁_12, g₁_13, g₁_2, g₁_3, g₁_9⟩
      rintro frg₂ _ ⟨rfl, g₂_68, g₂_0, g₂_1, g₂_10, g₂_12, g₂_13, g₂_2, g₂_3, g₂_9⟩
      refine Z8 rfl (a_mv (v := .b t1) g₂_68) ?_
      obtain ⟨t2, hv₃, hp⟩ := Zt hp
      refine Za7 9 (fun fr' k' => (k₈.bump 58) = k' ∧ fr' 78 = .b t2 ∧ fr' 0 = v_at_ ∧ fr' 1 = v_l ∧ fr' 10 = .i .i64 d ∧ fr' 12 = .p r₁ 0 ∧ fr' 13 = .p r₂ 0 ∧ fr' 2 = .i .i64 i ∧ fr' 3 = .i .i64 w ∧ fr' 9 = .i .i64 a) ?_ ?_
      ·clear hp; rcases Zv hv₃ with ⟨b₆, hp⟩ | ⟨b₆, hp⟩
       ·skip
        refine ZI rfl b₆ (Z8 rfl (a_mv (v := v_at_) g₂_0) (ZI rfl b₆ (Z8 rfl (a_mv (v := .i .i64 i) g₂_2) (ZI rfl b₆ ?_))))
        obtain ⟨c₉, hp⟩ := Zo hp
        refine Z8 rfl (a_ixa (E := Zj) (z := i) (hO₉.rd0 s_at_.rd : Sl Zj (k₈.bump 58) v_at_ at_) rfl rfl c₉) (ZI rfl b₆ (Z8 rfl (Zan (off' := 0) (off2 := 0) (hO₉.rd0 s_at_.rd : Sl Zj (k₈.bump 58) v_at_ at_) (Zq c₉) rfl rfl) (ZI rfl b₆ (Z8 rfl (zH (w := .i .i64 ((gi at_ (i : Int).toNat).X)) (hO₉.rd0 s_at_.rd : Sl Zj (k₈.bump 58) v_at_ at_) rfl (Zq c₉) rfl) (ZI rfl b₆ (Z8 rfl (a_fa (r := r₂) (o := 0) (o' := 0) g₂_13 rfl) (ZI rfl b₆ ?_)))))))
        refine Z8 rfl (Zaf (cs := (Zj.c (gi at_ (((gi l (a : Int).toNat).Next).get d : Int).toNat))) (v := .i .i64 ((gi at_ (((gi l (a : Int).toNat).Next).get d : Int).toNat).X)) (hO₉.box 1 rfl) rfl rfl) (ZI rfl b₆ (Z8 rfl (a_lss (a := ((gi at_ (i : Int).toNat).X)) (b := ((gi at_ (((gi l (a : Int).toNat).Next).get d : Int).toNat).X)) rfl rfl) (Z8 rfl (zk (t := t1) (v := .b t2) rfl b₆ (Eq.trans (b := V.b (decide (((gi at_ (i : Int).toNat).X) < ((gi at_ (((gi l (a : Int).toNat).Next).get d : Int).toNat).X)))) rfl (congrArg V.b (Option.some.inj hp)))) (zQ ?_))))
        exact ⟨rfl, rfl, g₂_0, g₂_1, g₂_10, g₂_12, g₂_13, g₂_2, g₂_3, g₂_9⟩
       ·skip
        refine Z5 rfl b₆ (Z5 rfl b₆ (Z5 rfl b₆ (Z5 rfl b₆ (Z5 rfl b₆ (Z5 rfl b₆ (Z5 rfl b₆ (Z5 rfl b₆ ?_)))))))
        refine Z8 rfl (zi (t := t1) (v := .b t2) rfl b₆ (Eq.trans (b := V.b false) rfl (congrArg V.b (Option.some.inj hp)))) (zQ ?_)
        exact ⟨rfl, rfl, g₂_0, g₂_1, g₂_10, g₂_12, g₂_13, g₂_2, g₂_3, g₂_9⟩
      rintro frg₃ _ ⟨rfl, g₃_78, g₃_0, g₃_1, g₃_10, g₃_12, g₃_13, g₃_2, g₃_3, g₃_9⟩
      refine Z8 rfl (a_mv (v := .b t2) g₃_78) ?_
      obtain ⟨t3, hv₄, hp⟩ := Zt hp
      refine Za7 9 (fun fr' k' => (k₈.bump 58) = k' ∧ fr' 88 = .b t3 ∧ fr' 0 = v_at_ ∧ fr' 1 = v_l ∧ fr' 10 = .i .i64 d ∧ fr' 12 = .p r₁ 0 ∧ fr' 13 = .p r₂ 0 ∧ fr' 2 = .i .i64 i ∧ fr' 3 = .i .i64 w ∧ fr' 9 = .i .i64 a) ?_ ?_
      ·clear hp; rcases Zv hv₄ with ⟨b₇, hp⟩ | ⟨b₇, hp⟩
       ·skip
        refine ZI rfl b₇ (Z8 rfl (a_mv (v := v_at_) g₃_0) (ZI rfl b₇ (Z8 rfl (a_mv (v := .i .i64 i) g₃_2) (ZI rfl b₇ ?_))))
        obtain ⟨c₁₀, hp⟩ := Zo hp
        refine Z8 rfl (a_ixa (E := Zj) (z := i) (hO₉.rd0 s_at_.rd : Sl Zj (k₈.bump 58) v_at_ at_) rfl rfl c₁₀) (ZI rfl b₇ (Z8 rfl (Zan (off' := 0) (off2 := 1) (hO₉.rd0 s_at_.rd : Sl Zj (k₈.bump 58) v_at_ at_) (Zq c₁₀) rfl rfl) (ZI rfl b₇ (Z8 rfl (zH (w := .i .i64 ((gi at_ (i : Int).toNat).Y)) (hO₉.rd0 s_at_.rd : Sl Zj (k₈.bump 58) v_at_ at_) rfl (Zq c₁₀) rfl) (ZI rfl b₇ (Z8 rfl (a_fa (r := r₁) (o := 0) (o' := 1) g₃_12 rfl) (ZI rfl b₇ ?_)))))))
        refine Z8 rfl (Zaf (cs := (Zj.c (gi at_ (a : Int).toNat))) (v := .i .i64 ((gi at_ (a : Int).toNat).Y)) (hO₉.box 0 rfl) rfl rfl) (ZI rfl b₇ (Z8 rfl (a_lss (a := ((gi at_ (i : Int).toNat).Y)) (b := ((gi at_ (a : Int).toNat).Y)) rfl rfl) (Z8 rfl (zk (t := t2) (v := .b t3) rfl b₇ (Eq.trans (b := V.b (decide (((gi at_ (i : Int).toNat).Y) < ((gi at_ (a : Int).toNat).Y)))) rfl (congrArg V.b (Option.some.inj hp)))) (zQ ?_))))
        exact ⟨rfl, rfl, g₃_0, g₃_1, g₃_10, g₃_12, g₃_13, g₃_2, g₃_3, g₃_9⟩
       ·skip
        refine Z5 rfl b₇ (Z5 rfl b₇ (Z5 rfl b₇ (Z5 rfl b₇ (Z5 rfl b₇ (Z5 rfl b₇ (Z5 rfl b₇ (Z5 rfl b₇ ?_)))))))
        refine Z8 rfl (zi (t := t2) (v := .b t3) rfl b₇ (Eq.trans (b := V.b false) rfl (congrArg V.b (Option.some.inj hp)))) (zQ ?_)
        exact ⟨rfl, rfl, g₃_0, g₃_1, g₃_10, g₃_12, g₃_13, g₃_2, g₃_3, g₃_9⟩
      rintro frg₄ _ ⟨rfl, g₄_88, g₄_0, g₄_1, g₄_10, g₄_12, g₄_13, g₄_2, g₄_3, g₄_9⟩
      refine Z8 rfl (a_mv (v := .b t3) g₄_88) ?_
      obtain ⟨t4, hv₅, hp⟩ := Zt hp
      refine Za7 9 (fun fr' k' => (k₈.bump 58) = k' ∧ fr' 98 = .b t4 ∧ fr' 0 = v_at_ ∧ fr' 1 = v_l ∧ fr' 10 = .i .i64 d ∧ fr' 12 = .p r₁ 0 ∧ fr' 13 = .p r₂ 0 ∧ fr' 2 = .i .i64 i ∧ fr' 3 = .i .i64 w ∧ fr' 9 = .i .i64 a) ?_ ?_
      ·clear hp; rcases Zv hv₅ with ⟨b₈, hp⟩ | ⟨b₈, hp⟩
       ·skip
        refine ZI rfl b₈ (Z8 rfl (a_fa (r := r₁) (o := 0) (o' := 1) g₄_12 rfl) (ZI rfl b₈ (Z8 rfl (Zaf (cs := (Zj.c (gi at_ (a : Int).toNat))) (v := .i .i64 ((gi at_ (a : Int).toNat).Y)) (hO₉.box 0 rfl) rfl rfl) (ZI rfl b₈ (Z8 rfl (a_mv (v := v_at_) g₄_0) (ZI rfl b₈ (Z8 rfl (a_mv (v := .i .i64 w) g₄_3) ?_)))))))
        refine ZI rfl b₈ ?_
        obtain ⟨c₁₁, hp⟩ := Zo hp
        refine Z8 rfl (a_ixa (E := Zj) (z := w) (hO₉.rd0 s_at_.rd : Sl Zj (k₈.bump 58) v_at_ at_) rfl rfl c₁₁) (ZI rfl b₈ (Z8 rfl (Zan (off' := 0) (off2 := 1) (hO₉.rd0 s_at_.rd : Sl Zj (k₈.bump 58) v_at_ at_) (Zq c₁₁) rfl rfl) (ZI rfl b₈ (Z8 rfl (zH (w := .i .i64 ((gi at_ (w : Int).toNat).Y)) (hO₉.rd0 s_at_.rd : Sl Zj (k₈.bump 58) v_at_ at_) rfl (Zq c₁₁) rfl) (ZI rfl b₈ (Z8 rfl (a_lss (a := ((gi at_ (a : Int).toNat).Y)) (b := ((gi at_ (w : Int).toNat).Y)) rfl rfl) (Z8 rfl (zk (t := t3) (v := .b t4) rfl b₈ (Eq.trans (b := V.b (decide (((gi at_ (a : Int).toNat).Y) < ((gi at_ (w : Int).toNat).Y)))) rfl (congrArg V.b (Option.some.inj hp)))) ?_)))))))
        refine zQ ?_
        exact ⟨rfl, rfl, g₄_0, g₄_1, g₄_10, g₄_12, g₄_13, g₄_2, g₄_3, g₄_9⟩
       ·skip
        refine Z5 rfl b₈ (Z5 rfl b₈ (Z5 rfl b₈ (Z5 rfl b₈ (Z5 rfl b₈ (Z5 rfl b₈ (Z5 rfl b₈ (Z5 rfl b₈ ?_)))))))
        refine Z8 rfl (zi (t := t3) (v := .b t4) rfl b₈ (Eq.trans (b := V.b false) rfl (congrArg V.b (Option.some.inj hp)))) (zQ ?_)
        exact ⟨rfl, rfl, g₄_0, g₄_1, g₄_10, g₄_12, g₄_13, g₄_2, g₄_3, g₄_9⟩
      rintro frg₅ _ ⟨rfl, g₅_98, g₅_0, g₅_1, g₅_10, g₅_12, g₅_13, g₅_2, g₅_3, g₅_9⟩
      refine zQ (Ze ?_)
      rcases Zv hp with ⟨b₉, hp⟩ | ⟨b₉, hp⟩
      ·refine W_cT (t := t4) g₅_98 b₉ ?_
       refine W_sq (W_rg (Zb (a_mv (v := .b true) rfl) (Zh (Ze (W_rt (zy (Zak ?_)))))))
       refine zy ?_
       have hp := Option.some.inj hp; subst hp
       refine (Or.inr (Exists.intro (.inr ()) (And.intro rfl (And.intro (fun h => nomatch h) (fun he => ?_)))))
       subst he; exact (And.intro rfl (And.intro (rfl) (hO₉.pick [] rfl (by decide))))
      ·refine W_cF (t := t4) g₅_98 b₉ ?_
       refine W_sk (Ze (W_sq (W_qd ?_)))
       have hW := hO₉.bump 58
       have hO₁₀ : Own B h ((k₈.bump 58).bump 58) [eBox r₁ (Zj.c (gi at_ (a : Int).toNat)), eBox r₂ (Zj.c (gi at_ (((gi l (a : Int).toNat).Next).get d : Int).toNat))] := hW
       refine Z8 rfl (a_fa (r := r₁) (o := 0) (o' := 0) g₅_12 rfl) (Z8 rfl (Zaf (cs := (Zj.c (gi at_ (a : Int).toNat))) (v := .i .i64 ((gi at_ (a : Int).toNat).X)) (hO₁₀.box 0 rfl) rfl rfl) (Z8 rfl (a_fa (r := r₂) (o := 0) (o' := 0) g₅_13 rfl) (Z8 rfl (Zaf (cs := (Zj.c (gi at_ (((gi l (a : Int).toNat).Next).get d : Int).toNat))) (v := .i .i64 ((gi at_ (((gi l (a : Int).toNat).Next).get d : Int).toNat).X)) (hO₁₀.box 1 rfl) rfl rfl) (Z8 rfl (a_eqI (a := ((gi at_ (a : Int).toNat).X)) (b := ((gi at_ (((gi l (a : Int).toNat).Next).get d : Int).toNat).X)) rfl rfl) (Z8 rfl (a_mv (v := .b (decide ((gi at_ (a : Int).toNat).X = (gi at_ (((gi l (a : Int).toNat).Next).get d : Int).toNat).X))) rfl) ?_)))))
       obtain ⟨t5, hv₆, hp⟩ := Zt hp
       refine Za7 12 (fun fr' k' => ((k₈.bump 58).bump 58) = k' ∧ fr' 116 = .b t5 ∧ fr' 0 = v_at_ ∧ fr' 1 = v_l ∧ fr' 10 = .i .i64 d ∧ fr' 12 = .p r₁ 0 ∧ fr' 13 = .p r₂ 0 ∧ fr' 2 = .i .i64 i ∧ fr' 3 = .i .i64 w ∧ fr' 9 = .i .i64 a) ?_ ?_
       ·clear hp; rcases Zv hv₆ with ⟨b₁₀, hp⟩ | ⟨b₁₀, hp⟩
        ·skip
         refine ZI rfl b₁₀ (Z8 rfl (a_mv (v := v_at_) g₅_0) (ZI rfl b₁₀ (Z8 rfl (a_mv (v := .i .i64 i) g₅_2) (ZI rfl b₁₀ ?_))))
         obtain ⟨c₁₂, hp⟩ := Zo hp
         refine Z8 rfl (a_ixa (E := Zj) (z := i) (hO₁₀.rd0 s_at_.rd : Sl Zj ((k₈.bump 58).bump 58) v_at_ at_) rfl rfl c₁₂) (ZI rfl b₁₀ (Z8 rfl (Zan (off' := 0) (off2 := 1) (hO₁₀.rd0 s_at_.rd : Sl Zj ((k₈.bump 58).bump 58) v_at_ at_) (Zq c₁₂) rfl rfl) (ZI rfl b₁₀ (Z8 rfl (zH (w := .i .i64 ((gi at_ (i : Int).toNat).Y)) (hO₁₀.rd0 s_at_.rd : Sl Zj ((k₈.bump 58).bump 58) v_at_ at_) rfl (Zq c₁₂) rfl) (ZI rfl b₁₀ (Z8 rfl (a_mv (v := v_at_) g₅_0) (ZI rfl b₁₀ ?_)))))))
         refine Z8 rfl (a_mv (v := .i .i64 w) g₅_3) (ZI rfl b₁₀ ?_)
         obtain ⟨c₁₃, hp⟩ := Zo hp
         refine Z8 rfl (a_ixa (E := Zj) (z := w) (hO₁₀.rd0 s_at_.rd : Sl Zj ((k₈.bump 58).bump 58) v_at_ at_) rfl rfl c₁₃) (ZI rfl b₁₀ (Z8 rfl (Zan (off' := 0) (off2 := 1) (hO₁₀.rd0 s_at_.rd : Sl Zj ((k₈.bump 58).bump 58) v_at_ at_) (Zq c₁₃) rfl rfl) (ZI rfl b₁₀ (Z8 rfl (zH (w := .i .i64 ((gi at_ (w : Int).toNat).Y)) (hO₁₀.rd0 s_at_.rd : Sl Zj ((k₈.bump 58).bump 58) v_at_ at_) rfl (Zq c₁₃) rfl) (ZI rfl b₁₀ (Z8 rfl (a_eqI (a := ((gi at_ (i : Int).toNat).Y)) (b := ((gi at_ (w : Int).toNat).Y)) rfl rfl) (Z8 rfl (zk (t := (decide ((gi at_ (a : Int).toNat).X = (gi at_ (((gi l (a : Int).toNat).Next).get d : Int).toNat).X))) (v := .b t5) rfl b₁₀ (Eq.trans (b := V.b (decide ((gi at_ (i : Int).toNat).Y = (gi at_ (w : Int).toNat).Y))) rfl (congrArg V.b (Option.some.inj hp)))) ?_)))))))
         refine zQ ?_
         exact ⟨rfl, rfl, g₅_0, g₅_1, g₅_10, g₅_12, g₅_13, g₅_2, g₅_3, g₅_9⟩
        ·skip
         refine Z5 rfl b₁₀ (Z5 rfl b₁₀ (Z5 rfl b₁₀ (Z5 rfl b₁₀ (Z5 rfl b₁₀ (Z5 rfl b₁₀ (Z5 rfl b₁₀ (Z5 rfl b₁₀ ?_)))))))
         refine Z5 rfl b₁₀ (Z5 rfl b₁₀ (Z5 rfl b₁₀ (Z8 rfl (zi (t := (decide ((gi at_ (a : Int).toNat).X = (gi at_ (((gi l (a : Int).toNat).Next).get d : Int).toNat).X))) (v := .b t5) rfl b₁₀ (Eq.trans (b := V.b false) rfl (congrArg V.b (Option.some.inj hp)))) (zQ ?_))))
         exact ⟨rfl, rfl, g₅_0, g₅_1, g₅_10, g₅_12, g₅_13, g₅_2, g₅_3, g₅_9⟩
       rintro frg₆ _ ⟨rfl, g₆_116, g₆_0, g₆_1, g₆_10, g₆_12, g₆_13, g₆_2, g₆_3, g₆_9⟩
       refine Z8 rfl (a_mv (v := .b t5) g₆_116) ?_
       obtain ⟨t6, hv₇, hp⟩ := Zt hp
       refine Za7 9 (fun fr' k' => ((k₈.bump 58).bump 58) = k' ∧ fr' 126 = .b t6 ∧ fr' 0 = v_at_ ∧ fr' 1 = v_l ∧ fr' 10 = .i .i64 d ∧ fr' 12 = .p r₁ 0 ∧ fr' 13 = .p r₂ 0 ∧ fr' 2 = .i .i64 i ∧ fr' 3 = .i .i64 w ∧ fr' 9 = .i .i64 a) ?_ ?_
       ·clear hp; rcases Zv hv₇ with ⟨b₁₁, hp⟩ | ⟨b₁₁, hp⟩
        ·skip
         refine ZI rfl b₁₁ (Z8 rfl (a_mv (v := v_at_) g₆_0) (ZI rfl b₁₁ (Z8 rfl (a_mv (v := .i .i64 i) g₆_2) (ZI rfl b₁₁ ?_))))
         obtain ⟨c₁₄, hp⟩ := Zo hp
         refine Z8 rfl (a_ixa (E := Zj) (z := i) (hO₁₀.rd0 s_at_.rd : Sl Zj ((k₈.bump 58).bump 58) v_at_ at_) rfl rfl c₁₄) (ZI rfl b₁₁ (Z8 rfl (Zan (off' := 0) (off2 := 0) (hO₁₀.rd0 s_at_.rd : Sl Zj ((k₈.bump 58).bump 58) v_at_ at_) (Zq c₁₄) rfl rfl) (ZI rfl b₁₁ (Z8 rfl (zH (w := .i .i64 ((gi at_ (i : Int).toNat).X)) (hO₁₀.rd0 s_at_.rd : Sl Zj ((k₈.bump 58).bump 58) v_at_ at_) rfl (Zq c₁₄) rfl) (ZI rfl b₁₁ (Z8 rfl (a_fa (r := r₁) (o := 0) (o' := 0) g₆_12 rfl) (ZI rfl b₁₁ ?_)))))))
         refine Z8 rfl (Zaf (cs := (Zj.c (gi at_ (a : Int).toNat))) (v := .i .i64 ((gi at_ (a : Int).toNat).X)) (hO₁₀.box 0 rfl) rfl rfl) (ZI rfl b₁₁ (Z8 rfl (a_lss (a := ((gi at_ (i : Int).toNat).X)) (b := ((gi at_ (a : Int).toNat).X)) rfl rfl) (Z8 rfl (zk (t := t5) (v := .b t6) rfl b₁₁ (Eq.trans (b := V.b (decide (((gi at_ (i : Int).toNat).X) < ((gi at_ (a : Int).toNat).X)))) rfl (congrArg V.b (Option.some.inj hp)))) (zQ ?_))))
         exact ⟨rfl, rfl, g₆_0, g₆_1, g₆_10, g₆_12, g₆_13, g₆_2, g₆_3, g₆_9⟩
        ·skip
         refine Z5 rfl b₁₁ (Z5 rfl b₁₁ (Z5 rfl b₁₁ (Z5 rfl b₁₁ (Z5 rfl b₁₁ (Z5 rfl b₁₁ (Z5 rfl b₁₁ (Z5 rfl b₁₁ ?_)))))))
         refine Z8 rfl (zi (t := t5) (v := .b t6) rfl b₁₁ (Eq.trans (b := V.b false) rfl (congrArg V.b (Option.some.inj hp)))) (zQ ?_)
         exact ⟨rfl, rfl, g₆_0, g₆_1, g₆_10, g₆_12, g₆_13, g₆_2, g₆_3, g₆_9⟩
       rintro frg₇ _ ⟨rfl, g₇_126, g₇_0, g₇_1, g₇_10, g₇_12, g₇_13, g₇_2, g₇_3, g₇_9⟩
       refine Z8 rfl (a_mv (v := .b t6) g₇_126) ?_
       obtain ⟨t7, hv₈, hp⟩ := Zt hp
       refine Za7 9 (fun fr' k' => ((k₈.bump 58).bump 58) = k' ∧ fr' 136 = .b t7 ∧ fr' 0 = v_at_ ∧ fr' 1 = v_l ∧ fr' 10 = .i .i64 d ∧ fr' 12 = .p r₁ 0 ∧ fr' 13 = .p r₂ 0 ∧ fr' 2 = .i .i64 i ∧ fr' 3 = .i .i64 w ∧ fr' 9 = .i .i64 a) ?_ ?_
       ·clear hp; rcases Zv hv₈ with ⟨b₁₂, hp⟩ | ⟨b₁₂, hp⟩
        ·skip
         refine ZI rfl b₁₂ (Z8 rfl (a_fa (r := r₁) (o := 0) (o' := 0) g₇_12 rfl) (ZI rfl b₁₂ (Z8 rfl (Zaf (cs := (Zj.c (gi at_ (a : Int).toNat))) (v := .i .i64 ((gi at_ (a : Int).toNat).X)) (hO₁₀.box 0 rfl) rfl rfl) (ZI rfl b₁₂ (Z8 rfl (a_mv (v := v_at_) g₇_0) (ZI rfl b₁₂ (Z8 rfl (a_mv (v := .i .i64 w) g₇_3) ?_)))))))
         refine ZI rfl b₁₂ ?_
         obtain ⟨c₁₅, hp⟩ := Zo hp
         refine Z8 rfl (a_ixa (E := Zj) (z := w) (hO₁₀.rd0 s_at_.rd : Sl Zj ((k₈.bump 58).bump 58) v_at_ at_) rfl rfl c₁₅) (ZI rfl b₁₂ (Z8 rfl (Zan (off' := 0) (off2 := 0) (hO₁₀.rd0 s_at_.rd : Sl Zj ((k₈.bump 58).bump 58) v_at_ at_) (Zq c₁₅) rfl rfl) (ZI rfl b₁₂ (Z8 rfl (zH (w := .i .i64 ((gi at_ (w : Int).toNat).X)) (hO₁₀.rd0 s_at_.rd : Sl Zj ((k₈.bump 58).bump 58) v_at_ at_) rfl (Zq c₁₅) rfl) (ZI rfl b₁₂ (Z8 rfl (a_lss (a := ((gi at_ (a : Int).toNat).X)) (b := ((gi at_ (w : Int).toNat).X)) rfl rfl) (Z8 rfl (zk (t := t6) (v := .b t7) rfl b₁₂ (Eq.trans (b := V.b (decide (((gi at_ (a : Int).toNat).X) < ((gi at_ (w : Int).toNat).X)))) rfl (congrArg V.b (Option.some.inj hp)))) ?_)))))))
         refine zQ ?_
         exact ⟨rfl, rfl, g₇_0, g₇_1, g₇_10, g₇_12, g₇_13, g₇_2, g₇_3, g₇_9⟩
        ·skip
         refine Z5 rfl b₁₂ (Z5 rfl b₁₂ (Z5 rfl b₁₂ (Z5 rfl b₁₂ (Z5 rfl b₁₂ (Z5 rfl b₁₂ (Z5 rfl b₁₂ (Z5 rfl b₁₂ ?_)))))))
         refine Z8 rfl (zi (t := t6) (v := .b t7) rfl b₁₂ (Eq.trans (b := V.b false) rfl (congrArg V.b (Option.some.inj hp)))) (zQ ?_)
         exact ⟨rfl, rfl, g₇_0, g₇_1, g₇_10, g₇_12, g₇_13, g₇_2, g₇_3, g₇_9⟩
       rintro frg₈ _ ⟨rfl, g₈_136, g₈_0, g₈_1, g₈_10, g₈_12, g₈_13, g₈_2, g₈_3, g₈_9⟩
       refine Z8 rfl (a_mv (v := .b t7) g₈_136) ?_
       obtain ⟨t8, hv₉, hp⟩ := Zt hp
       refine Za7 9 (fun fr' k' => ((k₈.bump 58).bump 58) = k' ∧ fr' 146 = .b t8 ∧ fr' 0 = v_at_ ∧ fr' 1 = v_l ∧ fr' 10 = .i .i64 d ∧ fr' 13 = .p r₂ 0 ∧ fr' 2 = .i .i64 i ∧ fr' 3 = .i .i64 w ∧ fr' 9 = .i .i64 a) ?_ ?_
       ·clear hp; rcases Zv hv₉ with ⟨b₁₃, hp⟩ | ⟨b₁₃, hp⟩
        ·skip
         refine ZI rfl b₁₃ (Z8 rfl (a_fa (r := r₁) (o := 0) (o' := 1) g₈_12 rfl) (ZI rfl b₁₃ (Z8 rfl (Zaf (cs := (Zj.c (gi at_ (a : Int).toNat))) (v := .i .i64 ((gi at_ (a : Int).toNat).Y)) (hO₁₀.box 0 rfl) rfl rfl) (ZI rfl b₁₃ (Z8 rfl (a_mv (v := v_at_) g₈_0) (ZI rfl b₁₃ (Z8 rfl (a_mv (v := .i .i64 i) g₈_2) ?_)))))))
         refine ZI rfl b₁₃ ?_
         obtain ⟨c₁₆, hp⟩ := Zo hp
         refine Z8 rfl (a_ixa (E := Zj) (z := i) (hO₁₀.rd0 s_at_.rd : Sl Zj ((k₈.bump 58).bump 58) v_at_ at_) rfl rfl c₁₆) (ZI rfl b₁₃ (Z8 rfl (Zan (off' := 0) (off2 := 1) (hO₁₀.rd0 s_at_.rd : Sl Zj ((k₈.bump 58).bump 58) v_at_ at_) (Zq c₁₆) rfl rfl) (ZI rfl b₁₃ (Z8 rfl (zH (w := .i .i64 ((gi at_ (i : Int).toNat).Y)) (hO₁₀.rd0 s_at_.rd : Sl Zj ((k₈.bump 58).bump 58) v_at_ at_) rfl (Zq c₁₆) rfl) (ZI rfl b₁₃ (Z8 rfl (a_lss (a := ((gi at_ (a : Int).toNat).Y)) (b := ((gi at_ (i : Int).toNat).Y)) rfl rfl) (Z8 rfl (zk (t := t7) (v := .b t8) rfl b₁₃ (Eq.trans (b := V.b (decide (((gi at_ (a : Int).toNat).Y) < ((gi at_ (i : Int).toNat).Y)))) rfl (congrArg V.b (Option.some.inj hp)))) ?_)))))))
         refine zQ ?_
         exact ⟨rfl, rfl, g₈_0, g₈_1, g₈_10, g₈_13, g₈_2, g₈_3, g₈_9⟩
        ·skip
         refine Z5 rfl b₁₃ (Z5 rfl b₁₃ (Z5 rfl b₁₃ (Z5 rfl b₁₃ (Z5 rfl b₁₃ (Z5 rfl b₁₃ (Z5 rfl b₁₃ (Z5 rfl b₁₃ ?_)))))))
         refine Z8 rfl (zi (t := t7) (v := .b t8) rfl b₁₃ (Eq.trans (b := V.b false) rfl (congrArg V.b (Option.some.inj hp)))) (zQ ?_)
         exact ⟨rfl, rfl, g₈_0, g₈_1, g₈_10, g₈_13, g₈_2, g₈_3, g₈_9⟩
       rintro frg₉ _ ⟨rfl, g₉_146, g₉_0, g₉_1, g₉_10, g₉_13, g₉_2, g₉_3, g₉_9⟩
       refine Z8 rfl (a_mv (v := .b t8) g₉_146) ?_
       obtain ⟨t9, hv₁₀, hp⟩ := Zt hp
       refine Za7 9 (fun fr' k' => ((k₈.bump 58).bump 58) = k' ∧ fr' 156 = .b t9 ∧ fr' 0 = v_at_ ∧ fr' 1 = v_l ∧ fr' 10 = .i .i64 d ∧ fr' 2 = .i .i64 i ∧ fr' 3 = .i .i64 w ∧ fr' 9 = .i .i64 a) ?_ ?_
       ·clear hp; rcases Zv hv₁₀ with ⟨b₁₄, hp⟩ | ⟨b₁₄, hp⟩
        ·skip
         refine ZI rfl b₁₄ (Z8 rfl (a_mv (v := v_at_) g₉_0) (ZI rfl b₁₄ (Z8 rfl (a_mv (v := .i .i64 i) g₉_2) (ZI rfl b₁₄ ?_))))
         obtain ⟨c₁₇, hp⟩ := Zo hp
         refine Z8 rfl (a_ixa (E := Zj) (z := i) (hO₁₀.rd0 s_at_.rd : Sl Zj ((k₈.bump 58).bump 58) v_at_ at_) rfl rfl c₁₇) (ZI rfl b₁₄ (Z8 rfl (Zan (off' := 0) (off2 := 1) (hO₁₀.rd0 s_at_.rd : Sl Zj ((k₈.bump 58).bump 58) v_at_ at_) (Zq c₁₇) rfl rfl) (ZI rfl b₁₄ (Z8 rfl (zH (w := .i .i64 ((gi at_ (i : Int).toNat).Y)) (hO₁₀.rd0 s_at_.rd : Sl Zj ((k₈.bump 58).bump 58) v_at_ at_) rfl (Zq c₁₇) rfl) (ZI rfl b₁₄ (Z8 rfl (a_fa (r := r₂) (o := 0) (o' := 1) g₉_13 rfl) (ZI rfl b₁₄ ?_)))))))
         refine Z8 rfl (Zaf (cs := (Zj.c (gi at_ (((gi l (a : Int).toNat).Next).get d : Int).toNat))) (v := .i .i64 ((gi at_ (((gi l (a : Int).toNat).Next).get d : Int).toNat).Y)) (hO₁₀.box 1 rfl) rfl rfl) (ZI rfl b₁₄ (Z8 rfl (a_lss (a := ((gi at_ (i : Int).toNat).Y)) (b := ((gi at_ (((gi l (a : Int).toNat).Next).get d : Int).toNat).Y)) rfl rfl) (Z8 rfl (zk (t := t8) (v := .b t9) rfl b₁₄ (Eq.trans (b := V.b (decide (((gi at_ (i : Int).toNat).Y) < ((gi at_ (((gi l (a : Int).toNat).Next).get d : Int).toNat).Y)))) rfl (congrArg V.b (Option.some.inj hp)))) (zQ ?_))))
         exact ⟨rfl, rfl, g₉_0, g₉_1, g₉_10, g₉_2, g₉_3, g₉_9⟩
        ·skip
         refine Z5 rfl b₁₄ (Z5 rfl b₁₄ (Z5 rfl b₁₄ (Z5 rfl b₁₄ (Z5 rfl b₁₄ (Z5 rfl b₁₄ (Z5 rfl b₁₄ (Z5 rfl b₁₄ ?_)))))))
         refine Z8 rfl (zi (t := t8) (v := .b t9) rfl b₁₄ (Eq.trans (b := V.b false) rfl (congrArg V.b (Option.some.inj hp)))) (zQ ?_)
         exact ⟨rfl, rfl, g₉_0, g₉_1, g₉_10, g₉_2, g₉_3, g₉_9⟩
       rintro frg₁₀ _ ⟨rfl, g₁₀_156, g₁₀_0, g₁₀_1, g₁₀_10, g₁₀_2, g₁₀_3, g₁₀_9⟩
       refine zQ (Ze ?_)
       rcases Zv hp with ⟨b₁₅, hp⟩ | ⟨b₁₅, hp⟩
       ·refine W_cT (t := t9) g₁₀_156 b₁₅ ?_
        refine W_sq (W_rg (Zb (a_mv (v := .b true) rfl) (Zh (Ze (W_rt (Zak (zy ?_)))))))
        have hp := Option.some.inj hp; subst hp
        refine (Or.inr (Exists.intro (.inr ()) (And.intro rfl (And.intro (fun h => nomatch h) (fun he => ?_)))))
        subst he; exact (And.intro rfl (And.intro (rfl) (hO₁₀.pick [] rfl (by decide))))
       ·refine W_cF (t := t9) g₁₀_156 b₁₅ ?_
        refine W_sk (zL (Ze (W_rg (Zb (a_mv (v := .i .i64 d) g₁₀_10) ?_))))
        obtain ⟨c₁₈, hp⟩ := Zo hp
        refine Zb (a_add (a := d) (b := 1) rfl rfl c₁₈) (Zb (a_mv (v := .i .i64 (d + 1)) rfl) (Zh ?_))
        have hp := Option.some.inj hp; subst hp
        exact (Or.inl (Exists.intro (d + 1) (And.intro rfl (And.intro rfl (And.intro (g₁₀_0) (And.intro (g₁₀_1) (And.intro (g₁₀_2) (And.intro (g₁₀_3) (And.intro (g₁₀_9) (And.intro (rfl) (hO₁₀.pick [] rfl (by decide))))))))))))
    ·refine W_cF (t := (decide (d < 2))) rfl b₂ ?_
     refine W_ex (zC ?_)
     have hp := Option.some.inj hp; subst hp
     refine (Or.inr (Exists.intro (.inl ()) (And.intro rfl (And.intro (fun h => nomatch h) (fun he => ?_)))))
     subst he; exact (And.intro rfl (And.intro (q₄_0) (And.intro (q₄_1) (And.intro (q₄_2) (And.intro (q₄_3) (And.intro (q₄_9) (hO₄.pick [] rfl (by decide))))))))
   intro e₂ q₃ k₃ hJ₂
   rcases o₃ with _ | _
   ·obtain ⟨rfl, q₃_0, q₃_1, q₃_2, q₃_3, q₃_9, hO₃⟩ := hJ₂
    refine zS (zL (Ze (W_rg (Zb (a_mv (v := .i .i64 a) q₃_9) ?_))))
    obtain ⟨c₁₉, hp⟩ := Zo hp
    refine Zb (a_add (a := a) (b := 1) rfl rfl c₁₉) (Zb (a_mv (v := .i .i64 (a + 1)) rfl) (Zh ?_))
    have hp := Option.some.inj hp; subst hp
    exact (Or.inl (Exists.intro (a + 1) (And.intro rfl (And.intro rfl (And.intro (q₃_0) (And.intro (q₃_1) (And.intro (q₃_2) (And.intro (q₃_3) (And.intro (rfl) (hO₃.pick [] rfl (by decide)))))))))))
   ·obtain ⟨rfl, q₃_8, hO₃⟩ := hJ₂
    refine Zak (Zak (zy ?_))
    have hp := Option.some.inj hp; subst hp
    refine (Or.inr (Exists.intro (.inr ()) (And.intro rfl (And.intro (fun h => nomatch h) (fun he => ?_)))))
    subst he; exact (And.intro rfl (And.intro (q₃_8) (hO₃.pick [] rfl (by decide))))
  ·refine W_cF (t := (decide (a < (l.length : Int)))) rfl b₁ ?_
   refine W_ex (zC ?_)
   have hp := Option.some.inj hp; subst hp
   refine (Or.inr (Exists.intro (.inl ()) (And.intro rfl (And.intro (fun h => nomatch h) (fun he => ?_)))))
   subst he; exact (And.intro rfl (hO₂.pick [] rfl (by decide)))
 intro e₁ q₁ k₁ hJ₁
 rcases o₁ with _ | _
 ·obtain ⟨rfl, hO₁⟩ := hJ₁
  refine zS (Ze (W_sq (W_rg (Zb (a_mv (v := .b false) rfl) (Zh (Ze (W_rt ?_)))))))
  refine Ret_r (rs_t (n := 8) (v := .b false) rfl rs_nil) ?_
  have hp := Option.some.inj hp; subst hp
  exact (And.intro rfl (hO₁.pick [] rfl (by decide)))
 ·obtain ⟨rfl, q₁_8, hO₁⟩ := hJ₁
  refine Zak (zy (Ret_r (rs_t (n := 8) (v := .b true) q₁_8 rs_nil) ?_))
  have hp := Option.some.inj hp; subst hp
  exact (And.intro rfl (hO₁.pick [] rfl (by decide)))

theorem zO.ok {h : Hp} {l : List Zk} {v : Int} {d : Int} {w : Int} {o : Int} {v_l : V} (s_l : Sl Zf h v_l l) {r : (List Zk)} (hp : zO l v d w o = some r) :
  ∃ u k', Is G 65 [v_l, .i .i64 v, .i .i64 d, .i .i64 w, .i .i64 o] h u k' ∧ ∃ (v₁ : V), v₁ = u ∧ Own (fun r => r < h.n) h k' [eSl Zf v₁ r] := by
 refine WC.is (WC_of G_F_muntinref10_with ?_)
 unfold zO at hp
 let B : Nat → Prop := (fun r => r < h.n)
 have hO : Own B h h [] := Own.start0 h
 refine W_sq (W_rg (Zb (a_mv (v := .sn) rfl) (Zh (Ze (W_sq (W_rg (Zb (a_mv (v := .sn) rfl) ?_)))))))
 refine Zh (Ze (W_sq (W_sq (W_rg (Zb (a_mv (v := .i .i64 0) rfl) (Zh (Ze ?_)))))))
 refine W_bl ?_
 obtain ⟨o₁, ho₁, hp⟩ := Zt hp
 refine W.mono (Q := fun e fr k => match (generalizing := false) o₁ with
   | out1 => e = (.exit 0) ∧ ∃ (v₃ : V), fr 11 = v₃ ∧ Own B h k [eSl Zf v₃ out1]) ?_ ?_
 ·clear hp
  have hO₂ : Own B h h [eSl Zf .sn ([] : List Zk)] := hO.nil Zf
  refine z3 (fun st fr k => match st with | (out, i) => ∃ (v₂ : V), fr 0 = v_l ∧ fr 1 = .i .i64 v ∧ fr 2 = .i .i64 d ∧ fr 3 = .i .i64 w ∧ fr 4 = .i .i64 o ∧ fr 11 = v₂ ∧ fr 12 = .i .i64 i ∧ Own B h k [eSl Zf v₂ out]) ho₁ (s := (([] : List Zk), 0)) (Exists.intro V.sn (And.intro (rfl) (And.intro (rfl) (And.intro (rfl) (And.intro (rfl) (And.intro (rfl) (And.intro (rfl) (And.intro (rfl) (hO₂.pick [0] rfl (by decide)))))))))) ?_
  rintro ⟨out, i⟩ q₂ k₂ ⟨v₂, q₂_0, q₂_1, q₂_2, q₂_3, q₂_4, q₂_11, q₂_12, hO₃⟩ o₂ hp
  dsimp only [zO.s0] at hp
  refine W_sq (W_sq (W_rg (Zb (a_mv (v := .i .i64 i) q₂_12) (Zb (a_mv (v := v_l) q₂_0) (Zb (a_len (hO₃.rd0 s_l.rd : Sl Zf k₂ v_l l) rfl) (Zb (a_lss (a := i) (b := (l.length : Int)) rfl rfl) (Zh ?_)))))))
  refine Ze ?_
  rcases Zv hp with ⟨b₁, hp⟩ | ⟨b₁, hp⟩
  ·refine W_cT (t := (decide (i < (l.length : Int)))) rfl b₁ ?_
   refine W_sk (Ze (W_sq (W_bl (W_sq (W_rg (Zb (a_mv (v := v_l) q₂_0) (Zb (a_mv (v := .i .i64 i) q₂_12) ?_)))))))
   obtain ⟨c₁, hp⟩ := Zo hp
   refine Zb (a_ixa (E := Zf) (z := i) (hO₃.rd0 s_l.rd : Sl Zf k₂ v_l l) rfl rfl c₁) (Zb (ZaL (E := Zf) (hO₃.rd0 s_l.rd : Sl Zf k₂ v_l l) rfl (Zq c₁)) (zq (hO₃.alloc (cs := Zf.c (⟨⟨0, 0, 0, 0⟩, ⟨0, 0, 0, 0⟩⟩ : Zk)) hO₃.fr) ?_))
   rintro _ k₃ ⟨r₁, rfl, n₁, f₁, hW⟩
   have hO₄ : Own B h k₃ [eSl Zf v₂ out, eBox r₁ (Zf.c (⟨⟨0, 0, 0, 0⟩, ⟨0, 0, 0, 0⟩⟩ : Zk))] := hW
   refine zq (hO₄.stb (ws := Zf.c (gi l (i : Int).toNat)) (cs' := Zf.c (gi l (i : Int).toNat)) (v := .ag (Zf.c (gi l (i : Int).toNat))) 1 rfl rfl rfl rfl ⟨rfl, Nat.le_of_ble_eq_true rfl, rfl⟩ rfl) ?_
   rintro _ k₄ ⟨rfl, f₂, m₁, hW⟩
   have hO₅ : Own B h k₄ [eSl Zf v₂ out, eBox r₁ (Zf.c (gi l (i : Int).toNat))] := hW
   refine Zh (Ze (W_sq (W_sq (W_rg (Zb (a_mv (v := .i .i64 i) q₂_12) (Zb (a_mv (v := .i .i64 v) q₂_1) (Zb (a_eqI (a := i) (b := v) rfl rfl) ?_)))))))
   refine Zh (Ze ?_)
   obtain ⟨o₃, ho₂, hp⟩ := Zt hp
   refine W.mono (Q := fun e fr k => match (generalizing := false) o₃ with
     | c => e = .normal ∧ fr 0 = v_l ∧ fr 1 = .i .i64 v ∧ fr 2 = .i .i64 d ∧ fr 3 = .i .i64 w ∧ fr 4 = .i .i64 o ∧ fr 11 = v₂ ∧ fr 12 = .i .i64 i ∧ fr 13 = .p r₁ 0 ∧ Own B h k [eSl Zf v₂ out, eBox r₁ (Zf.c c)]) ?_ ?_
   ·clear hp; have hp := ho₂; clear ho₂
    rcases Zv hp with ⟨b₂, hp⟩ | ⟨b₂, hp⟩
    ·refine W_cT (t := (decide (i = v))) rfl b₂ ?_
     refine W_sq (W_rg (Zb (a_mv (v := .i .i64 d) q₂_2) (Zb (a_mv (v := .i .i64 w) q₂_3) (Zb (a_fa (r := r₁) (o := 0) (o' := 0) rfl rfl) ?_))))
     obtain ⟨c₂, hp⟩ := Zo hp
     refine Zb (ZaQ (o := 0) (o' := (0 + (d : Int).toNat * 1)) (z := d) rfl rfl c₂ rfl) (zq (hO₅.stb (ws := [.i .i64 w]) (cs' := Zf.c ({ gi l (i : Int).toNat with Next := ((gi l (i : Int).toNat).Next).set d w })) (v := .i .i64 w) 1 rfl rfl rfl rfl ⟨rfl, (by have := c₂; exact (show 0 + (d : Int).toNat * 1 + 1 ≤ 8 by omega)), rfl⟩ (ZaE c₂)) ?_)
     rintro _ k₆ ⟨rfl, f₃, m₂, hW⟩
     have hO₇ : Own B h k₆ [eSl Zf v₂ out, eBox r₁ (Zf.c ({ gi l (i : Int).toNat with Next := ((gi l (i : Int).toNat).Next).set d w }))] := hW
     refine Zh (Ze (W_rg (Zb (a_mv (v := .i .i64 d) q₂_2) (Zb (a_mv (v := .i .i64 o) q₂_4) (Zb (a_fa (r := r₁) (o := 0) (o' := 4) rfl rfl) (Zb (ZaQ (o := 4) (o' := (4 + (d : Int).toNat * 1)) (z := d) rfl rfl c₂ rfl) (zq (hO₇.stb (ws := [.i .i64 o]) (cs' := Zf.c ({ { gi l (i : Int).toNat with Next := ((gi l (i : Int).toNat).Next).set d w } with Owner := (({ gi l (i : Int).toNat with Next := ((gi l (i : Int).toNat).Next).set d w }).Owner).set d o })) (v := .i .i64 o) 1 rfl rfl rfl rfl ⟨rfl, (by have := c₂; exact (show 4 + (d : Int).toNat * 1 + 1 ≤ 8 by omega)), rfl⟩ (ZaI c₂)) ?_)))))))
     rintro _ k₇ ⟨rfl, f₄, m₃, hW⟩
     have hO₈ : Own B h k₇ [eSl Zf v₂ out, eBox r₁ (Zf.c ({ { gi l (i : Int).toNat with Next := ((gi l (i : Int).toNat).Next).set d w } with Owner := (({ gi l (i : Int).toNat with Next := ((gi l (i : Int).toNat).Next).set d w }).Owner).set d o }))] := hW
     refine Zh ?_
     have hp := Option.some.inj hp; subst hp
     exact (And.intro rfl (And.intro (q₂_0) (And.intro (q₂_1) (And.intro (q₂_2) (And.intro (q₂_3) (And.intro (q₂_4) (And.intro (q₂_11) (And.intro (q₂_12) (And.intro (rfl) (hO₈.pick [0, 1] rfl (by decide)))))))))))
    ·refine W_cF (t := (decide (i = v))) rfl b₂ ?_
     refine W_sk ?_
     have hp := Option.some.inj hp; subst hp
     exact (And.intro rfl (And.intro (q₂_0) (And.intro (q₂_1) (And.intro (q₂_2) (And.intro (q₂_3) (And.intro (q₂_4) (And.intro (q₂_11) (And.intro (q₂_12) (And.intro (rfl) (hO₅.pick [0, 1] rfl (by decide)))))))))))
   intro e₂ q₃ k₅ hJ₂
   obtain ⟨c, rfl⟩ : ∃ x, x = o₃ := ⟨_, rfl⟩
   obtain ⟨rfl, q₃_0, q₃_1, q₃_2, q₃_3, q₃_4, q₃_11, q₃_12, q₃_13, hO₆⟩ := hJ₂
   refine Ze (W_sq (W_sq (W_rg (Zb (a_mv (v := .i .i64 i) q₃_12) (Zb (a_mv (v := .i .i64 w) q₃_3) (Zb (a_eqI (a := i) (b := w) rfl rfl) (Zh ?_)))))))
   refine Ze ?_
   rcases Zv hp with ⟨b₃, hp⟩ | ⟨b₃, hp⟩
   ·refine W_cT (t := (decide (i = w))) rfl b₃ ?_
    refine W_sq (W_rg (Zb (a_mv (v := .i .i64 d) q₃_2) ?_))
    obtain ⟨c₃, hp⟩ := Zo hp
    refine Zb (a_add (a := d) (b := 2) rfl rfl c₃) (Zb (a_rem (a := (d + 2)) (b := 4) rfl rfl (by decide)) (Zb (a_mv (v := .i .i64 v) q₃_1) (Zb (a_fa (r := r₁) (o := 0) (o' := 0) q₃_13 rfl) ?_)))
    obtain ⟨c₄, hp⟩ := Zo hp
    refine Zb (ZaQ (o := 0) (o' := (0 + ((d + 2).tmod 4 : Int).toNat * 1)) (z := ((d + 2).tmod 4)) rfl rfl c₄ rfl) (zq (hO₆.stb (ws := [.i .i64 v]) (cs' := Zf.c ({ c with Next := c.Next.set ((d + 2).tmod 4) v })) (v := .i .i64 v) 1 rfl rfl rfl rfl ⟨rfl, (by have := c₄; exact (show 0 + ((d + 2).tmod 4 : Int).toNat * 1 + 1 ≤ 8 by omega)), rfl⟩ (ZaE c₄)) ?_)
    rintro _ k₈ ⟨rfl, f₅, m₄, hW⟩
    have hO₉ : Own B h k₈ [eSl Zf v₂ out, eBox r₁ (Zf.c ({ c with Next := c.Next.set ((d + 2).tmod 4) v }))] := hW
    refine Zh (Ze (W_rg (Zb (a_mv (v := .i .i64 d) q₃_2) (Zb (a_add (a := d) (b := 2) rfl rfl c₃) (Zb (a_rem (a := (d + 2)) (b := 4) rfl rfl (by decide)) (Zb (a_mv (v := .i .i64 o) q₃_4) (Zb (a_fa (r := r₁) (o := 0) (o' := 4) q₃_13 rfl) ?_)))))))
    refine Zb (ZaQ (o := 4) (o' := (4 + ((d + 2).tmod 4 : Int).toNat * 1)) (z := ((d + 2).tmod 4)) rfl rfl c₄ rfl) (zq (hO₉.stb (ws := [.i .i64 o]) (cs' := Zf.c ({ { c with Next := c.Next.set ((d + 2).tmod 4) v } with Owner := (({ c with Next := c.Next.set ((d + 2).tmod 4) v }).Owner).set ((d + 2).tmod 4) o })) (v := .i .i64 o) 1 rfl rfl rfl rfl ⟨rfl, (by have := c₄; exact (show 4 + ((d + 2).tmod 4 : Int).toNat * 1 + 1 ≤ 8 by omega)), rfl⟩ (ZaI c₄)) ?_)
    rintro _ k₉ ⟨rfl, f₆, m₅, hW⟩
    have hO₁₀ : Own B h k₉ [eSl Zf v₂ out, eBox r₁ (Zf.c ({ { c with Next := c.Next.set ((d + 2).tmod 4) v } with Owner := (({ c with Next := c.Next.set ((d + 2).tmod 4) v }).Owner).set ((d + 2).tmod 4) o }))] := hW
    refine Zh (Ze (W_rg (Zb (a_mv (v := v₂) q₃_11) (Zb (a_ldbA (cs := (Zf.c ({ { c with Next := c.Next.set ((d + 2).tmod 4) v } with Owner := (({ c with Next := c.Next.set ((d + 2).tmod 4) v }).Owner).set ((d + 2).tmod 4) o }))) (ws := Zf.c ({ { c with Next := c.Next.set ((d + 2).tmod 4) v } with Owner := (({ c with Next := c.Next.set ((d + 2).tmod 4) v }).Owner).set ((d + 2).tmod 4) o })) (hO₁₀.box 1 rfl) q₃_13 rfl) (zq (hO₁₀.bsl (E := Zf) (l := [{ { c with Next := c.Next.set ((d + 2).tmod 4) v } with Owner := (({ c with Next := c.Next.set ((d + 2).tmod 4) v }).Owner).set ((d + 2).tmod 4) o }]) hO₁₀.fr (by rw [(zc (v := .ag (Zf.c ({ { c with Next := c.Next.set ((d + 2).tmod 4) v } with Owner := (({ c with Next := c.Next.set ((d + 2).tmod 4) v }).Owner).set ((d + 2).tmod 4) o }))) rfl ev_nil)]; rfl) rfl) ?_)))))
    rintro v₄ k₁₀ ⟨r₂, f₇, hW⟩
    have hO₁₁ : Own B h k₁₀ [eSl Zf v₂ out, eBox r₁ (Zf.c ({ { c with Next := c.Next.set ((d + 2).tmod 4) v } with Owner := (({ c with Next := c.Next.set ((d + 2).tmod 4) v }).Owner).set ((d + 2).tmod 4) o })), eSl Zf v₄ [{ { c with Next := c.Next.set ((d + 2).tmod 4) v } with Owner := (({ c with Next := c.Next.set ((d + 2).tmod 4) v }).Owner).set ((d + 2).tmod 4) o }]] := hW
    obtain ⟨c₅, hp⟩ := Zo hp
    refine zq (hO₁₁.app (E := Zf) (bytes := 64) 0 hO₁₁.fr rfl (hO₁₁.sl 2 rfl : Sl Zf k₁₀ v₄ [{ { c with Next := c.Next.set ((d + 2).tmod 4) v } with Owner := (({ c with Next := c.Next.set ((d + 2).tmod 4) v }).Owner).set ((d + 2).tmod 4) o }]) rfl rfl (fun _ => rfl) c₅ (by decide)) ?_
    rintro v₅ k₁₁ ⟨f₈, hW⟩
    have hO₁₂ : Own B h k₁₁ [eSl Zf v₅ (out ++ [{ { c with Next := c.Next.set ((d + 2).tmod 4) v } with Owner := (({ c with Next := c.Next.set ((d + 2).tmod 4) v }).Owner).set ((d + 2).tmod 4) o }]), eBox r₁ (Zf.c ({ { c with Next := c.Next.set ((d + 2).tmod 4) v } with Owner := (({ c with Next := c.Next.set ((d + 2).tmod 4) v }).Owner).set ((d + 2).tmod 4) o })), eSl Zf v₄ [{ { c with Next := c.Next.set ((d + 2).tmod 4) v } with Owner := (({ c with Next := c.Next.set ((d + 2).tmod 4) v }).Owner).set ((d + 2).tmod 4) o }]] := hW
    refine Zb (a_mv (v := v₅) rfl) (Zh (zL (Ze (W_rg (Zb (a_mv (v := .i .i64 i) q₃_12) ?_)))))
    obtain ⟨c₆, hp⟩ := Zo hp
    refine Zb (a_add (a := i) (b := 1) rfl rfl c₆) (Zb (a_mv (v := .i .i64 (i + 1)) rfl) (Zh ?_))
    have hp := Option.some.inj hp; subst hp
    exact (Or.inl (Exists.intro (out ++ [{ { c with Next := c.Next.set ((d + 2).tmod 4) v } with Owner := (({ c with Next := c.Next.set ((d + 2).tmod 4) v }).Owner).set ((d + 2).tmod 4) o }], i + 1) (And.intro rfl (And.intro rfl (Exists.intro v₅ (And.intro (q₃_0) (And.intro (q₃_1) (And.intro (q₃_2) (And.intro (q₃_3) (And.intro (q₃_4) (And.intro (rfl) (And.intro (rfl) (hO₁₂.pick [0] rfl (by decide))))))))))))))
   ·refine W_cF (t := (decide (i = w))) rfl b₃ ?_
    refine W_sk (Ze (W_rg (Zb (a_mv (v := v₂) q₃_11) (Zb (a_ldbA (cs := (Zf.c c)) (ws := Zf.c c) (hO₆.box 1 rfl) q₃_13 rfl) (zq (hO₆.bsl (E := Zf) (l := [c]) hO₆.fr (by rw [(zc (v := .ag (Zf.c c)) rfl ev_nil)]; rfl) rfl) ?_)))))
    rintro v₆ k₁₂ ⟨r₃, f₉, hW⟩
    have hO₁₃ : Own B h k₁₂ [eSl Zf v₂ out, eBox r₁ (Zf.c c), eSl Zf v₆ [c]] := hW
    obtain ⟨c₇, hp⟩ := Zo hp
    refine zq (hO₁₃.app (E := Zf) (bytes := 64) 0 hO₁₃.fr rfl (hO₁₃.sl 2 rfl : Sl Zf k₁₂ v₆ [c]) rfl rfl (fun _ => rfl) c₇ (by decide)) ?_
    rintro v₇ k₁₃ ⟨f₁₀, hW⟩
    have hO₁₄ : Own B h k₁₃ [eSl Zf v₇ (out ++ [c]), eBox r₁ (Zf.c c), eSl Zf v₆ [c]] := hW
    refine Zb (a_mv (v := v₇) rfl) (Zh (zL (Ze (W_rg (Zb (a_mv (v := .i .i64 i) q₃_12) ?_)))))
    obtain ⟨c₈, hp⟩ := Zo hp
    refine Zb (a_add (a := i) (b := 1) rfl rfl c₈) (Zb (a_mv (v := .i .i64 (i + 1)) rfl) (Zh ?_))
    have hp := Option.some.inj hp; subst hp
    exact (Or.inl (Exists.intro (out ++ [c], i + 1) (And.intro rfl (And.intro rfl (Exists.intro v₇ (And.intro (q₃_0) (And.intro (q₃_1) (And.intro (q₃_2) (And.intro (q₃_3) (And.intro (q₃_4) (And.intro (rfl) (And.intro (rfl) (hO₁₄.pick [0] rfl (by decide))))))))))))))
  ·refine W_cF (t := (decide (i < (l.length : Int)))) rfl b₁ ?_
   refine W_ex (zC ?_)
   have hp := Option.some.inj hp; subst hp
   refine (Or.inr (Exists.intro out (And.intro rfl (And.intro (fun h => nomatch h) (fun he => ?_)))))
   subst he; exact (And.intro rfl (Exists.intro v₂ (And.intro (q₂_11) (hO₃.pick [0] rfl (by decide)))))
 intro e₁ q₁ k₁ hJ₁
 obtain ⟨out1, rfl⟩ : ∃ x, x = o₁ := ⟨_, rfl⟩
 obtain ⟨rfl, v₃, q₁_11, hO₁⟩ := hJ₁
 refine zS (Ze (W_sq (W_rg (Zb (a_mv (v := v₃) q₁_11) (Zb (a_mv (v := v₃) rfl) (Zh (Ze ?_)))))))
 refine W_rt (Ret_r (rs_t (n := 10) (v := v₃) rfl rs_nil) ?_)
 have hp := Option.some.inj hp; subst hp
 exact (Exists.intro v₃ (And.intro rfl (hO₁.pick [0] rfl (by decide))))

theorem ZF.ok {h : Hp} {z : zn} {most : Int} {v_z_At : V} {v_z_Bits : V} {v_z_Own : V} (s_z_At : Sl ZaJ h v_z_At z.At) (s_z_Bits : Sl ZaJ h v_z_Bits z.Bits) (s_z_Own : Sl ZaN h v_z_Own z.Own) {r : (List Zk) × (List Zu)} (hp : ZF z most = some r) :
  ∃ u k', Is G 28 [.ag [v_z_At, v_z_Bits, v_z_Own], .i .i64 most] h u k' ∧ ∃ (v₁ : V), ∃ (v₂ : V), V.tu [v₁, v₂] = u ∧ Own (fun r => r < h.n) h k' [eSl Zf v₁ r.1, eSl Zj v₂ r.2] := by
 refine WC.is (WC_of G_F_muntinref10_Make ?_)
 unfold ZF at hp
 let B : Nat → Prop := (fun r => r < h.n)
 have hO : Own B h h [] := Own.start0 h
 refine W_sq (W_rg (zq (hO.boxd (v := .ag [v_z_At, v_z_Bits, v_z_Own]) (cs := [v_z_At, v_z_Bits, v_z_Own]) hO.fr rfl rfl) ?_))
 rintro _ k₁ ⟨r₁, rfl, n₁, f₁, hW⟩
 have hO₁ : Own B h k₁ [eBox r₁ [v_z_At, v_z_Bits, v_z_Own]] := hW
 refine Zb (a_mv (v := .sn) rfl) (Zb (a_mv (v := .sn) rfl) (Zh (Ze (W_sq (W_rg (Zb (a_mv (v := .sn) rfl) (Zh ?_)))))))
 refine Ze (W_sq (W_sq (W_rg (Zb (a_mv (v := .i .i64 0) rfl) (Zh (Ze (W_bl ?_)))))))
 obtain ⟨o₁, ho₁, hp⟩ := Zt hp
 refine W.mono (Q := fun e fr k => match (generalizing := false) o₁ with
   | at_1 => e = (.exit 0) ∧ ∃ (v₄ : V), fr 2 = .p r₁ 0 ∧ fr 6 = v₄ ∧ Own B h k [eBox r₁ [v_z_At, v_z_Bits, v_z_Own], eSl Zj v₄ at_1]) ?_ ?_
 ·clear hp
  have hO₃ : Own B h k₁ [eBox r₁ [v_z_At, v_z_Bits, v_z_Own], eSl Zj .sn ([] : List Zu)] := hO₁.nil Zj
  refine z3 (fun st fr k => match st with | (at_, i) => ∃ (v₃ : V), fr 1 = .i .i64 most ∧ fr 2 = .p r₁ 0 ∧ fr 6 = v₃ ∧ fr 7 = .i .i64 i ∧ Own B h k [eBox r₁ [v_z_At, v_z_Bits, v_z_Own], eSl Zj v₃ at_]) ho₁ (s := (([] : List Zu), 0)) (Exists.intro V.sn (And.intro (rfl) (And.intro (rfl) (And.intro (rfl) (And.intro (rfl) (hO₃.pick [0, 1] rfl (by decide))))))) ?_
  rintro ⟨at_, i⟩ q₂ k₃ ⟨v₃, q₂_1, q₂_2, q₂_6, q₂_7, hO₄⟩ o₂ hp
  dsimp only [ZF.s0] at hp
  refine W_sq (W_sq (W_rg (Zb (a_mv (v := .i .i64 i) q₂_7) (Zb (a_fa (r := r₁) (o := 0) (o' := 0) q₂_2 rfl) (Zb (Zaf (cs := [v_z_At, v_z_Bits, v_z_Own]) (v := v_z_At) (hO₄.box 0 rfl) rfl rfl) (Zb (a_len (hO₄.rd0 s_z_At.rd : Sl ZaJ k₃ v_z_At z.At) rfl) (Zb (a_lss (a := i) (b := (z.At.length : Int)) rfl rfl) ?_)))))))
  refine Zb (a_mv (v := .b (decide (i < (z.At.length : Int)))) rfl) ?_
  refine zX 5 (fun fr' k' => k₃ = k' ∧ fr' 28 = .b ((decide (i < (z.At.length : Int))) && (decide ((at_.length : Int) < most))) ∧ fr' 1 = .i .i64 most ∧ fr' 2 = .p r₁ 0 ∧ fr' 6 = v₃ ∧ fr' 7 = .i .i64 i) ?_ ?_
  ·rcases bc (decide (i < (z.At.length : Int))) with b₁ | b₁
   ·skip
    refine WO_on rfl b₁ (Zb (a_mv (v := v₃) q₂_6) (WO_on rfl b₁ (Zb (a_len (hO₄.sl 1 rfl : Sl Zj k₃ v₃ at_) rfl) (WO_on rfl b₁ (Zb (a_mv (v := .i .i64 most) q₂_1) (WO_on rfl b₁ (Zb (a_lss (a := (at_.length : Int)) (b := most) rfl rfl) ?_)))))))
    refine Zb (zk (t := (decide (i < (z.At.length : Int)))) (v := .b ((decide (i < (z.At.length : Int))) && (decide ((at_.length : Int) < most)))) rfl b₁ (Eq.trans (b := V.b (decide ((at_.length : Int) < most))) rfl (ZaD b₁))) (Zh ?_)
    exact ⟨rfl, rfl, q₂_1, q₂_2, q₂_6, q₂_7⟩
   ·skip
    refine WO_off rfl b₁ (WO_off rfl b₁ (WO_off rfl b₁ (WO_off rfl b₁ (Zb (zi (t := (decide (i < (z.At.length : Int)))) (v := .b ((decide (i < (z.At.length : Int))) && (decide ((at_.length : Int) < most)))) rfl b₁ (Eq.trans (b := V.b false) rfl (Za2 b₁))) (Zh ?_)))))
    exact ⟨rfl, rfl, q₂_1, q₂_2, q₂_6, q₂_7⟩
  rintro frg₁ _ ⟨rfl, g₁_28, g₁_1, g₁_2, g₁_6, g₁_7⟩
  refine Zh (Ze ?_)
  rcases Zv hp with ⟨b₂, hp⟩ | ⟨b₂, hp⟩
  ·refine W_cT (t := ((decide (i < (z.At.length : Int))) && (decide ((at_.length : Int) < most)))) g₁_28 b₂ ?_
   refine W_sk (Ze (W_sq (W_bl (W_sq (W_dr ?_)))))
   have hW := hO₄.bump 18
   have fr₁ := Fresh.start k₃ 18
   have nb₁ : ∀ {i : Nat}, h.n ≤ k₃.n + i := Nat.le_trans hO₄.n (Nat.le_add_right _ _)
   have hO₅ : Own B h (k₃.bump 18) [eBox r₁ [v_z_At, v_z_Bits, v_z_Own], eSl Zj v₃ at_] := hW
   refine zM (a_fa (r := r₁) (o := 0) (o' := 0) g₁_2 rfl) (zM (Zaf (cs := [v_z_At, v_z_Bits, v_z_Own]) (v := v_z_At) (hO₅.box 0 rfl) rfl rfl) (zM (a_mv (v := .i .i64 i) g₁_7) ?_))
   obtain ⟨c₁, hp⟩ := Zo hp
   refine zM (a_ixa (E := ZaJ) (z := i) (hO₅.rd0 s_z_At.rd : Sl ZaJ (k₃.bump 18) v_z_At z.At) rfl rfl c₁) (zM (zH (w := .i .u8 (gi z.At (i : Int).toNat)) (hO₅.rd0 s_z_At.rd : Sl ZaJ (k₃.bump 18) v_z_At z.At) rfl (Zq c₁) rfl) ?_)
   obtain ⟨c₂, hp⟩ := Zo hp
   refine zM (a_conv (a := (gi z.At (i : Int).toNat)) rfl c₂) (zM (a_rem (a := (gi z.At (i : Int).toNat)) (b := 8) rfl rfl (by decide)) (zM (a_fa (r := r₁) (o := 0) (o' := 0) g₁_2 rfl) (zM (Zaf (cs := [v_z_At, v_z_Bits, v_z_Own]) (v := v_z_At) (hO₅.box 0 rfl) rfl rfl) (zM (a_mv (v := .i .i64 i) g₁_7) (zM (a_ixa (E := ZaJ) (z := i) (hO₅.rd0 s_z_At.rd : Sl ZaJ (k₃.bump 18) v_z_At z.At) rfl rfl c₁) (zM (zH (w := .i .u8 (gi z.At (i : Int).toNat)) (hO₅.rd0 s_z_At.rd : Sl ZaJ (k₃.bump 18) v_z_At z.At) rfl (Zq c₁) rfl) (zM (a_conv (a := (gi z.At (i : Int).toNat)) rfl c₂) ?_)))))))
   obtain ⟨c₃, hp⟩ := Zo hp
   refine zM (a_quo (a := (gi z.At (i : Int).toNat)) (b := 8) rfl rfl c₃) (zM (a_rem (a := ((gi z.At (i : Int).toNat).tdiv 8)) (b := 8) rfl rfl (by decide)) (zM (Zaw (cs := Zj.c (⟨(gi z.At (i : Int).toNat).tmod 8, ((gi z.At (i : Int).toNat).tdiv 8).tmod 8⟩ : Zu)) (by rw [(zc (v := .i .i64 ((gi z.At (i : Int).toNat).tmod 8)) rfl (zc (v := .i .i64 (((gi z.At (i : Int).toNat).tdiv 8).tmod 8)) rfl ev_nil))]; rfl)) (ZaR (hO₅.alloc (cs := Zj.c (⟨0, 0⟩ : Zu)) ⟨fr₁.m 16 (by decide) (by decide), nb₁⟩) ?_)))
   rintro _ k₅ z₁ ⟨r₂, rfl, n₂, f₂, hW⟩
   have fr₂ := fr₁.kept f₂ (by decide)
   have hO₆ : Own B h k₅ [eBox r₁ [v_z_At, v_z_Bits, v_z_Own], eSl Zj v₃ at_, eBox r₂ (Zj.c (⟨0, 0⟩ : Zu))] := hW
   refine ZaR (hO₆.stb (ws := Zj.c (⟨(gi z.At (i : Int).toNat).tmod 8, ((gi z.At (i : Int).toNat).tdiv 8).tmod 8⟩ : Zu)) (cs' := Zj.c (⟨(gi z.At (i : Int).toNat).tmod 8, ((gi z.At (i : Int).toNat).tdiv 8).tmod 8⟩ : Zu)) (v := .ag (Zj.c (⟨(gi z.At (i : Int).toNat).tmod 8, ((gi z.At (i : Int).toNat).tdiv 8).tmod 8⟩ : Zu))) 2 rfl rfl rfl rfl ⟨rfl, Nat.le_of_ble_eq_true rfl, rfl⟩ rfl) ?_
   rintro _ k₆ z₂ ⟨rfl, f₃, m₁, hW⟩
   have fr₃ := fr₂.kept f₃ (by decide)
   have hO₇ : Own B h k₆ [eBox r₁ [v_z_At, v_z_Bits, v_z_Own], eSl Zj v₃ at_, eBox r₂ (Zj.c (⟨(gi z.At (i : Int).toNat).tmod 8, ((gi z.At (i : Int).toNat).tdiv 8).tmod 8⟩ : Zu))] := hW
   refine WD_end ?_
   refine And.intro ?_ ?_
   ·intro q hq
    simp only [List.mem_cons, List.not_mem_nil, or_false] at hq
    rcases hq with rfl | rfl | rfl | rfl | rfl | rfl | rfl | rfl
    ·refine ap_ll ?_ ?_
     ·exact (fun h => nomatch h)
     ·exact (fun h => nomatch h)
    ·refine ap_ll ?_ ?_
     ·exact (fun h => nomatch h)
     ·exact (fun h => nomatch h)
    ·refine ap_ll ?_ ?_
     ·exact (fun h => nomatch h)
     ·exact (fun h => nomatch h)
    ·refine ap_ll ?_ ?_
     ·exact (fun h => nomatch h)
     ·exact (fun h => nomatch h)
    ·refine ap_ll ?_ ?_
     ·exact (fun h => nomatch h)
     ·exact (fun _ hm => Nat.lt_irrefl _ (Nat.lt_of_lt_of_le (hO₄.ltAt 0 rfl _ (tch (v := V.p r₁ 0) (ZaM hm) rfl)) (Nat.le_add_right _ _)))
    ·refine ap_ll ?_ ?_
     ·exact (fun h => nomatch h)
     ·exact (fun _ hm => Nat.lt_irrefl _ (Nat.lt_of_lt_of_le (Nat.lt_of_lt_of_le (hO₄.lo _ (Rd.B s_z_At.rd hO₄.lo (Zq c₁) _ (refs_elt (tch (v := V.elt v_z_At (i : Int).toNat 0) (ZaM hm) rfl)))) hO₄.n) (Nat.le_add_right _ _)))
    ·refine ap_ll ?_ ?_
     ·exact (fun h => nomatch h)
     ·exact (fun _ hm => Nat.lt_irrefl _ (Nat.lt_of_lt_of_le (hO₄.ltAt 0 rfl _ (tch (v := V.p r₁ 0) (ZaM hm) rfl)) (Nat.le_add_right _ _)))
    ·refine ap_ll ?_ ?_
     ·exact (fun h => nomatch h)
     ·exact (fun _ hm => Nat.lt_irrefl _ (Nat.lt_of_lt_of_le (Nat.lt_of_lt_of_le (hO₄.lo _ (Rd.B s_z_At.rd hO₄.lo (Zq c₁) _ (refs_elt (tch (v := V.elt v_z_At (i : Int).toNat 0) (ZaM hm) rfl)))) hO₄.n) (Nat.le_add_right _ _)))
   refine Ze (W_sq (W_rg (Zb (a_mv (v := .b false) rfl) (Zh (Ze (W_sq (W_sq ?_)))))))
   refine W_rg (Zb (a_mv (v := .i .i64 0) rfl) (Zh (Ze (W_bl ?_))))
   obtain ⟨o₃, ho₂, hp⟩ := Zt hp
   refine W.mono (Q := fun e fr k => match (generalizing := false) o₃ with
     | (at_2, met1) => e = (.exit 2) ∧ fr 1 = .i .i64 most ∧ fr 2 = .p r₁ 0 ∧ fr 6 = v₃ ∧ fr 7 = .i .i64 i ∧ fr 8 = .p r₂ 0 ∧ fr 9 = .b met1 ∧ Own B h k [eBox r₁ [v_z_At, v_z_Bits, v_z_Own], eSl Zj v₃ at_2, eBox r₂ (Zj.c (⟨(gi z.At (i : Int).toNat).tmod 8, ((gi z.At (i : Int).toNat).tdiv 8).tmod 8⟩ : Zu))]) ?_ ?_
   ·clear hp
    refine z3 (fun st fr k => match st with | (met, k_) => fr 1 = .i .i64 most ∧ fr 2 = .p r₁ 0 ∧ fr 6 = v₃ ∧ fr 7 = .i .i64 i ∧ fr 8 = .p r₂ 0 ∧ fr 9 = .b met ∧ fr 10 = .i .i64 k_ ∧ Own B h k [eBox r₁ [v_z_At, v_z_Bits, v_z_Own], eSl Zj v₃ at_, eBox r₂ (Zj.c (⟨(gi z.At (i : Int).toNat).tmod 8, ((gi z.At (i : Int).toNat).tdiv 8).tmod 8⟩ : Zu))]) ho₂ (s := (false, 0)) (And.intro (g₁_1) (And.intro (g₁_2) (And.intro (g₁_6) (And.intro (g₁_7) (And.intro (rfl) (And.intro (rfl) (And.intro (rfl) (hO₇.pick [0, 1, 2] rfl (by decide))))))))) ?_
    rintro ⟨met, k_⟩ q₄ k₈ ⟨q₄_1, q₄_2, q₄_6, q₄_7, q₄_8, q₄_9, q₄_10, hO₉⟩ o₄ hp
    dsimp only [ZF.s1] at hp
    refine W_sq (W_sq (W_rg (Zb (a_mv (v := .i .i64 k_) q₄_10) (Zb (a_mv (v := v₃) q₄_6) (Zb (a_len (hO₉.sl 1 rfl : Sl Zj k₈ v₃ at_) rfl) (Zb (a_lss (a := k_) (b := (at_.length : Int)) rfl rfl) (Zh ?_)))))))
    refine Ze ?_
    rcases Zv hp with ⟨b₃, hp⟩ | ⟨b₃, hp⟩
    ·refine W_cT (t := (decide (k_ < (at_.length : Int)))) rfl b₃ ?_
     refine W_sk (Ze (W_sq (W_bl (W_qd ?_))))
     have hW := hO₉.bump 10
     have hO₁₀ : Own B h (k₈.bump 10) [eBox r₁ [v_z_At, v_z_Bits, v_z_Own], eSl Zj v₃ at_, eBox r₂ (Zj.c (⟨(gi z.At (i : Int).toNat).tmod 8, ((gi z.At (i : Int).toNat).tdiv 8).tmod 8⟩ : Zu))] := hW
     refine Z8 rfl (a_mv (v := .b met) q₄_9) (Z8 rfl (a_mv (v := .b met) rfl) ?_)
     obtain ⟨t, hv₁, hp⟩ := Zt hp
     refine Za7 7 (fun fr' k' => (k₈.bump 10) = k' ∧ fr' 61 = .b t ∧ fr' 1 = .i .i64 most ∧ fr' 10 = .i .i64 k_ ∧ fr' 2 = .p r₁ 0 ∧ fr' 6 = v₃ ∧ fr' 7 = .i .i64 i ∧ fr' 8 = .p r₂ 0) ?_ ?_
     ·clear hp; rcases Zv hv₁ with ⟨b₄, hp⟩ | ⟨b₄, hp⟩
      ·skip
       refine Z5 rfl b₄ (Z5 rfl b₄ (Z5 rfl b₄ (Z5 rfl b₄ (Z5 rfl b₄ (Z5 rfl b₄ (Z8 rfl (zk (t := met) (v := .b t) rfl b₄ (Eq.trans (b := V.b true) rfl (congrArg V.b (Option.some.inj hp)))) (zQ ?_)))))))
       exact ⟨rfl, rfl, q₄_1, q₄_10, q₄_2, q₄_6, q₄_7, q₄_8⟩
      ·skip
       refine ZI rfl b₄ (Z8 rfl (a_mv (v := v₃) q₄_6) (ZI rfl b₄ (Z8 rfl (a_mv (v := .i .i64 k_) q₄_10) (ZI rfl b₄ ?_))))
       obtain ⟨c₄, hp⟩ := Zo hp
       refine Z8 rfl (a_ixa (E := Zj) (z := k_) (hO₁₀.sl 1 rfl : Sl Zj (k₈.bump 10) v₃ at_) rfl rfl c₄) (ZI rfl b₄ (Z8 rfl (ZaL (E := Zj) (hO₁₀.sl 1 rfl : Sl Zj (k₈.bump 10) v₃ at_) rfl (Zq c₄)) (ZI rfl b₄ (Z8 rfl (a_ldbA (cs := (Zj.c (⟨(gi z.At (i : Int).toNat).tmod 8, ((gi z.At (i : Int).toNat).tdiv 8).tmod 8⟩ : Zu))) (ws := Zj.c (⟨(gi z.At (i : Int).toNat).tmod 8, ((gi z.At (i : Int).toNat).tdiv 8).tmod 8⟩ : Zu)) (hO₁₀.box 2 rfl) q₄_8 rfl) (ZI rfl b₄ (Z8 rfl (a_eqA (as := Zj.c (gi at_ (k_ : Int).toNat)) (bs := Zj.c (⟨(gi z.At (i : Int).toNat).tmod 8, ((gi z.At (i : Int).toNat).tdiv 8).tmod 8⟩ : Zu)) rfl rfl (Mu.Zj.same _ _)) (Z8 rfl (zi (t := met) (v := .b t) rfl b₄ (Eq.trans (b := V.b (decide (gi at_ (k_ : Int).toNat = (⟨(gi z.At (i : Int).toNat).tmod 8, ((gi z.At (i : Int).toNat).tdiv 8).tmod 8⟩ : Zu)))) rfl (congrArg V.b (Option.some.inj hp)))) ?_)))))))
       refine zQ ?_
       exact ⟨rfl, rfl, q₄_1, q₄_10, q₄_2, q₄_6, q₄_7, q₄_8⟩
     rintro frg₂ _ ⟨rfl, g₂_61, g₂_1, g₂_10, g₂_2, g₂_6, g₂_7, g₂_8⟩
     refine Z8 rfl (a_mv (v := .b t) g₂_61) (zQ (zL (Ze (W_rg (Zb (a_mv (v := .i .i64 k_) g₂_10) ?_)))))
     obtain ⟨c₅, hp⟩ := Zo hp
     refine Zb (a_add (a := k_) (b := 1) rfl rfl c₅) (Zb (a_mv (v := .i .i64 (k_ + 1)) rfl) (Zh ?_))
     have hp := Option.some.inj hp; subst hp
     exact (Or.inl (Exists.intro (t, k_ + 1) (And.intro rfl (And.intro rfl (And.intro (g₂_1) (And.intro (g₂_2) (And.intro (g₂_6) (And.intro (g₂_7) (And.intro (g₂_8) (And.intro (rfl) (And.intro (rfl) (hO₁₀.pick [0, 1, 2] rfl (by decide)))))))))))))
    ·refine W_cF (t := (decide (k_ < (at_.length : Int)))) rfl b₃ ?_
     refine W_ex (zC ?_)
     have hp := Option.some.inj hp; subst hp
     refine (Or.inr (Exists.intro (at_, met) (And.intro rfl (And.intro (fun h => nomatch h) (fun he => ?_)))))
     subst he; exact (And.intro rfl (And.intro (q₄_1) (And.intro (q₄_2) (And.intro (q₄_6) (And.intro (q₄_7) (And.intro (q₄_8) (And.intro (q₄_9) (hO₉.pick [0, 1, 2] rfl (by decide)))))))))
   intro e₂ q₃ k₇ hJ₂
   obtain ⟨at_2, met1⟩ := o₃
   obtain ⟨rfl, q₃_1, q₃_2, q₃_6, q₃_7, q₃_8, q₃_9, hO₈⟩ := hJ₂
   refine zS (Ze (W_sq (W_rg (Zb (a_mv (v := .b met1) q₃_9) (Zb (a_not (t := met1) rfl) (Zh (Ze ?_)))))))
   rcases Zv hp with ⟨b₅, hp⟩ | ⟨b₅, hp⟩
   ·refine W_cT (t := (!met1)) rfl b₅ ?_
    refine W_rg (Zb (a_mv (v := v₃) q₃_6) (Zb (a_ldbA (cs := (Zj.c (⟨(gi z.At (i : Int).toNat).tmod 8, ((gi z.At (i : Int).toNat).tdiv 8).tmod 8⟩ : Zu))) (ws := Zj.c (⟨(gi z.At (i : Int).toNat).tmod 8, ((gi z.At (i : Int).toNat).tdiv 8).tmod 8⟩ : Zu)) (hO₈.box 2 rfl) q₃_8 rfl) (zq (hO₈.bsl (E := Zj) (l := [(⟨(gi z.At (i : Int).toNat).tmod 8, ((gi z.At (i : Int).toNat).tdiv 8).tmod 8⟩ : Zu)]) hO₈.fr (by rw [(zc (v := .ag (Zj.c (⟨(gi z.At (i : Int).toNat).tmod 8, ((gi z.At (i : Int).toNat).tdiv 8).tmod 8⟩ : Zu))) rfl ev_nil)]; rfl) rfl) ?_)))
    rintro v₅ k₁₀ ⟨r₃, f₄, hW⟩
    have hO₁₁ : Own B h k₁₀ [eBox r₁ [v_z_At, v_z_Bits, v_z_Own], eSl Zj v₃ at_2, eBox r₂ (Zj.c (⟨(gi z.At (i : Int).toNat).tmod 8, ((gi z.At (i : Int).toNat).tdiv 8).tmod 8⟩ : Zu)), eSl Zj v₅ [(⟨(gi z.At (i : Int).toNat).tmod 8, ((gi z.At (i : Int).toNat).tdiv 8).tmod 8⟩ : Zu)]] := hW
    obtain ⟨c₆, hp⟩ := Zo hp
    refine zq (hO₁₁.app (E := Zj) (bytes := 16) 1 hO₁₁.fr rfl (hO₁₁.sl 3 rfl : Sl Zj k₁₀ v₅ [(⟨(gi z.At (i : Int).toNat).tmod 8, ((gi z.At (i : Int).toNat).tdiv 8).tmod 8⟩ : Zu)]) rfl rfl (fun _ => rfl) c₆ (by decide)) ?_
    rintro v₆ k₁₁ ⟨f₅, hW⟩
    have hO₁₂ : Own B h k₁₁ [eBox r₁ [v_z_At, v_z_Bits, v_z_Own], eSl Zj v₆ (at_2 ++ [(⟨(gi z.At (i : Int).toNat).tmod 8, ((gi z.At (i : Int).toNat).tdiv 8).tmod 8⟩ : Zu)]), eBox r₂ (Zj.c (⟨(gi z.At (i : Int).toNat).tmod 8, ((gi z.At (i : Int).toNat).tdiv 8).tmod 8⟩ : Zu)), eSl Zj v₅ [(⟨(gi z.At (i : Int).toNat).tmod 8, ((gi z.At (i : Int).toNat).tdiv 8).tmod 8⟩ : Zu)]] := hW
    refine Zb (a_mv (v := v₆) rfl) (Zh (zL (Ze (W_rg (Zb (a_mv (v := .i .i64 i) q₃_7) ?_)))))
    obtain ⟨c₇, hp⟩ := Zo hp
    refine Zb (a_add (a := i) (b := 1) rfl rfl c₇) (Zb (a_mv (v := .i .i64 (i + 1)) rfl) (Zh ?_))
    have hp := Option.some.inj hp; subst hp
    exact (Or.inl (Exists.intro (at_2 ++ [(⟨(gi z.At (i : Int).toNat).tmod 8, ((gi z.At (i : Int).toNat).tdiv 8).tmod 8⟩ : Zu)], i + 1) (And.intro rfl (And.intro rfl (Exists.intro v₆ (And.intro (q₃_1) (And.intro (q₃_2) (And.intro (rfl) (And.intro (rfl) (hO₁₂.pick [0, 1] rfl (by decide)))))))))))
   ·refine W_cF (t := (!met1)) rfl b₅ ?_
    refine W_sk (zL (Ze (W_rg (Zb (a_mv (v := .i .i64 i) q₃_7) ?_))))
    obtain ⟨c₈, hp⟩ := Zo hp
    refine Zb (a_add (a := i) (b := 1) rfl rfl c₈) (Zb (a_mv (v := .i .i64 (i + 1)) rfl) (Zh ?_))
    have hp := Option.some.inj hp; subst hp
    exact (Or.inl (Exists.intro (at_2, i + 1) (And.intro rfl (And.intro rfl (Exists.intro v₃ (And.intro (q₃_1) (And.intro (q₃_2) (And.intro (q₃_6) (And.intro (rfl) (hO₈.pick [0, 1] rfl (by decide)))))))))))
  ·refine W_cF (t := ((decide (i < (z.At.length : Int))) && (decide ((at_.length : Int) < most)))) g₁_28 b₂ ?_
   refine W_ex (zC ?_)
   have hp := Option.some.inj hp; subst hp
   refine (Or.inr (Exists.intro at_ (And.intro rfl (And.intro (fun h => nomatch h) (fun he => ?_)))))
   subst he; exact (And.intro rfl (Exists.intro v₃ (And.intro (g₁_2) (And.intro (g₁_6) (hO₄.pick [0, 1] rfl (by decide))))))
 intro e₁ q₁ k₂ hJ₁
 obtain ⟨at_1, rfl⟩ : ∃ x, x = o₁ := ⟨_, rfl⟩
 obtain ⟨rfl, v₄, q₁_2, q₁_6, hO₂⟩ := hJ₁
 refine zS (Ze (W_sq (W_rg (Zb (a_mv (v := v₄) q₁_6) (Zb (a_len (hO₂.sl 1 rfl : Sl Zj k₂ v₄ at_1) rfl) ?_)))))
 obtain ⟨x, hx₁, hp⟩ := Zt hp
 obtain ⟨u₁, k₁₂, ca₁, v₇, rfl, hW₁⟩ := zx.ok (h := k₂)   hx₁
 refine Zaj (id := 46) (caps := []) rfl (Z7 (v := .i .i64 (at_1.length : Int)) rfl zl) ca₁ ?_
 have hO₁₃ : Own B h k₁₂ [eBox r₁ [v_z_At, v_z_Bits, v_z_Own], eSl Zj v₄ at_1, eSl Zf v₇ x] := hO₂.call hW₁ rfl
 refine Zb (a_mv (v := v₇) rfl) (Zh (Ze (W_sq (W_sq (W_rg (Zb (a_mv (v := .i .i64 0) rfl) (Zh ?_)))))))
 refine Ze (W_bl ?_)
 obtain ⟨o₅, ho₃, hp⟩ := Zt hp
 refine W.mono (Q := fun e fr k => match (generalizing := false) o₅ with
   | (at_4, l1) => e = (.exit 4) ∧ ∃ (v₉ : V), fr 6 = v₄ ∧ fr 11 = v₉ ∧ Own B h k [eSl Zj v₄ at_4, eSl Zf v₉ l1]) ?_ ?_
 ·clear hp
  refine z3 (fun st fr k => match st with | (at_3, l, i1) => ∃ (v₈ : V), fr 2 = .p r₁ 0 ∧ fr 6 = v₄ ∧ fr 11 = v₈ ∧ fr 12 = .i .i64 i1 ∧ Own B h k [eBox r₁ [v_z_At, v_z_Bits, v_z_Own], eSl Zj v₄ at_3, eSl Zf v₈ l]) ho₃ (s := (at_1, x, 0)) (Exists.intro v₇ (And.intro (q₁_2) (And.intro (q₁_6) (And.intro (rfl) (And.intro (rfl) (hO₁₃.pick [0, 1, 2] rfl (by decide))))))) ?_
  rintro ⟨at_3, l, i1⟩ q₆ k₁₄ ⟨v₈, q₆_2, q₆_6, q₆_11, q₆_12, hO₁₅⟩ o₆ hp
  dsimp only [ZF.s2] at hp
  refine W_sq (W_sq (W_rg (Zb (a_mv (v := .i .i64 i1) q₆_12) (Zb (a_mv (v := v₄) q₆_6) (Zb (a_len (hO₁₅.sl 1 rfl : Sl Zj k₁₄ v₄ at_3) rfl) (Zb (a_lss (a := i1) (b := (at_3.length : Int)) rfl rfl) (Zh ?_)))))))
  refine Ze ?_
  rcases Zv hp with ⟨b₆, hp⟩ | ⟨b₆, hp⟩
  ·refine W_cT (t := (decide (i1 < (at_3.length : Int)))) rfl b₆ ?_
   refine W_sk (Ze (W_sq (W_bl (W_sq (W_rg (Zb (a_mv (v := .i .u8 3) rfl) (Zh ?_)))))))
   refine Ze (W_sq (W_sq (W_rg (Zb (a_mv (v := .i .i64 i1) q₆_12) (Zb (a_fa (r := r₁) (o := 0) (o' := 1) q₆_2 rfl) (Zb (Zaf (cs := [v_z_At, v_z_Bits, v_z_Own]) (v := v_z_Bits) (hO₁₅.box 0 rfl) rfl rfl) (Zb (a_len (hO₁₅.rd0 s_z_Bits.rd : Sl ZaJ k₁₄ v_z_Bits z.Bits) rfl) ?_)))))))
   refine Zb (a_lss (a := i1) (b := (z.Bits.length : Int)) rfl rfl) (Zh (Ze ?_))
   obtain ⟨o₇, ho₄, hp⟩ := Zt hp
   refine W.mono (Q := fun e fr k => match (generalizing := false) o₇ with
     | (at_5, l2, bits) => e = .normal ∧ fr 2 = .p r₁ 0 ∧ fr 6 = v₄ ∧ fr 11 = v₈ ∧ fr 12 = .i .i64 i1 ∧ fr 13 = .i .u8 bits ∧ Own B h k [eBox r₁ [v_z_At, v_z_Bits, v_z_Own], eSl Zj v₄ at_5, eSl Zf v₈ l2]) ?_ ?_
   ·clear hp; have hp := ho₄; clear ho₄
    rcases Zv hp with ⟨b₇, hp⟩ | ⟨b₇, hp⟩
    ·refine W_cT (t := (decide (i1 < (z.Bits.length : Int)))) rfl b₇ ?_
     refine W_rg (Zb (a_fa (r := r₁) (o := 0) (o' := 1) q₆_2 rfl) (Zb (Zaf (cs := [v_z_At, v_z_Bits, v_z_Own]) (v := v_z_Bits) (hO₁₅.box 0 rfl) rfl rfl) (Zb (a_mv (v := .i .i64 i1) q₆_12) ?_)))
     obtain ⟨c₉, hp⟩ := Zo hp
     refine Zb (a_ixa (E := ZaJ) (z := i1) (hO₁₅.rd0 s_z_Bits.rd : Sl ZaJ k₁₄ v_z_Bits z.Bits) rfl rfl c₉) (Zb (zH (w := .i .u8 (gi z.Bits (i1 : Int).toNat)) (hO₁₅.rd0 s_z_Bits.rd : Sl ZaJ k₁₄ v_z_Bits z.Bits) rfl (Zq c₉) rfl) (Zb (a_mv (v := .i .u8 (gi z.Bits (i1 : Int).toNat)) rfl) (Zh ?_)))
     have hp := Option.some.inj hp; subst hp
     exact (And.intro rfl (And.intro (q₆_2) (And.intro (q₆_6) (And.intro (q₆_11) (And.intro (q₆_12) (And.intro (rfl) (hO₁₅.pick [0, 1, 2] rfl (by decide))))))))
    ·refine W_cF (t := (decide (i1 < (z.Bits.length : Int)))) rfl b₇ ?_
     refine W_sk ?_
     have hp := Option.some.inj hp; subst hp
     exact (And.intro rfl (And.intro (q₆_2) (And.intro (q₆_6) (And.intro (q₆_11) (And.intro (q₆_12) (And.intro (rfl) (hO₁₅.pick [0, 1, 2] rfl (by decide))))))))
   intro e₄ q₇ k₁₅ hJ₄
   obtain ⟨at_5, l2, bits⟩ := o₇
   obtain ⟨rfl, q₇_2, q₇_6, q₇_11, q₇_12, q₇_13, hO₁₆⟩ := hJ₄
   refine Ze (W_sq (W_rg (Zb (a_mv (v := .i .i64 i1) q₇_12) (Zb (a_mv (v := .i .i64 i1) rfl) (Zh (Ze (W_sq ?_)))))))
   refine W_sq (W_rg (Zb (a_mv (v := .i .i64 i1) q₇_12) (Zb (a_fa (r := r₁) (o := 0) (o' := 2) q₇_2 rfl) (Zb (Zaf (cs := [v_z_At, v_z_Bits, v_z_Own]) (v := v_z_Own) (hO₁₆.box 0 rfl) rfl rfl) (Zb (a_len (hO₁₆.rd0 s_z_Own.rd : Sl ZaN k₁₅ v_z_Own z.Own) rfl) (Zb (a_lss (a := i1) (b := (z.Own.length : Int)) rfl rfl) (Zh ?_)))))))
   refine Ze ?_
   obtain ⟨o₈, ho₅, hp⟩ := Zt hp
   refine W.mono (Q := fun e fr k => match (generalizing := false) o₈ with
     | (at_6, l3, own) => e = .normal ∧ fr 2 = .p r₁ 0 ∧ fr 6 = v₄ ∧ fr 11 = v₈ ∧ fr 12 = .i .i64 i1 ∧ fr 13 = .i .u8 bits ∧ fr 14 = .i .i64 own ∧ Own B h k [eBox r₁ [v_z_At, v_z_Bits, v_z_Own], eSl Zj v₄ at_6, eSl Zf v₈ l3]) ?_ ?_
   ·clear hp; have hp := ho₅; clear ho₅
    rcases Zv hp with ⟨b₈, hp⟩ | ⟨b₈, hp⟩
    ·refine W_cT (t := (decide (i1 < (z.Own.length : Int)))) rfl b₈ ?_
     refine W_sq (W_rg (Zb (a_fa (r := r₁) (o := 0) (o' := 2) q₇_2 rfl) (Zb (Zaf (cs := [v_z_At, v_z_Bits, v_z_Own]) (v := v_z_Own) (hO₁₆.box 0 rfl) rfl rfl) (Zb (a_mv (v := .i .i64 i1) q₇_12) ?_))))
     obtain ⟨c₁₀, hp⟩ := Zo hp
     refine Zb (a_ixa (E := ZaN) (z := i1) (hO₁₆.rd0 s_z_Own.rd : Sl ZaN k₁₅ v_z_Own z.Own) rfl rfl c₁₀) (Zb (zH (w := .i .i8 (gi z.Own (i1 : Int).toNat)) (hO₁₆.rd0 s_z_Own.rd : Sl ZaN k₁₅ v_z_Own z.Own) rfl (Zq c₁₀) rfl) ?_)
     obtain ⟨c₁₁, hp⟩ := Zo hp
     refine Zb (a_conv (a := (gi z.Own (i1 : Int).toNat)) rfl c₁₁) (Zb (a_mv (v := .i .i64 (gi z.Own (i1 : Int).toNat)) rfl) (Zh (Ze (W_sq (W_rg (Zb (a_mv (v := .i .i64 (gi z.Own (i1 : Int).toNat)) rfl) (Zb (a_lss (a := (gi z.Own (i1 : Int).toNat)) (b := (-2)) rfl rfl) ?_)))))))
     refine Zh (Ze ?_)
     rcases Zv hp with ⟨b₉, hp⟩ | ⟨b₉, hp⟩
     ·refine W_cT (t := (decide ((gi z.Own (i1 : Int).toNat) < (-2)))) rfl b₉ ?_
      refine W_rg (Zb (a_mv (v := .i .i64 (gi z.Own (i1 : Int).toNat)) rfl) ?_)
      obtain ⟨c₁₂, hp⟩ := Zo hp
      refine Zb (a_neg (a := (gi z.Own (i1 : Int).toNat)) rfl c₁₂) (Zb (a_mv (v := .i .i64 (-(gi z.Own (i1 : Int).toNat))) rfl) (Zh ?_))
      have hp := Option.some.inj hp; subst hp
      exact (And.intro rfl (And.intro (q₇_2) (And.intro (q₇_6) (And.intro (q₇_11) (And.intro (q₇_12) (And.intro (q₇_13) (And.intro (rfl) (hO₁₆.pick [0, 1, 2] rfl (by decide)))))))))
     ·refine W_cF (t := (decide ((gi z.Own (i1 : Int).toNat) < (-2)))) rfl b₉ ?_
      refine W_sk ?_
      have hp := Option.some.inj hp; subst hp
      exact (And.intro rfl (And.intro (q₇_2) (And.intro (q₇_6) (And.intro (q₇_11) (And.intro (q₇_12) (And.intro (q₇_13) (And.intro (rfl) (hO₁₆.pick [0, 1, 2] rfl (by decide)))))))))
    ·refine W_cF (t := (decide (i1 < (z.Own.length : Int)))) rfl b₈ ?_
     refine W_sk ?_
     have hp := Option.some.inj hp; subst hp
     exact (And.intro rfl (And.intro (q₇_2) (And.intro (q₇_6) (And.intro (q₇_11) (And.intro (q₇_12) (And.intro (q₇_13) (And.intro (rfl) (hO₁₆.pick [0, 1, 2] rfl (by decide)))))))))
   intro e₅ q₈ k₁₆ hJ₅
   obtain ⟨at_6, l3, own⟩ := o₈
   obtain ⟨rfl, q₈_2, q₈_6, q₈_11, q₈_12, q₈_13, q₈_14, hO₁₇⟩ := hJ₅
   refine Ze (W_sq (W_rg (Zb (a_mv (v := .i .i64 0) rfl) (Zh (Ze (W_bl ?_))))))
   obtain ⟨o₉, ho₆, hp⟩ := Zt hp
   refine W.mono (Q := fun e fr k => match (generalizing := false) o₉ with
     | l5 => e = (.exit 6) ∧ ∃ (v₁₁ : V), fr 2 = .p r₁ 0 ∧ fr 6 = v₄ ∧ fr 11 = v₁₁ ∧ fr 12 = .i .i64 i1 ∧ Own B h k [eBox r₁ [v_z_At, v_z_Bits, v_z_Own], eSl Zj v₄ at_6, eSl Zf v₁₁ l5]) ?_ ?_
   ·clear hp
    refine z3 (fun st fr k => match st with | (l4, d) => ∃ (v₁₀ : V), fr 2 = .p r₁ 0 ∧ fr 6 = v₄ ∧ fr 11 = v₁₀ ∧ fr 12 = .i .i64 i1 ∧ fr 13 = .i .u8 bits ∧ fr 14 = .i .i64 own ∧ fr 15 = .i .i64 d ∧ Own B h k [eBox r₁ [v_z_At, v_z_Bits, v_z_Own], eSl Zj v₄ at_6, eSl Zf v₁₀ l4]) ho₆ (s := (l3, 0)) (Exists.intro v₈ (And.intro (q₈_2) (And.intro (q₈_6) (And.intro (q₈_11) (And.intro (q₈_12) (And.intro (q₈_13) (And.intro (q₈_14) (And.intro (rfl) (hO₁₇.pick [0, 1, 2] rfl (by decide)))))))))) ?_
    rintro ⟨l4, d⟩ q₁₀ k₁₈ ⟨v₁₀, q₁₀_2, q₁₀_6, q₁₀_11, q₁₀_12, q₁₀_13, q₁₀_14, q₁₀_15, hO₁₉⟩ o₁₀ hp
    dsimp only [ZF.s3] at hp
    refine W_sq (W_sq (W_rg (Zb (a_mv (v := .i .i64 d) q₁₀_15) (Zb (a_lss (a := d) (b := 2) rfl rfl) (Zh (Ze ?_))))))
    rcases Zv hp with ⟨b₁₀, hp⟩ | ⟨b₁₀, hp⟩
    ·refine W_cT (t := (decide (d < 2))) rfl b₁₀ ?_
     refine W_sk (Ze (W_sq (W_bl (W_sq (W_rg (Zb (a_mv (v := v₄) q₁₀_6) (Zb (a_mv (v := .i .i64 i1) q₁₀_12) ?_)))))))
     refine Zb (a_mv (v := .i .i64 d) q₁₀_15) ?_
     obtain ⟨x1, hx₂, hp⟩ := Zt hp
     obtain ⟨u₂, k₁₉, ca₂, rfl, hW₂⟩ := ZU.ok (h := k₁₈)  (hO₁₉.sl 1 rfl : Sl Zj k₁₈ v₄ at_6) hx₂
     refine Zaj (id := 63) (caps := []) rfl (Z7 (v := v₄) rfl (Z7 (v := .i .i64 i1) rfl (Z7 (v := .i .i64 d) rfl zl))) ca₂ ?_
     have hO₂₀ : Own B h k₁₉ [eBox r₁ [v_z_At, v_z_Bits, v_z_Own], eSl Zj v₄ at_6, eSl Zf v₁₀ l4] := hO₁₉.call hW₂ rfl
     refine Zb (a_mv (v := .i .i64 x1) rfl) (Zh (Ze (W_sq (W_sq (W_rg (Zb (a_mv (v := .i .u8 bits) q₁₀_13) (Zb (a_mv (v := .i .i64 d) q₁₀_15) ?_)))))))
     obtain ⟨c₁₃, hp⟩ := Zo hp
     refine Zb (a_shift (a := bits) (b := d) (v := .i .u8 (sh_shr .u8 bits d)) rfl rfl (by decide) (sh_shr_ok c₁₃)) (Zb (a_ari (a := (sh_shr .u8 bits d)) (b := 1) (v := .i .u8 (ari_and .u8 (sh_shr .u8 bits d) 1)) rfl rfl (by decide) rfl) (Zb (a_eqI (a := (ari_and .u8 (sh_shr .u8 bits d) 1)) (b := 0) rfl rfl) (Zb (a_mv (v := .b (decide (ari_and .u8 (sh_shr .u8 bits d) 1 = 0))) rfl) ?_)))
     refine zX 3 (fun fr' k' => k₁₉ = k' ∧ fr' 119 = .b ((decide (ari_and .u8 (sh_shr .u8 bits d) 1 = 0)) || (decide (x1 < 0))) ∧ fr' 11 = v₁₀ ∧ fr' 12 = .i .i64 i1 ∧ fr' 13 = .i .u8 bits ∧ fr' 14 = .i .i64 own ∧ fr' 15 = .i .i64 d ∧ fr' 16 = .i .i64 x1 ∧ fr' 2 = .p r₁ 0 ∧ fr' 6 = v₄) ?_ ?_
     ·rcases bc (decide (ari_and .u8 (sh_shr .u8 bits d) 1 = 0)) with b₁₁ | b₁₁
      ·skip
       refine WO_off rfl b₁₁ (WO_off rfl b₁₁ (Zb (zk (t := (decide (ari_and .u8 (sh_shr .u8 bits d) 1 = 0))) (v := .b ((decide (ari_and .u8 (sh_shr .u8 bits d) 1 = 0)) || (decide (x1 < 0)))) rfl b₁₁ (Eq.trans (b := V.b true) rfl (ZaA b₁₁))) (Zh ?_)))
       exact ⟨rfl, rfl, q₁₀_11, q₁₀_12, q₁₀_13, q₁₀_14, q₁₀_15, rfl, q₁₀_2, q₁₀_6⟩
      ·skip
       refine WO_on rfl b₁₁ (Zb (a_mv (v := .i .i64 x1) rfl) (WO_on rfl b₁₁ (Zb (a_lss (a := x1) (b := 0) rfl rfl) (Zb (zi (t := (decide (ari_and .u8 (sh_shr .u8 bits d) 1 = 0))) (v := .b ((decide (ari_and .u8 (sh_shr .u8 bits d) 1 = 0)) || (decide (x1 < 0)))) rfl b₁₁ (Eq.trans (b := V.b (decide (x1 < 0))) rfl (ZaH b₁₁))) (Zh ?_)))))
       exact ⟨rfl, rfl, q₁₀_11, q₁₀_12, q₁₀_13, q₁₀_14, q₁₀_15, rfl, q₁₀_2, q₁₀_6⟩
     rintro frg₃ _ ⟨rfl, g₃_119, g₃_11, g₃_12, g₃_13, g₃_14, g₃_15, g₃_16, g₃_2, g₃_6⟩
     refine Zh (Ze ?_)
     rcases Zv hp with ⟨b₁₂, hp⟩ | ⟨b₁₂, hp⟩
     ·refine W_cT (t := ((decide (ari_and .u8 (sh_shr .u8 bits d) 1 = 0)) || (decide (x1 < 0)))) g₃_119 b₁₂ ?_
      refine W_ex (zC (zS (Ze (W_rg (Zb (a_mv (v := .i .i64 d) g₃_15) ?_)))))
      obtain ⟨c₁₄, hp⟩ := Zo hp
      refine Zb (a_add (a := d) (b := 1) rfl rfl c₁₄) (Zb (a_mv (v := .i .i64 (d + 1)) rfl) (Zh ?_))
      have hp := Option.some.inj hp; subst hp
      exact (Or.inl (Exists.intro (l4, d + 1) (And.intro rfl (And.intro rfl (Exists.intro v₁₀ (And.intro (g₃_2) (And.intro (g₃_6) (And.intro (g₃_11) (And.intro (g₃_12) (And.intro (g₃_13) (And.intro (g₃_14) (And.intro (rfl) (hO₂₀.pick [0, 1, 2] rfl (by decide))))))))))))))
     ·refine W_cF (t := ((decide (ari_and .u8 (sh_shr .u8 bits d) 1 = 0)) || (decide (x1 < 0)))) g₃_119 b₁₂ ?_
      refine W_sk (Ze (W_sq (W_rg (Zb (a_mv (v := v₄) g₃_6) (Zb (a_mv (v := v₁₀) g₃_11) (Zb (a_mv (v := .i .i64 i1) g₃_12) (Zb (a_mv (v := .i .i64 x1) g₃_16) ?_)))))))
      obtain ⟨x2, hx₃, hp⟩ := Zt hp
      obtain ⟨u₃, k₂₀, ca₃, rfl, hW₃⟩ := ZT.ok (h := k₁₉)  (hO₂₀.sl 1 rfl : Sl Zj k₁₉ v₄ at_6) (hO₂₀.sl 2 rfl : Sl Zf k₁₉ v₁₀ l4) hx₃
      refine Zaj (id := 64) (caps := []) rfl (Z7 (v := v₄) rfl (Z7 (v := v₁₀) rfl (Z7 (v := .i .i64 i1) rfl (Z7 (v := .i .i64 x1) rfl zl)))) ca₃ ?_
      have hO₂₁ : Own B h k₂₀ [eBox r₁ [v_z_At, v_z_Bits, v_z_Own], eSl Zj v₄ at_6, eSl Zf v₁₀ l4] := hO₂₀.call hW₃ rfl
      refine Zb (a_mv (v := .b x2) rfl) (Zh (Ze (W_sq (W_rg (Zb (a_mv (v := .b x2) rfl) (Zb (a_not (t := x2) rfl) (Zh ?_)))))))
      refine Ze ?_
      rcases Zv hp with ⟨b₁₃, hp⟩ | ⟨b₁₃, hp⟩
      ·refine W_cT (t := (!x2)) rfl b₁₃ ?_
       refine W_rg (Zb (a_mv (v := v₁₀) g₃_11) (Zb (a_mv (v := .i .i64 i1) g₃_12) (Zb (a_mv (v := .i .i64 d) g₃_15) (Zb (a_mv (v := .i .i64 x1) g₃_16) (Zb (a_mv (v := .i .i64 own) g₃_14) ?_)))))
       obtain ⟨x3, hx₄, hp⟩ := Zt hp
       obtain ⟨u₄, k₂₁, ca₄, v₁₂, rfl, hW₄⟩ := zO.ok (h := k₂₀)  (hO₂₁.sl 2 rfl : Sl Zf k₂₀ v₁₀ l4) hx₄
       refine Zaj (id := 65) (caps := []) rfl (Z7 (v := v₁₀) rfl (Z7 (v := .i .i64 i1) rfl (Z7 (v := .i .i64 d) rfl (Z7 (v := .i .i64 x1) rfl (Z7 (v := .i .i64 own) rfl zl))))) ca₄ ?_
       have hO₂₂ : Own B h k₂₁ [eBox r₁ [v_z_At, v_z_Bits, v_z_Own], eSl Zj v₄ at_6, eSl Zf v₁₀ l4, eSl Zf v₁₂ x3] := hO₂₁.call hW₄ rfl
       refine Zb (a_mv (v := v₁₂) rfl) (Zh (zL (Ze (W_rg (Zb (a_mv (v := .i .i64 d) g₃_15) ?_)))))
       obtain ⟨c₁₅, hp⟩ := Zo hp
       refine Zb (a_add (a := d) (b := 1) rfl rfl c₁₅) (Zb (a_mv (v := .i .i64 (d + 1)) rfl) (Zh ?_))
       have hp := Option.some.inj hp; subst hp
       exact (Or.inl (Exists.intro (x3, d + 1) (And.intro rfl (And.intro rfl (Exists.intro v₁₂ (And.intro (g₃_2) (And.intro (g₃_6) (And.intro (rfl) (And.intro (g₃_12) (And.intro (g₃_13) (And.intro (g₃_14) (And.intro (rfl) (hO₂₂.pick [0, 1, 3] rfl (by decide))))))))))))))
      ·refine W_cF (t := (!x2)) rfl b₁₃ ?_
       refine W_sk (zL (Ze (W_rg (Zb (a_mv (v := .i .i64 d) g₃_15) ?_))))
       obtain ⟨c₁₆, hp⟩ := Zo hp
       refine Zb (a_add (a := d) (b := 1) rfl rfl c₁₆) (Zb (a_mv (v := .i .i64 (d + 1)) rfl) (Zh ?_))
       have hp := Option.some.inj hp; subst hp
       exact (Or.inl (Exists.intro (l4, d + 1) (And.intro rfl (And.intro rfl (Exists.intro v₁₀ (And.intro (g₃_2) (And.intro (g₃_6) (And.intro (g₃_11) (And.intro (g₃_12) (And.intro (g₃_13) (And.intro (g₃_14) (And.intro (rfl) (hO₂₁.pick [0, 1, 2] rfl (by decide))))))))))))))
    ·refine W_cF (t := (decide (d < 2))) rfl b₁₀ ?_
     refine W_ex (zC ?_)
     have hp := Option.some.inj hp; subst hp
     refine (Or.inr (Exists.intro l4 (And.intro rfl (And.intro (fun h => nomatch h) (fun he => ?_)))))
     subst he; exact (And.intro rfl (Exists.intro v₁₀ (And.intro (q₁₀_2) (And.intro (q₁₀_6) (And.intro (q₁₀_11) (And.intro (q₁₀_12) (hO₁₉.pick [0, 1, 2] rfl (by decide))))))))
   intro e₆ q₉ k₁₇ hJ₆
   obtain ⟨l5, rfl⟩ : ∃ x, x = o₉ := ⟨_, rfl⟩
   obtain ⟨rfl, v₁₁, q₉_2, q₉_6, q₉_11, q₉_12, hO₁₈⟩ := hJ₆
   refine zS (zL (Ze (W_rg (Zb (a_mv (v := .i .i64 i1) q₉_12) ?_))))
   obtain ⟨c₁₇, hp⟩ := Zo hp
   refine Zb (a_add (a := i1) (b := 1) rfl rfl c₁₇) (Zb (a_mv (v := .i .i64 (i1 + 1)) rfl) (Zh ?_))
   have hp := Option.some.inj hp; subst hp
   exact (Or.inl (Exists.intro (at_6, l5, i1 + 1) (And.intro rfl (And.intro rfl (Exists.intro v₁₁ (And.intro (q₉_2) (And.intro (q₉_6) (And.intro (q₉_11) (And.intro (rfl) (hO₁₈.pick [0, 1, 2] rfl (by decide)))))))))))
  ·refine W_cF (t := (decide (i1 < (at_3.length : Int)))) rfl b₆ ?_
   refine W_ex (zC ?_)
   have hp := Option.some.inj hp; subst hp
   refine (Or.inr (Exists.intro (at_3, l) (And.intro rfl (And.intro (fun h => nomatch h) (fun he => ?_)))))
   subst he; exact (And.intro rfl (Exists.intro v₈ (And.intro (q₆_6) (And.intro (q₆_11) (hO₁₅.pick [1, 2] rfl (by decide))))))
 intro e₃ q₅ k₁₃ hJ₃
 obtain ⟨at_4, l1⟩ := o₅
 obtain ⟨rfl, v₉, q₅_6, q₅_11, hO₁₄⟩ := hJ₃
 refine zS (Ze (W_sq (W_rg (Zb (a_mv (v := v₉) q₅_11) (Zb (a_mv (v := v₄) q₅_6) (Zb (a_mv (v := v₉) rfl) (Zb (a_mv (v := v₄) rfl) ?_)))))))
 refine Zh (Ze (W_rt (Ret_r (rs_t (n := 4) (v := v₉) rfl (rs_t (n := 5) (v := v₄) rfl rs_nil)) ?_)))
 have hp := Option.some.inj hp; subst hp
 exact (Exists.intro v₉ (Exists.intro v₄ (And.intro rfl (hO₁₄.pick [1, 0] rfl (by decide)))))

theorem Zad.ok {h : Hp} {d : Int}   {r : Bool} (hp : Zad d = some r) :
  ∃ u k', Is G 90 [.i .i64 d] h u k' ∧ V.b r = u ∧ Own (fun r => r < h.n) h k' [] := by
 refine WC.is (WC_of G_F_compass_Good ?_)
 unfold Zad at hp
 let B : Nat → Prop := (fun r => r < h.n)
 have hO : Own B h h [] := Own.start0 h
 refine W_sq (W_rg (Zb (a_mv (v := .b false) rfl) (Zh (Ze (W_sq (W_rg (Zb (a_mv (v := .i .i64 d) rfl) ?_)))))))
 refine Zb (a_geq (a := d) (b := 0) rfl rfl) (Zb (a_mv (v := .b (decide (0 ≤ d))) rfl) ?_)
 refine zX 3 (fun fr' k' => h = k' ∧ fr' 8 = .b ((decide (0 ≤ d)) && (decide (d ≤ 3)))) ?_ ?_
 ·rcases bc (decide (0 ≤ d)) with b₁ | b₁
  ·skip
   refine WO_on rfl b₁ (Zb (a_mv (v := .i .i64 d) rfl) (WO_on rfl b₁ (Zb (a_leq (a := d) (b := 3) rfl rfl) (Zb (zk (t := (decide (0 ≤ d))) (v := .b ((decide (0 ≤ d)) && (decide (d ≤ 3)))) rfl b₁ (Eq.trans (b := V.b (decide (d ≤ 3))) rfl (ZaD b₁))) (Zh ?_)))))
   exact ⟨rfl, rfl⟩
  ·skip
   refine WO_off rfl b₁ (WO_off rfl b₁ (Zb (zi (t := (decide (0 ≤ d))) (v := .b ((decide (0 ≤ d)) && (decide (d ≤ 3)))) rfl b₁ (Eq.trans (b := V.b false) rfl (Za2 b₁))) (Zh ?_)))
   exact ⟨rfl, rfl⟩
 rintro frg₁ _ ⟨rfl, g₁_8⟩
 refine Zb (a_mv (v := .b ((decide (0 ≤ d)) && (decide (d ≤ 3)))) g₁_8) (Zh (Ze (W_rt (Ret_r (rs_t (n := 2) (v := .b ((decide (0 ≤ d)) && (decide (d ≤ 3)))) rfl rs_nil) ?_))))
 have hp := Option.some.inj hp; subst hp
 exact (And.intro rfl (hO.pick [] rfl (by decide)))

theorem Zal.ok {h : Hp} {d : Int} {times : Int}   {r : Int} (hp : Zal d times = some r) :
  ∃ u k', Is G 77 [.i .i64 d, .i .i64 times] h u k' ∧ V.i .i64 r = u ∧ Own (fun r => r < h.n) h k' [] := by
 refine WC.is (WC_of G_F_compass_Left ?_)
 unfold Zal at hp
 let B : Nat → Prop := (fun r => r < h.n)
 have hO : Own B h h [] := Own.start0 h
 refine W_sq (W_rg (Zb (a_mv (v := .i .i64 0) rfl) (Zh (Ze (W_sq (W_sq (W_rg ?_)))))))
 refine Zb (a_mv (v := .i .i64 d) rfl) ?_
 obtain ⟨x, hx₁, hp⟩ := Zt hp
 obtain ⟨u₁, k₁, ca₁, rfl, hW₁⟩ := Zad.ok (h := h)   hx₁
 refine Zaj (id := 90) (caps := []) rfl (Z7 (v := .i .i64 d) rfl zl) ca₁ ?_
 have hO₁ : Own B h k₁ [] := hO.call hW₁ rfl
 refine Zb (a_not (t := x) rfl) (Zh (Ze ?_))
 rcases Zv hp with ⟨b₁, hp⟩ | ⟨b₁, hp⟩
 ·refine W_cT (t := (!x)) rfl b₁ ?_
  refine W_sq (W_rg (Zb (a_mv (v := .i .i64 0) rfl) (Zh (Ze (W_rt (zy (Ret_r (rs_t (n := 4) (v := .i .i64 0) rfl rs_nil) ?_)))))))
  have hp := Option.some.inj hp; subst hp
  exact (And.intro rfl (hO₁.pick [] rfl (by decide)))
 ·refine W_cF (t := (!x)) rfl b₁ ?_
  refine W_sk (Ze (W_sq (W_rg (Zb (a_mv (v := .i .i64 d) rfl) (Zb (a_mv (v := .i .i64 times) rfl) (Zb (a_rem (a := times) (b := 4) rfl rfl (by decide)) ?_))))))
  obtain ⟨c₁, hp⟩ := Zo hp
  refine Zb (a_add (a := d) (b := (times.tmod 4)) rfl rfl c₁) ?_
  obtain ⟨c₂, hp⟩ := Zo hp
  refine Zb (a_add (a := (d + (times.tmod 4))) (b := 4) rfl rfl c₂) (Zb (a_rem (a := ((d + (times.tmod 4)) + 4)) (b := 4) rfl rfl (by decide)) (Zb (a_mv (v := .i .i64 (((d + (times.tmod 4)) + 4).tmod 4)) rfl) (Zh (Ze (W_rt (Ret_r (rs_t (n := 4) (v := .i .i64 (((d + (times.tmod 4)) + 4).tmod 4)) rfl rs_nil) ?_))))))
  have hp := Option.some.inj hp; subst hp
  exact (And.intro rfl (hO₁.pick [] rfl (by decide)))

theorem ZaB.ok {h : Hp} {cells : List Zk} {v : Int} {d : Int} {v_cells : V} (s_cells : Sl Zf h v_cells cells) {r : Int} (hp : ZaB cells v d = some r) :
  ∃ u k', Is G 82 [v_cells, .i .i64 v, .i .i64 d] h u k' ∧ V.i .i64 r = u ∧ Own (fun r => r < h.n) h k' [] := by
 refine WC.is (WC_of G_F_grid_side ?_)
 unfold ZaB at hp
 let B : Nat → Prop := (fun r => r < h.n)
 have hO : Own B h h [] := Own.start0 h
 refine W_sq (W_rg (Zb (a_mv (v := .i .i64 0) rfl) (Zh (Ze (W_sq (W_qd ?_))))))
 have hW := hO.bump 16
 have hO₁ : Own B h (h.bump 16) [] := hW
 refine Z8 rfl (a_mv (v := v_cells) rfl) (Z8 rfl (a_mv (v := .i .i64 v) rfl) (Z8 rfl (a_mv (v := .i .i64 d) rfl) ?_))
 obtain ⟨c₁, hp⟩ := Zo hp
 refine Z8 rfl (a_ixa (E := Zf) (z := v) (hO₁.rd0 s_cells.rd : Sl Zf (h.bump 16) v_cells cells) rfl rfl c₁) (Z8 rfl (Zan (off' := 0) (off2 := 0) (hO₁.rd0 s_cells.rd : Sl Zf (h.bump 16) v_cells cells) (Zq c₁) rfl rfl) ?_)
 obtain ⟨c₂, hp⟩ := Zo hp
 refine Z8 rfl (Za4 (off := 0) (off2 := (0 + (d : Int).toNat * 1)) (z := d) (hO₁.rd0 s_cells.rd : Sl Zf (h.bump 16) v_cells cells) (Zq c₁) rfl rfl c₂ rfl) (Z8 rfl (zH (w := .i .i64 (((gi cells (v : Int).toNat).Next).get d)) (hO₁.rd0 s_cells.rd : Sl Zf (h.bump 16) v_cells cells) rfl (Zq c₁) (zP c₂)) (Z8 rfl (a_mv (v := v_cells) rfl) (Z8 rfl (a_mv (v := .i .i64 v) rfl) (Z8 rfl (a_mv (v := .i .i64 d) rfl) (Z8 rfl (a_ixa (E := Zf) (z := v) (hO₁.rd0 s_cells.rd : Sl Zf (h.bump 16) v_cells cells) rfl rfl c₁) (Z8 rfl (Zan (off' := 0) (off2 := 4) (hO₁.rd0 s_cells.rd : Sl Zf (h.bump 16) v_cells cells) (Zq c₁) rfl rfl) (Z8 rfl (Za4 (off := 4) (off2 := (4 + (d : Int).toNat * 1)) (z := d) (hO₁.rd0 s_cells.rd : Sl Zf (h.bump 16) v_cells cells) (Zq c₁) rfl rfl c₂ rfl) ?_)))))))
 refine Z8 rfl (zH (w := .i .i64 (((gi cells (v : Int).toNat).Owner).get d)) (hO₁.rd0 s_cells.rd : Sl Zf (h.bump 16) v_cells cells) rfl (Zq c₁) (Za6 c₂)) (Z8 rfl (a_mv (v := .i .i64 (((gi cells (v : Int).toNat).Next).get d)) rfl) (Z8 rfl (a_mv (v := .i .i64 (((gi cells (v : Int).toNat).Owner).get d)) rfl) (zQ (Ze (W_sq (W_sq (W_rg ?_)))))))
 refine Zb (a_mv (v := .i .i64 (((gi cells (v : Int).toNat).Next).get d)) rfl) (Zb (a_eqI (a := (((gi cells (v : Int).toNat).Next).get d)) (b := (-1)) rfl rfl) (Zh (Ze ?_)))
 rcases Zv hp with ⟨b₁, hp⟩ | ⟨b₁, hp⟩
 ·refine W_cT (t := (decide (((gi cells (v : Int).toNat).Next).get d = (-1)))) rfl b₁ ?_
  refine W_sq (W_sq (W_rg (Zb (a_mv (v := .i .i64 (((gi cells (v : Int).toNat).Owner).get d)) rfl) (Zb (a_neI (a := (((gi cells (v : Int).toNat).Owner).get d)) (b := 0) rfl rfl) (Zh (Ze ?_))))))
  rcases Zv hp with ⟨b₂, hp⟩ | ⟨b₂, hp⟩
  ·refine W_cT (t := (!(decide (((gi cells (v : Int).toNat).Owner).get d = 0)))) rfl b₂ ?_
   refine W_sq (W_rg (Zb (a_mv (v := .i .i64 9) rfl) (Zh (Ze (W_rt (zy (zy ?_)))))))
   refine Ret_r (rs_t (n := 6) (v := .i .i64 9) rfl rs_nil) ?_
   have hp := Option.some.inj hp; subst hp
   exact (And.intro rfl (hO₁.pick [] rfl (by decide)))
  ·refine W_cF (t := (!(decide (((gi cells (v : Int).toNat).Owner).get d = 0)))) rfl b₂ ?_
   refine W_sk (Ze (W_sq (W_rg (Zb (a_mv (v := .i .i64 0) rfl) (Zh (Ze (W_rt ?_)))))))
   refine zy (Ret_r (rs_t (n := 6) (v := .i .i64 0) rfl rs_nil) ?_)
   have hp := Option.some.inj hp; subst hp
   exact (And.intro rfl (hO₁.pick [] rfl (by decide)))
 ·refine W_cF (t := (decide (((gi cells (v : Int).toNat).Next).get d = (-1)))) rfl b₁ ?_
  refine W_sk (Ze (W_sq (W_sq (W_rg (Zb (a_mv (v := .i .i64 (((gi cells (v : Int).toNat).Next).get d)) rfl) (Zb (a_lss (a := (((gi cells (v : Int).toNat).Next).get d)) (b := 0) rfl rfl) (Zb (a_mv (v := .b (decide ((((gi cells (v : Int).toNat).Next).get d) < 0))) rfl) ?_)))))))
  refine zX 5 (fun fr' k' => (h.bump 16) = k' ∧ fr' 35 = .b ((decide ((((gi cells (v : Int).toNat).Next).get d) < 0)) || (decide ((cells.length : Int) ≤ (((gi cells (v : Int).toNat).Next).get d)))) ∧ fr' 0 = v_cells ∧ fr' 1 = .i .i64 v ∧ fr' 2 = .i .i64 d ∧ fr' 7 = .i .i64 (((gi cells (v : Int).toNat).Next).get d) ∧ fr' 8 = .i .i64 (((gi cells (v : Int).toNat).Owner).get d)) ?_ ?_
  ·rcases bc (decide ((((gi cells (v : Int).toNat).Next).get d) < 0)) with b₃ | b₃
   ·skip
    refine WO_off rfl b₃ (WO_off rfl b₃ (WO_off rfl b₃ (WO_off rfl b₃ (Zb (zk (t := (decide ((((gi cells (v : Int).toNat).Next).get d) < 0))) (v := .b ((decide ((((gi cells (v : Int).toNat).Next).get d) < 0)) || (decide ((cells.length : Int) ≤ (((gi cells (v : Int).toNat).Next).get d))))) rfl b₃ (Eq.trans (b := V.b true) rfl (ZaA b₃))) (Zh ?_)))))
    exact ⟨rfl, rfl, rfl, rfl, rfl, rfl, rfl⟩
   ·skip
    refine WO_on rfl b₃ (Zb (a_mv (v := .i .i64 (((gi cells (v : Int).toNat).Next).get d)) rfl) (WO_on rfl b₃ (Zb (a_mv (v := v_cells) rfl) (WO_on rfl b₃ (Zb (a_len (hO₁.rd0 s_cells.rd : Sl Zf (h.bump 16) v_cells cells) rfl) (WO_on rfl b₃ (Zb (a_geq (a := (((gi cells (v : Int).toNat).Next).get d)) (b := (cells.length : Int)) rfl rfl) ?_)))))))
    refine Zb (zi (t := (decide ((((gi cells (v : Int).toNat).Next).get d) < 0))) (v := .b ((decide ((((gi cells (v : Int).toNat).Next).get d) < 0)) || (decide ((cells.length : Int) ≤ (((gi cells (v : Int).toNat).Next).get d))))) rfl b₃ (Eq.trans (b := V.b (decide ((cells.length : Int) ≤ (((gi cells (v : Int).toNat).Next).get d)))) rfl (ZaH b₃))) (Zh ?_)
    exact ⟨rfl, rfl, rfl, rfl, rfl, rfl, rfl⟩
  rintro frg₁ _ ⟨rfl, g₁_35, g₁_0, g₁_1, g₁_2, g₁_7, g₁_8⟩
  refine Zb (a_mv (v := .b ((decide ((((gi cells (v : Int).toNat).Next).get d) < 0)) || (decide ((cells.length : Int) ≤ (((gi cells (v : Int).toNat).Next).get d))))) g₁_35) ?_
  refine zX 4 (fun fr' k' => (h.bump 16) = k' ∧ fr' 40 = .b (((decide ((((gi cells (v : Int).toNat).Next).get d) < 0)) || (decide ((cells.length : Int) ≤ (((gi cells (v : Int).toNat).Next).get d)))) || (decide (((gi cells (v : Int).toNat).Next).get d = v))) ∧ fr' 0 = v_cells ∧ fr' 1 = .i .i64 v ∧ fr' 2 = .i .i64 d ∧ fr' 7 = .i .i64 (((gi cells (v : Int).toNat).Next).get d) ∧ fr' 8 = .i .i64 (((gi cells (v : Int).toNat).Owner).get d)) ?_ ?_
  ·rcases bc ((decide ((((gi cells (v : Int).toNat).Next).get d) < 0)) || (decide ((cells.length : Int) ≤ (((gi cells (v : Int).toNat).Next).get d)))) with b₄ | b₄
   ·skip
    refine WO_off rfl b₄ (WO_off rfl b₄ (WO_off rfl b₄ (Zb (zk (t := ((decide ((((gi cells (v : Int).toNat).Next).get d) < 0)) || (decide ((cells.length : Int) ≤ (((gi cells (v : Int).toNat).Next).get d))))) (v := .b (((decide ((((gi cells (v : Int).toNat).Next).get d) < 0)) || (decide ((cells.length : Int) ≤ (((gi cells (v : Int).toNat).Next).get d)))) || (decide (((gi cells (v : Int).toNat).Next).get d = v)))) rfl b₄ (Eq.trans (b := V.b true) rfl (ZaA b₄))) (Zh ?_))))
    exact ⟨rfl, rfl, g₁_0, g₁_1, g₁_2, g₁_7, g₁_8⟩
   ·skip
    refine WO_on rfl b₄ (Zb (a_mv (v := .i .i64 (((gi cells (v : Int).toNat).Next).get d)) g₁_7) (WO_on rfl b₄ (Zb (a_mv (v := .i .i64 v) g₁_1) (WO_on rfl b₄ (Zb (a_eqI (a := (((gi cells (v : Int).toNat).Next).get d)) (b := v) rfl rfl) (Zb (zi (t := ((decide ((((gi cells (v : Int).toNat).Next).get d) < 0)) || (decide ((cells.length : Int) ≤ (((gi cells (v : Int).toNat).Next).get d))))) (v := .b (((decide ((((gi cells (v : Int).toNat).Next).get d) < 0)) || (decide ((cells.length : Int) ≤ (((gi cells (v : Int).toNat).Next).get d)))) || (decide (((gi cells (v : Int).toNat).Next).get d = v)))) rfl b₄ (Eq.trans (b := V.b (decide (((gi cells (v : Int).toNat).Next).get d = v))) rfl (ZaH b₄))) (Zh ?_)))))))
    exact ⟨rfl, rfl, g₁_0, g₁_1, g₁_2, g₁_7, g₁_8⟩
  rintro frg₂ _ ⟨rfl, g₂_40, g₂_0, g₂_1, g₂_2, g₂_7, g₂_8⟩
  refine Zh (Ze ?_)
  rcases Zv hp with ⟨b₅, hp⟩ | ⟨b₅, hp⟩
  ·refine W_cT (t := (((decide ((((gi cells (v : Int).toNat).Next).get d) < 0)) || (decide ((cells.length : Int) ≤ (((gi cells (v : Int).toNat).Next).get d)))) || (decide (((gi cells (v : Int).toNat).Next).get d = v)))) g₂_40 b₅ ?_
   refine W_sq (W_rg (Zb (a_mv (v := .i .i64 3) rfl) (Zh (Ze (W_rt (zy (Ret_r (rs_t (n := 6) (v := .i .i64 3) rfl rs_nil) ?_)))))))
   have hp := Option.some.inj hp; subst hp
   exact (And.intro rfl (hO₁.pick [] rfl (by decide)))
  ·refine W_cF (t := (((decide ((((gi cells (v : Int).toNat).Next).get d) < 0)) || (decide ((cells.length : Int) ≤ (((gi cells (v : Int).toNat).Next).get d)))) || (decide (((gi cells (v : Int).toNat).Next).get d = v)))) g₂_40 b₅ ?_
   refine W_sk (Ze (W_sq (W_rg (Zb (a_mv (v := .i .i64 d) g₂_2) ?_))))
   obtain ⟨x, hx₁, hp⟩ := Zt hp
   obtain ⟨u₁, k₂, ca₁, rfl, hW₁⟩ := Zal.ok (h := (h.bump 16))   hx₁
   refine Zaj (id := 77) (caps := []) rfl (Z7 (v := .i .i64 d) rfl (Z7 (v := .i .i64 2) rfl zl)) ca₁ ?_
   have hO₂ : Own B h k₂ [] := hO₁.call hW₁ rfl
   refine Zb (a_mv (v := .i .i64 x) rfl) (Zh (Ze (W_sq (W_sq (W_rg (Zb (a_mv (v := v_cells) g₂_0) (Zb (a_mv (v := .i .i64 (((gi cells (v : Int).toNat).Next).get d)) g₂_7) ?_)))))))
   refine Zb (a_mv (v := .i .i64 x) rfl) ?_
   obtain ⟨c₃, hp⟩ := Zo hp
   refine Zb (a_ixa (E := Zf) (z := (((gi cells (v : Int).toNat).Next).get d)) (hO₂.rd0 s_cells.rd : Sl Zf k₂ v_cells cells) rfl rfl c₃) (Zb (Zan (off' := 0) (off2 := 0) (hO₂.rd0 s_cells.rd : Sl Zf k₂ v_cells cells) (Zq c₃) rfl rfl) ?_)
   obtain ⟨c₄, hp⟩ := Zo hp
   refine Zb (Za4 (off := 0) (off2 := (0 + (x : Int).toNat * 1)) (z := x) (hO₂.rd0 s_cells.rd : Sl Zf k₂ v_cells cells) (Zq c₃) rfl rfl c₄ rfl) (Zb (zH (w := .i .i64 (((gi cells (((gi cells (v : Int).toNat).Next).get d : Int).toNat).Next).get x)) (hO₂.rd0 s_cells.rd : Sl Zf k₂ v_cells cells) rfl (Zq c₃) (zP c₄)) (Zb (a_mv (v := .i .i64 v) g₂_1) (Zb (a_neI (a := (((gi cells (((gi cells (v : Int).toNat).Next).get d : Int).toNat).Next).get x)) (b := v) rfl rfl) (Zb (a_mv (v := .b (!(decide (((gi cells (((gi cells (v : Int).toNat).Next).get d : Int).toNat).Next).get x = v)))) rfl) ?_))))
   refine zX 10 (fun fr' k' => k₂ = k' ∧ fr' 62 = .b ((!(decide (((gi cells (((gi cells (v : Int).toNat).Next).get d : Int).toNat).Next).get x = v))) || (!(decide (((gi cells (((gi cells (v : Int).toNat).Next).get d : Int).toNat).Owner).get x = ((gi cells (v : Int).toNat).Owner).get d)))) ∧ fr' 8 = .i .i64 (((gi cells (v : Int).toNat).Owner).get d)) ?_ ?_
   ·rcases bc (!(decide (((gi cells (((gi cells (v : Int).toNat).Next).get d : Int).toNat).Next).get x = v))) with b₆ | b₆
    ·skip
     refine WO_off rfl b₆ (WO_off rfl b₆ (WO_off rfl b₆ (WO_off rfl b₆ (WO_off rfl b₆ (WO_off rfl b₆ (WO_off rfl b₆ (WO_off rfl b₆ ?_)))))))
     refine WO_off rfl b₆ (Zb (zk (t := (!(decide (((gi cells (((gi cells (v : Int).toNat).Next).get d : Int).toNat).Next).get x = v)))) (v := .b ((!(decide (((gi cells (((gi cells (v : Int).toNat).Next).get d : Int).toNat).Next).get x = v))) || (!(decide (((gi cells (((gi cells (v : Int).toNat).Next).get d : Int).toNat).Owner).get x = ((gi cells (v : Int).toNat).Owner).get d))))) rfl b₆ (Eq.trans (b := V.b true) rfl (ZaA b₆))) (Zh ?_))
     exact ⟨rfl, rfl, g₂_8⟩
    ·skip
     refine WO_on rfl b₆ (Zb (a_mv (v := v_cells) g₂_0) (WO_on rfl b₆ (Zb (a_mv (v := .i .i64 (((gi cells (v : Int).toNat).Next).get d)) g₂_7) (WO_on rfl b₆ (Zb (a_mv (v := .i .i64 x) rfl) (WO_on rfl b₆ (Zb (a_ixa (E := Zf) (z := (((gi cells (v : Int).toNat).Next).get d)) (hO₂.rd0 s_cells.rd : Sl Zf k₂ v_cells cells) rfl rfl c₃) ?_)))))))
     refine WO_on rfl b₆ (Zb (Zan (off' := 0) (off2 := 4) (hO₂.rd0 s_cells.rd : Sl Zf k₂ v_cells cells) (Zq c₃) rfl rfl) (WO_on rfl b₆ (Zb (Za4 (off := 4) (off2 := (4 + (x : Int).toNat * 1)) (z := x) (hO₂.rd0 s_cells.rd : Sl Zf k₂ v_cells cells) (Zq c₃) rfl rfl c₄ rfl) (WO_on rfl b₆ (Zb (zH (w := .i .i64 (((gi cells (((gi cells (v : Int).toNat).Next).get d : Int).toNat).Owner).get x)) (hO₂.rd0 s_cells.rd : Sl Zf k₂ v_cells cells) rfl (Zq c₃) (Za6 c₄)) (WO_on rfl b₆ (Zb (a_mv (v := .i .i64 (((gi cells (v : Int).toNat).Owner).get d)) g₂_8) ?_)))))))
     refine WO_on rfl b₆ (Zb (a_neI (a := (((gi cells (((gi cells (v : Int).toNat).Next).get d : Int).toNat).Owner).get x)) (b := (((gi cells (v : Int).toNat).Owner).get d)) rfl rfl) (Zb (zi (t := (!(decide (((gi cells (((gi cells (v : Int).toNat).Next).get d : Int).toNat).Next).get x = v)))) (v := .b ((!(decide (((gi cells (((gi cells (v : Int).toNat).Next).get d : Int).toNat).Next).get x = v))) || (!(decide (((gi cells (((gi cells (v : Int).toNat).Next).get d : Int).toNat).Owner).get x = ((gi cells (v : Int).toNat).Owner).get d))))) rfl b₆ (Eq.trans (b := V.b (!(decide (((gi cells (((gi cells (v : Int).toNat).Next).get d : Int).toNat).Owner).get x = ((gi cells (v : Int).toNat).Owner).get d)))) rfl (ZaH b₆))) (Zh ?_)))
     exact ⟨rfl, rfl, g₂_8⟩
   rintro frg₃ _ ⟨rfl, g₃_62, g₃_8⟩
   refine Zb (a_mv (v := .b ((!(decide (((gi cells (((gi cells (v : Int).toNat).Next).get d : Int).toNat).Next).get x = v))) || (!(decide (((gi cells (((gi cells (v : Int).toNat).Next).get d : Int).toNat).Owner).get x = ((gi cells (v : Int).toNat).Owner).get d))))) g₃_62) ?_
   refine zX 3 (fun fr' k' => k₂ = k' ∧ fr' 66 = .b (((!(decide (((gi cells (((gi cells (v : Int).toNat).Next).get d : Int).toNat).Next).get x = v))) || (!(decide (((gi cells (((gi cells (v : Int).toNat).Next).get d : Int).toNat).Owner).get x = ((gi cells (v : Int).toNat).Owner).get d)))) || (decide ((((gi cells (v : Int).toNat).Owner).get d) < (-2))))) ?_ ?_
   ·rcases bc ((!(decide (((gi cells (((gi cells (v : Int).toNat).Next).get d : Int).toNat).Next).get x = v))) || (!(decide (((gi cells (((gi cells (v : Int).toNat).Next).get d : Int).toNat).Owner).get x = ((gi cells (v : Int).toNat).Owner).get d)))) with b₇ | b₇
    ·skip
     refine WO_off rfl b₇ (WO_off rfl b₇ (Zb (zk (t := ((!(decide (((gi cells (((gi cells (v : Int).toNat).Next).get d : Int).toNat).Next).get x = v))) || (!(decide (((gi cells (((gi cells (v : Int).toNat).Next).get d : Int).toNat).Owner).get x = ((gi cells (v : Int).toNat).Owner).get d))))) (v := .b (((!(decide (((gi cells (((gi cells (v : Int).toNat).Next).get d : Int).toNat).Next).get x = v))) || (!(decide (((gi cells (((gi cells (v : Int).toNat).Next).get d : Int).toNat).Owner).get x = ((gi cells (v : Int).toNat).Owner).get d)))) || (decide ((((gi cells (v : Int).toNat).Owner).get d) < (-2))))) rfl b₇ (Eq.trans (b := V.b true) rfl (ZaA b₇))) (Zh ?_)))
     exact ⟨rfl, rfl⟩
    ·skip
     refine WO_on rfl b₇ (Zb (a_mv (v := .i .i64 (((gi cells (v : Int).toNat).Owner).get d)) g₃_8) (WO_on rfl b₇ (Zb (a_lss (a := (((gi cells (v : Int).toNat).Owner).get d)) (b := (-2)) rfl rfl) (Zb (zi (t := ((!(decide (((gi cells (((gi cells (v : Int).toNat).Next).get d : Int).toNat).Next).get x = v))) || (!(decide (((gi cells (((gi cells (v : Int).toNat).Next).get d : Int).toNat).Owner).get x = ((gi cells (v : Int).toNat).Owner).get d))))) (v := .b (((!(decide (((gi cells (((gi cells (v : Int).toNat).Next).get d : Int).toNat).Next).get x = v))) || (!(decide (((gi cells (((gi cells (v : Int).toNat).Next).get d : Int).toNat).Owner).get x = ((gi cells (v : Int).toNat).Owner).get d)))) || (decide ((((gi cells (v : Int).toNat).Owner).get d) < (-2))))) rfl b₇ (Eq.trans (b := V.b (decide ((((gi cells (v : Int).toNat).Owner).get d) < (-2)))) rfl (ZaH b₇))) (Zh ?_)))))
     exact ⟨rfl, rfl⟩
   rintro frg₄ _ ⟨rfl, g₄_66⟩
   refine Zh (Ze ?_)
   rcases Zv hp with ⟨b₈, hp⟩ | ⟨b₈, hp⟩
   ·refine W_cT (t := (((!(decide (((gi cells (((gi cells (v : Int).toNat).Next).get d : Int).toNat).Next).get x = v))) || (!(decide (((gi cells (((gi cells (v : Int).toNat).Next).get d : Int).toNat).Owner).get x = ((gi cells (v : Int).toNat).Owner).get d)))) || (decide ((((gi cells (v : Int).toNat).Owner).get d) < (-2))))) g₄_66 b₈ ?_
    refine W_sq (W_rg (Zb (a_mv (v := .i .i64 9) rfl) (Zh (Ze (W_rt (zy (Ret_r (rs_t (n := 6) (v := .i .i64 9) rfl rs_nil) ?_)))))))
    have hp := Option.some.inj hp; subst hp
    exact (And.intro rfl (hO₂.pick [] rfl (by decide)))
   ·refine W_cF (t := (((!(decide (((gi cells (((gi cells (v : Int).toNat).Next).get d : Int).toNat).Next).get x = v))) || (!(decide (((gi cells (((gi cells (v : Int).toNat).Next).get d : Int).toNat).Owner).get x = ((gi cells (v : Int).toNat).Owner).get d)))) || (decide ((((gi cells (v : Int).toNat).Owner).get d) < (-2))))) g₄_66 b₈ ?_
    refine W_sk (Ze (W_sq (W_rg (Zb (a_mv (v := .i .i64 0) rfl) (Zh (Ze (W_rt ?_)))))))
    refine Ret_r (rs_t (n := 6) (v := .i .i64 0) rfl rs_nil) ?_
    have hp := Option.some.inj hp; subst hp
    exact (And.intro rfl (hO₂.pick [] rfl (by decide)))

theorem z4.ok {h : Hp} {cells : List Zk} {v_cells : V} (s_cells : Sl Zf h v_cells cells) {r : Int} (hp : z4 cells = some r) :
  ∃ u k', Is G 66 [v_cells] h u k' ∧ V.i .i64 r = u ∧ Own (fun r => r < h.n) h k' [] := by
 refine WC.is (WC_of G_F_grid_Check ?_)
 unfold z4 at hp
 let B : Nat → Prop := (fun r => r < h.n)
 have hO : Own B h h [] := Own.start0 h
 refine W_sq (W_rg (Zb (a_mv (v := .i .i64 0) rfl) (Zh (Ze (W_sq (W_sq (W_rg ?_)))))))
 refine Zb (a_mv (v := v_cells) rfl) (Zb (a_len (hO.rd0 s_cells.rd : Sl Zf h v_cells cells) rfl) (Zb (a_gtr (a := (cells.length : Int)) (b := 4096) rfl rfl) (Zh (Ze ?_))))
 rcases Zv hp with ⟨b₁, hp⟩ | ⟨b₁, hp⟩
 ·refine W_cT (t := (decide (4096 < (cells.length : Int)))) rfl b₁ ?_
  refine W_sq (W_rg (Zb (a_mv (v := .i .i64 6) rfl) (Zh (Ze (W_rt (zy (Ret_r (rs_t (n := 2) (v := .i .i64 6) rfl rs_nil) ?_)))))))
  have hp := Option.some.inj hp; subst hp
  exact (And.intro rfl (hO.pick [] rfl (by decide)))
 ·refine W_cF (t := (decide (4096 < (cells.length : Int)))) rfl b₁ ?_
  refine W_sk (Ze (W_sq (W_sq (W_rg (Zb (a_mv (v := v_cells) rfl) (Zb (a_len (hO.rd0 s_cells.rd : Sl Zf h v_cells cells) rfl) (Zb (a_mv (v := .i .i64 0) rfl) ?_)))))))
  refine Zh (Ze (W_bl ?_))
  obtain ⟨o₁, ho₁, hp⟩ := Zt hp
  refine W.mono (Q := fun e fr k => match (generalizing := false) o₁ with
    | .inl _ => e = (.exit 0) ∧ Own B h k []
    | .inr x1 => e = .ret ∧ fr 2 = .i .i64 x1 ∧ Own B h k []) ?_ ?_
  ·clear hp
   refine z3 (fun st fr k => match st with | x => fr 0 = v_cells ∧ fr 10 = .i .i64 (cells.length : Int) ∧ fr 11 = .i .i64 x ∧ Own B h k []) ho₁ (s := 0) (And.intro (rfl) (And.intro (rfl) (And.intro (rfl) (hO.pick [] rfl (by decide))))) ?_
   rintro x q₂ k₂ ⟨q₂_0, q₂_10, q₂_11, hO₂⟩ o₂ hp
   dsimp only [z4.s0] at hp
   refine W_sq (W_rg (Zb (a_lss (a := x) (b := (cells.length : Int)) q₂_11 q₂_10) (Zh (Ze (W_sq ?_)))))
   rcases Zv hp with ⟨b₂, hp⟩ | ⟨b₂, hp⟩
   ·refine W_cT (t := (decide (x < (cells.length : Int)))) rfl b₂ ?_
    refine W_sk (Ze (W_sq (W_bl (W_sq (W_rg (Zb (a_mv (v := .i .i64 x) q₂_11) (Zb (a_mv (v := .i .i64 x) rfl) ?_)))))))
    refine Zh (Ze (W_sq (W_rg (Zb (a_mv (v := .i .i64 0) rfl) (Zh (Ze (W_bl ?_)))))))
    obtain ⟨o₃, ho₂, hp⟩ := Zt hp
    refine W.mono (Q := fun e fr k => match (generalizing := false) o₃ with
      | .inl _ => e = (.exit 2) ∧ fr 0 = v_cells ∧ fr 10 = .i .i64 (cells.length : Int) ∧ fr 11 = .i .i64 x ∧ Own B h k []
      | .inr x3 => e = .ret ∧ fr 2 = .i .i64 x3 ∧ Own B h k []) ?_ ?_
    ·clear hp
     refine z3 (fun st fr k => match st with | x2 => fr 0 = v_cells ∧ fr 3 = .i .i64 x ∧ fr 10 = .i .i64 (cells.length : Int) ∧ fr 11 = .i .i64 x ∧ fr 14 = .i .i64 x2 ∧ Own B h k []) ho₂ (s := 0) (And.intro (q₂_0) (And.intro (rfl) (And.intro (q₂_10) (And.intro (q₂_11) (And.intro (rfl) (hO₂.pick [] rfl (by decide))))))) ?_
     rintro x2 q₄ k₄ ⟨q₄_0, q₄_3, q₄_10, q₄_11, q₄_14, hO₄⟩ o₄ hp
     dsimp only [z4.s1] at hp
     refine W_sq (W_rg (Zb (a_lss (a := x2) (b := 4) q₄_14 rfl) (Zh (Ze (W_sq ?_)))))
     rcases Zv hp with ⟨b₃, hp⟩ | ⟨b₃, hp⟩
     ·refine W_cT (t := (decide (x2 < 4))) rfl b₃ ?_
      refine W_sk (Ze (W_sq (W_bl (W_sq (W_rg (Zb (a_mv (v := .i .i64 x2) q₄_14) (Zb (a_mv (v := .i .i64 x2) rfl) ?_)))))))
      refine Zh (Ze (W_sq (W_rg (Zb (a_mv (v := v_cells) q₄_0) (Zb (a_mv (v := .i .i64 x) q₄_3) (Zb (a_mv (v := .i .i64 x2) rfl) ?_))))))
      obtain ⟨x4, hx₁, hp⟩ := Zt hp
      obtain ⟨u₁, k₅, ca₁, rfl, hW₁⟩ := ZaB.ok (h := k₄)  (hO₄.rd0 s_cells.rd : Sl Zf k₄ v_cells cells) hx₁
      refine Zaj (id := 82) (caps := []) rfl (Z7 (v := v_cells) rfl (Z7 (v := .i .i64 x) rfl (Z7 (v := .i .i64 x2) rfl zl))) ca₁ ?_
      have hO₅ : Own B h k₅ [] := hO₄.call hW₁ rfl
      refine Zb (a_mv (v := .i .i64 x4) rfl) (Zh (Ze (W_sq (W_rg (Zb (a_mv (v := .i .i64 x4) rfl) (Zb (a_neI (a := x4) (b := 0) rfl rfl) (Zh ?_)))))))
      refine Ze ?_
      rcases Zv hp with ⟨b₄, hp⟩ | ⟨b₄, hp⟩
      ·refine W_cT (t := (!(decide (x4 = 0)))) rfl b₄ ?_
       refine W_sq (W_rg (Zb (a_mv (v := .i .i64 x4) rfl) (Zb (a_mv (v := .i .i64 x4) rfl) (Zh (Ze (W_rt (Zak ?_)))))))
       refine zy ?_
       have hp := Option.some.inj hp; subst hp
       refine (Or.inr (Exists.intro (.inr x4) (And.intro rfl (And.intro (fun h => nomatch h) (fun he => ?_)))))
       subst he; exact (And.intro rfl (And.intro (rfl) (hO₅.pick [] rfl (by decide))))
      ·refine W_cF (t := (!(decide (x4 = 0)))) rfl b₄ ?_
       refine W_sk (zL (Ze (W_rg ?_)))
       obtain ⟨c₁, hp⟩ := Zo hp
       refine Zb (a_add (a := x2) (b := 1) q₄_14 rfl c₁) (Zb (a_mv (v := .i .i64 (x2 + 1)) rfl) (Zh ?_))
       have hp := Option.some.inj hp; subst hp
       exact (Or.inl (Exists.intro (x2 + 1) (And.intro rfl (And.intro rfl (And.intro (q₄_0) (And.intro (q₄_3) (And.intro (q₄_10) (And.intro (q₄_11) (And.intro (rfl) (hO₅.pick [] rfl (by decide)))))))))))
     ·refine W_cF (t := (decide (x2 < 4))) rfl b₃ ?_
      refine W_ex (zC ?_)
      have hp := Option.some.inj hp; subst hp
      refine (Or.inr (Exists.intro (.inl ()) (And.intro rfl (And.intro (fun h => nomatch h) (fun he => ?_)))))
      subst he; exact (And.intro rfl (And.intro (q₄_0) (And.intro (q₄_10) (And.intro (q₄_11) (hO₄.pick [] rfl (by decide))))))
    intro e₂ q₃ k₃ hJ₂
    rcases o₃ with _ | x3
    ·obtain ⟨rfl, q₃_0, q₃_10, q₃_11, hO₃⟩ := hJ₂
     refine zS (zL (Ze (W_rg ?_)))
     obtain ⟨c₂, hp⟩ := Zo hp
     refine Zb (a_add (a := x) (b := 1) q₃_11 rfl c₂) (Zb (a_mv (v := .i .i64 (x + 1)) rfl) (Zh ?_))
     have hp := Option.some.inj hp; subst hp
     exact (Or.inl (Exists.intro (x + 1) (And.intro rfl (And.intro rfl (And.intro (q₃_0) (And.intro (q₃_10) (And.intro (rfl) (hO₃.pick [] rfl (by decide)))))))))
    ·obtain ⟨rfl, q₃_2, hO₃⟩ := hJ₂
     refine Zak (Zak (zy ?_))
     have hp := Option.some.inj hp; subst hp
     refine (Or.inr (Exists.intro (.inr x3) (And.intro rfl (And.intro (fun h => nomatch h) (fun he => ?_)))))
     subst he; exact (And.intro rfl (And.intro (q₃_2) (hO₃.pick [] rfl (by decide))))
   ·refine W_cF (t := (decide (x < (cells.length : Int)))) rfl b₂ ?_
    refine W_ex (zC ?_)
    have hp := Option.some.inj hp; subst hp
    refine (Or.inr (Exists.intro (.inl ()) (And.intro rfl (And.intro (fun h => nomatch h) (fun he => ?_)))))
    subst he; exact (And.intro rfl (hO₂.pick [] rfl (by decide)))
  intro e₁ q₁ k₁ hJ₁
  rcases o₁ with _ | x1
  ·obtain ⟨rfl, hO₁⟩ := hJ₁
   refine zS (Ze (W_sq (W_rg (Zb (a_mv (v := .i .i64 0) rfl) (Zh (Ze (W_rt ?_)))))))
   refine Ret_r (rs_t (n := 2) (v := .i .i64 0) rfl rs_nil) ?_
   have hp := Option.some.inj hp; subst hp
   exact (And.intro rfl (hO₁.pick [] rfl (by decide)))
  ·obtain ⟨rfl, q₁_2, hO₁⟩ := hJ₁
   refine Zak (zy (Ret_r (rs_t (n := 2) (v := .i .i64 x1) q₁_2 rs_nil) ?_))
   have hp := Option.some.inj hp; subst hp
   exact (And.intro rfl (hO₁.pick [] rfl (by decide)))

theorem ZaG.ok {h : Hp} {x : Int} {y : Int}   {r : Int × Int} (hp : ZaG x y = some r) :
  ∃ u k', Is G 98 [.i .u64 x, .i .u64 y] h u k' ∧ V.tu [.i .u64 r.1, .i .u64 r.2] = u ∧ Own (fun r => r < h.n) h k' [] := by
 refine WC.is (WC_of G_F_bits_Mul64 ?_)
 unfold ZaG at hp
 let B : Nat → Prop := (fun r => r < h.n)
 have hO : Own B h h [] := Own.start0 h
 refine W_sq (W_rg (Zb (a_mv (v := .i .u64 0) rfl) (Zb (a_mv (v := .i .u64 0) rfl) (Zh (Ze (W_sq (W_rg ?_)))))))
 refine Zb (a_mv (v := .i .u64 x) rfl) (Zb (a_ari (a := x) (b := 4294967295) (v := .i .u64 (ari_and .u64 x 4294967295)) rfl rfl (by decide) rfl) (Zb (a_mv (v := .i .u64 (ari_and .u64 x 4294967295)) rfl) (Zh (Ze (W_sq (W_rg (Zb (a_mv (v := .i .u64 x) rfl) ?_)))))))
 refine Zb (a_shift (a := x) (b := 32) (v := .i .u64 (sh_shr .u64 x 32)) rfl rfl (by decide) (sh_shr_ok (by decide))) (Zb (a_mv (v := .i .u64 (sh_shr .u64 x 32)) rfl) (Zh (Ze (W_sq (W_rg (Zb (a_mv (v := .i .u64 y) rfl) (Zb (a_ari (a := y) (b := 4294967295) (v := .i .u64 (ari_and .u64 y 4294967295)) rfl rfl (by decide) rfl) ?_)))))))
 refine Zb (a_mv (v := .i .u64 (ari_and .u64 y 4294967295)) rfl) (Zh (Ze (W_sq (W_rg (Zb (a_mv (v := .i .u64 y) rfl) (Zb (a_shift (a := y) (b := 32) (v := .i .u64 (sh_shr .u64 y 32)) rfl rfl (by decide) (sh_shr_ok (by decide))) (Zb (a_mv (v := .i .u64 (sh_shr .u64 y 32)) rfl) ?_)))))))
 refine Zh (Ze (W_sq (W_rg (Zb (a_mv (v := .i .u64 (ari_and .u64 x 4294967295)) rfl) (Zb (a_mv (v := .i .u64 (ari_and .u64 y 4294967295)) rfl) (Zb (a_ari (a := (ari_and .u64 x 4294967295)) (b := (ari_and .u64 y 4294967295)) (v := .i .u64 (ari_mul .u64 (ari_and .u64 x 4294967295) (ari_and .u64 y 4294967295))) rfl rfl (by decide) rfl) (Zb (a_mv (v := .i .u64 (ari_mul .u64 (ari_and .u64 x 4294967295) (ari_and .u64 y 4294967295))) rfl) ?_)))))))
 refine Zh (Ze (W_sq (W_rg (Zb (a_mv (v := .i .u64 (sh_shr .u64 x 32)) rfl) (Zb (a_mv (v := .i .u64 (ari_and .u64 y 4294967295)) rfl) (Zb (a_ari (a := (sh_shr .u64 x 32)) (b := (ari_and .u64 y 4294967295)) (v := .i .u64 (ari_mul .u64 (sh_shr .u64 x 32) (ari_and .u64 y 4294967295))) rfl rfl (by decide) rfl) (Zb (a_mv (v := .i .u64 (ari_mul .u64 (ari_and .u64 x 4294967295) (ari_and .u64 y 4294967295))) rfl) ?_)))))))
 refine Zb (a_shift (a := (ari_mul .u64 (ari_and .u64 x 4294967295) (ari_and .u64 y 4294967295))) (b := 32) (v := .i .u64 (sh_shr .u64 (ari_mul .u64 (ari_and .u64 x 4294967295) (ari_and .u64 y 4294967295)) 32)) rfl rfl (by decide) (sh_shr_ok (by decide))) (Zb (a_ari (a := (ari_mul .u64 (sh_shr .u64 x 32) (ari_and .u64 y 4294967295))) (b := (sh_shr .u64 (ari_mul .u64 (ari_and .u64 x 4294967295) (ari_and .u64 y 4294967295)) 32)) (v := .i .u64 (ari_add .u64 (ari_mul .u64 (sh_shr .u64 x 32) (ari_and .u64 y 4294967295)) (sh_shr .u64 (ari_mul .u64 (ari_and .u64 x 4294967295) (ari_and .u64 y 4294967295)) 32))) rfl rfl (by decide) rfl) (Zb (a_mv (v := .i .u64 (ari_add .u64 (ari_mul .u64 (sh_shr .u64 x 32) (ari_and .u64 y 4294967295)) (sh_shr .u64 (ari_mul .u64 (ari_and .u64 x 4294967295) (ari_and .u64 y 4294967295)) 32))) rfl) (Zh (Ze (W_sq (W_rg (Zb (a_mv (v := .i .u64 (ari_add .u64 (ari_mul .u64 (sh_shr .u64 x 32) (ari_and .u64 y 4294967295)) (sh_shr .u64 (ari_mul .u64 (ari_and .u64 x 4294967295) (ari_and .u64 y 4294967295)) 32))) rfl) ?_)))))))
 refine Zb (a_ari (a := (ari_add .u64 (ari_mul .u64 (sh_shr .u64 x 32) (ari_and .u64 y 4294967295)) (sh_shr .u64 (ari_mul .u64 (ari_and .u64 x 4294967295) (ari_and .u64 y 4294967295)) 32))) (b := 4294967295) (v := .i .u64 (ari_and .u64 (ari_add .u64 (ari_mul .u64 (sh_shr .u64 x 32) (ari_and .u64 y 4294967295)) (sh_shr .u64 (ari_mul .u64 (ari_and .u64 x 4294967295) (ari_and .u64 y 4294967295)) 32)) 4294967295)) rfl rfl (by decide) rfl) (Zb (a_mv (v := .i .u64 (ari_and .u64 (ari_add .u64 (ari_mul .u64 (sh_shr .u64 x 32) (ari_and .u64 y 4294967295)) (sh_shr .u64 (ari_mul .u64 (ari_and .u64 x 4294967295) (ari_and .u64 y 4294967295)) 32)) 4294967295)) rfl) (Zh (Ze (W_sq (W_rg (Zb (a_mv (v := .i .u64 (ari_add .u64 (ari_mul .u64 (sh_shr .u64 x 32) (ari_and .u64 y 4294967295)) (sh_shr .u64 (ari_mul .u64 (ari_and .u64 x 4294967295) (ari_and .u64 y 4294967295)) 32))) rfl) (Zb (a_shift (a := (ari_add .u64 (ari_mul .u64 (sh_shr .u64 x 32) (ari_and .u64 y 4294967295)) (sh_shr .u64 (ari_mul .u64 (ari_and .u64 x 4294967295) (ari_and .u64 y 4294967295)) 32))) (b := 32) (v := .i .u64 (sh_shr .u64 (ari_add .u64 (ari_mul .u64 (sh_shr .u64 x 32) (ari_and .u64 y 4294967295)) (sh_shr .u64 (ari_mul .u64 (ari_and .u64 x 4294967295) (ari_and .u64 y 4294967295)) 32)) 32)) rfl rfl (by decide) (sh_shr_ok (by decide))) ?_)))))))
 refine Zb (a_mv (v := .i .u64 (sh_shr .u64 (ari_add .u64 (ari_mul .u64 (sh_shr .u64 x 32) (ari_and .u64 y 4294967295)) (sh_shr .u64 (ari_mul .u64 (ari_and .u64 x 4294967295) (ari_and .u64 y 4294967295)) 32)) 32)) rfl) (Zh (Ze (W_sq (W_rg (Zb (a_mv (v := .i .u64 (ari_and .u64 (ari_add .u64 (ari_mul .u64 (sh_shr .u64 x 32) (ari_and .u64 y 4294967295)) (sh_shr .u64 (ari_mul .u64 (ari_and .u64 x 4294967295) (ari_and .u64 y 4294967295)) 32)) 4294967295)) rfl) (Zb (a_mv (v := .i .u64 (ari_and .u64 x 4294967295)) rfl) (Zb (a_mv (v := .i .u64 (sh_shr .u64 y 32)) rfl) ?_)))))))
 refine Zb (a_ari (a := (ari_and .u64 x 4294967295)) (b := (sh_shr .u64 y 32)) (v := .i .u64 (ari_mul .u64 (ari_and .u64 x 4294967295) (sh_shr .u64 y 32))) rfl rfl (by decide) rfl) (Zb (a_ari (a := (ari_and .u64 (ari_add .u64 (ari_mul .u64 (sh_shr .u64 x 32) (ari_and .u64 y 4294967295)) (sh_shr .u64 (ari_mul .u64 (ari_and .u64 x 4294967295) (ari_and .u64 y 4294967295)) 32)) 4294967295)) (b := (ari_mul .u64 (ari_and .u64 x 4294967295) (sh_shr .u64 y 32))) (v := .i .u64 (ari_add .u64 (ari_and .u64 (ari_add .u64 (ari_mul .u64 (sh_shr .u64 x 32) (ari_and .u64 y 4294967295)) (sh_shr .u64 (ari_mul .u64 (ari_and .u64 x 4294967295) (ari_and .u64 y 4294967295)) 32)) 4294967295) (ari_mul .u64 (ari_and .u64 x 4294967295) (sh_shr .u64 y 32)))) rfl rfl (by decide) rfl) (Zb (a_mv (v := .i .u64 (ari_add .u64 (ari_and .u64 (ari_add .u64 (ari_mul .u64 (sh_shr .u64 x 32) (ari_and .u64 y 4294967295)) (sh_shr .u64 (ari_mul .u64 (ari_and .u64 x 4294967295) (ari_and .u64 y 4294967295)) 32)) 4294967295) (ari_mul .u64 (ari_and .u64 x 4294967295) (sh_shr .u64 y 32)))) rfl) (Zh (Ze (W_sq (W_rg (Zb (a_mv (v := .i .u64 (sh_shr .u64 x 32)) rfl) ?_)))))))
 refine Zb (a_mv (v := .i .u64 (sh_shr .u64 y 32)) rfl) (Zb (a_ari (a := (sh_shr .u64 x 32)) (b := (sh_shr .u64 y 32)) (v := .i .u64 (ari_mul .u64 (sh_shr .u64 x 32) (sh_shr .u64 y 32))) rfl rfl (by decide) rfl) (Zb (a_mv (v := .i .u64 (sh_shr .u64 (ari_add .u64 (ari_mul .u64 (sh_shr .u64 x 32) (ari_and .u64 y 4294967295)) (sh_shr .u64 (ari_mul .u64 (ari_and .u64 x 4294967295) (ari_and .u64 y 4294967295)) 32)) 32)) rfl) (Zb (a_ari (a := (ari_mul .u64 (sh_shr .u64 x 32) (sh_shr .u64 y 32))) (b := (sh_shr .u64 (ari_add .u64 (ari_mul .u64 (sh_shr .u64 x 32) (ari_and .u64 y 4294967295)) (sh_shr .u64 (ari_mul .u64 (ari_and .u64 x 4294967295) (ari_and .u64 y 4294967295)) 32)) 32)) (v := .i .u64 (ari_add .u64 (ari_mul .u64 (sh_shr .u64 x 32) (sh_shr .u64 y 32)) (sh_shr .u64 (ari_add .u64 (ari_mul .u64 (sh_shr .u64 x 32) (ari_and .u64 y 4294967295)) (sh_shr .u64 (ari_mul .u64 (ari_and .u64 x 4294967295) (ari_and .u64 y 4294967295)) 32)) 32))) rfl rfl (by decide) rfl) (Zb (a_mv (v := .i .u64 (ari_add .u64 (ari_and .u64 (ari_add .u64 (ari_mul .u64 (sh_shr .u64 x 32) (ari_and .u64 y 4294967295)) (sh_shr .u64 (ari_mul .u64 (ari_and .u64 x 4294967295) (ari_and .u64 y 4294967295)) 32)) 4294967295) (ari_mul .u64 (ari_and .u64 x 4294967295) (sh_shr .u64 y 32)))) rfl) (Zb (a_shift (a := (ari_add .u64 (ari_and .u64 (ari_add .u64 (ari_mul .u64 (sh_shr .u64 x 32) (ari_and .u64 y 4294967295)) (sh_shr .u64 (ari_mul .u64 (ari_and .u64 x 4294967295) (ari_and .u64 y 4294967295)) 32)) 4294967295) (ari_mul .u64 (ari_and .u64 x 4294967295) (sh_shr .u64 y 32)))) (b := 32) (v := .i .u64 (sh_shr .u64 (ari_add .u64 (ari_and .u64 (ari_add .u64 (ari_mul .u64 (sh_shr .u64 x 32) (ari_and .u64 y 4294967295)) (sh_shr .u64 (ari_mul .u64 (ari_and .u64 x 4294967295) (ari_and .u64 y 4294967295)) 32)) 4294967295) (ari_mul .u64 (ari_and .u64 x 4294967295) (sh_shr .u64 y 32))) 32)) rfl rfl (by decide) (sh_shr_ok (by decide))) (Zb (a_ari (a := (ari_add .u64 (ari_mul .u64 (sh_shr .u64 x 32) (sh_shr .u64 y 32)) (sh_shr .u64 (ari_add .u64 (ari_mul .u64 (sh_shr .u64 x 32) (ari_and .u64 y 4294967295)) (sh_shr .u64 (ari_mul .u64 (ari_and .u64 x 4294967295) (ari_and .u64 y 4294967295)) 32)) 32))) (b := (sh_shr .u64 (ari_add .u64 (ari_and .u64 (ari_add .u64 (ari_mul .u64 (sh_shr .u64 x 32) (ari_and .u64 y 4294967295)) (sh_shr .u64 (ari_mul .u64 (ari_and .u64 x 4294967295) (ari_and .u64 y 4294967295)) 32)) 4294967295) (ari_mul .u64 (ari_and .u64 x 4294967295) (sh_shr .u64 y 32))) 32)) (v := .i .u64 (ari_add .u64 (ari_add .u64 (ari_mul .u64 (sh_shr .u64 x 32) (sh_shr .u64 y 32)) (sh_shr .u64 (ari_add .u64 (ari_mul .u64 (sh_shr .u64 x 32) (ari_and .u64 y 4294967295)) (sh_shr .u64 (ari_mul .u64 (ari_and .u64 x 4294967295) (ari_and .u64 y 4294967295)) 32)) 32)) (sh_shr .u64 (ari_add .u64 (ari_and .u64 (ari_add .u64 (ari_mul .u64 (sh_shr .u64 x 32) (ari_and .u64 y 4294967295)) (sh_shr .u64 (ari_mul .u64 (ari_and .u64 x 4294967295) (ari_and .u64 y 4294967295)) 32)) 4294967295) (ari_mul .u64 (ari_and .u64 x 4294967295) (sh_shr .u64 y 32))) 32))) rfl rfl (by decide) rfl) (Zb (a_mv (v := .i .u64 (ari_add .u64 (ari_add .u64 (ari_mul .u64 (sh_shr .u64 x 32) (sh_shr .u64 y 32)) (sh_shr .u64 (ari_add .u64 (ari_mul .u64 (sh_shr .u64 x 32) (ari_and .u64 y 4294967295)) (sh_shr .u64 (ari_mul .u64 (ari_and .u64 x 4294967295) (ari_and .u64 y 4294967295)) 32)) 32)) (sh_shr .u64 (ari_add .u64 (ari_and .u64 (ari_add .u64 (ari_mul .u64 (sh_shr .u64 x 32) (ari_and .u64 y 4294967295)) (sh_shr .u64 (ari_mul .u64 (ari_and .u64 x 4294967295) (ari_and .u64 y 4294967295)) 32)) 4294967295) (ari_mul .u64 (ari_and .u64 x 4294967295) (sh_shr .u64 y 32))) 32))) rfl) ?_)))))))
 refine Zh (Ze (W_sq (W_rg (Zb (a_mv (v := .i .u64 x) rfl) (Zb (a_mv (v := .i .u64 y) rfl) (Zb (a_ari (a := x) (b := y) (v := .i .u64 (ari_mul .u64 x y)) rfl rfl (by decide) rfl) (Zb (a_mv (v := .i .u64 (ari_mul .u64 x y)) rfl) ?_)))))))
 refine Zh (Ze (W_rt (Ret_r (rs_t (n := 4) (v := .i .u64 (ari_add .u64 (ari_add .u64 (ari_mul .u64 (sh_shr .u64 x 32) (sh_shr .u64 y 32)) (sh_shr .u64 (ari_add .u64 (ari_mul .u64 (sh_shr .u64 x 32) (ari_and .u64 y 4294967295)) (sh_shr .u64 (ari_mul .u64 (ari_and .u64 x 4294967295) (ari_and .u64 y 4294967295)) 32)) 32)) (sh_shr .u64 (ari_add .u64 (ari_and .u64 (ari_add .u64 (ari_mul .u64 (sh_shr .u64 x 32) (ari_and .u64 y 4294967295)) (sh_shr .u64 (ari_mul .u64 (ari_and .u64 x 4294967295) (ari_and .u64 y 4294967295)) 32)) 4294967295) (ari_mul .u64 (ari_and .u64 x 4294967295) (sh_shr .u64 y 32))) 32))) rfl (rs_t (n := 5) (v := .i .u64 (ari_mul .u64 x y)) rfl rs_nil)) ?_)))
 have hp := Option.some.inj hp; subst hp
 exact (And.intro rfl (hO.pick [] rfl (by decide)))

theorem ZaF.ok {h : Hp} {x : Int} {y : Int}   {r : Int × Int} (hp : ZaF x y = some r) :
  ∃ u k', Is G 89 [.i .u64 x, .i .u64 y] h u k' ∧ V.tu [.i .u64 r.1, .i .u64 r.2] = u ∧ Own (fun r => r < h.n) h k' [] := by
 refine WC.is (WC_of G_F_bits_Mul ?_)
 unfold ZaF at hp
 let B : Nat → Prop := (fun r => r < h.n)
 have hO : Own B h h [] := Own.start0 h
 refine W_sq (W_rg (Zb (a_mv (v := .i .u64 0) rfl) (Zb (a_mv (v := .i .u64 0) rfl) (Zh (Ze (W_sq (W_cF (t := false) rfl rfl ?_)))))))
 refine W_sk (Ze (W_sq (W_rg (Zb (a_mv (v := .i .u64 x) rfl) (Zb (a_mv (v := .i .u64 y) rfl) ?_)))))
 obtain ⟨⟨x1, x2⟩, hx₁, hp⟩ := Zt hp
 obtain ⟨u₁, k₁, ca₁, rfl, hW₁⟩ := ZaG.ok (h := h)   hx₁
 refine Zaj (id := 98) (caps := []) rfl (Z7 (v := .i .u64 x) rfl (Z7 (v := .i .u64 y) rfl zl)) ca₁ ?_
 have hO₁ : Own B h k₁ [] := hO.call hW₁ rfl
 refine Zb (a_mv (v := .tu [.i .u64 x1, .i .u64 x2]) rfl) (Zb (Zax (vs := [.i .u64 x1, .i .u64 x2]) (v := .i .u64 x1) rfl rfl) (Zb (Zax (vs := [.i .u64 x1, .i .u64 x2]) (v := .i .u64 x2) rfl rfl) (Zb (a_mv (v := .i .u64 x1) rfl) (Zb (a_mv (v := .i .u64 x2) rfl) (Zh (Ze (W_sq ?_)))))))
 refine W_rg (Zb (a_mv (v := .i .u64 x1) rfl) (Zb (a_mv (v := .i .u64 x2) rfl) (Zb (a_mv (v := .i .u64 x1) rfl) (Zb (a_mv (v := .i .u64 x2) rfl) (Zh (Ze (W_rt ?_)))))))
 refine Ret_r (rs_t (n := 4) (v := .i .u64 x1) rfl (rs_t (n := 5) (v := .i .u64 x2) rfl rs_nil)) ?_
 have hp := Option.some.inj hp; subst hp
 exact (And.intro rfl (hO₁.pick [] rfl (by decide)))

end Mu
