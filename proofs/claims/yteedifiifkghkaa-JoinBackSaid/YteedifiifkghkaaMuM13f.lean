/- Layer 13: there and back. -/
import Derived.Test.YteedifiifkghkaaMuM13e
set_option linter.unusedVariables false
set_option linter.unusedSimpArgs false
set_option maxRecDepth 10000
namespace Mu
/-- What Path answers. -/
def PathIs (l : List T_api_Cell) (v w : Nat) (p : List Int) (e : Int) : Prop := (e = 0 ∧ Dist l v w p.length) ∨ (e = 13 ∧ p = [] ∧ ∀ n, ¬ Rch l v n w)
theorem mPathIs {l : List T_api_Cell} (hc : Ck l) (hl : l.length ≤ 64) {v w : Nat} (hv : v < l.length) (hw : w < l.length) : ∃ p e, p_join_Path l v w = some (p, e) ∧ PathIs l v w p e := by
  rcases mPath hc hl hv hw with ⟨n, p, h1, h2, h3, _⟩ | ⟨h1, h2⟩
  · exact ⟨p, 0, h2, .inl ⟨rfl, by rw [h3]; exact h1⟩⟩
  · exact ⟨[], 13, h2, .inr ⟨rfl, rfl, h1⟩⟩
theorem JoinBack_pure (z : T_muntinref10_Places) (at_ : A3 Int) (hz : OkZ z) (ha : 0 ≤ at_.a ∧ at_.a ≤ 255) (hb : 0 ≤ at_.b ∧ at_.b ≤ 255) (hcc : 0 ≤ at_.c ∧ at_.c ≤ 255) : p_muntinlaw13_JoinBack z at_ = some true := by
  obtain ⟨l, pts, e1, hm, hlen⟩ := mMake (z := z) (most := 20) hz (by omega)
  have hc := hm.ck
  unfold p_muntinlaw13_JoinBack
  rw [e1, Option.bind_some]
  dsimp only
  rw [kJoinWakes, Option.bind_some, Option.bind_some]
  by_cases c : l.length = 0
  · rw [if_pos (by simp [c])]
  · rw [if_neg (by rw [dec_f (show ¬ ((l.length : Nat) : Int) = 0 by omega)]; decide)]
    have g0 : at_.get 0 = at_.a := rfl
    have g1 : at_.get 1 = at_.b := rfl
    have g2 : at_.get 2 = at_.c := rfl
    rw [g0, g1, g2]
    obtain ⟨a, ea, la⟩ := tmodN (n := l.length) ha.1 (by omega)
    obtain ⟨b, eb, lb⟩ := tmodN (n := l.length) hb.1 (by omega)
    obtain ⟨d, ed, ld⟩ := tmodN (n := l.length) hcc.1 (by omega)
    obtain ⟨p1, x1, h1, r1⟩ := mPathIs hc (by omega) la lb
    obtain ⟨p2, x2, h2, r2⟩ := mPathIs hc (by omega) lb la
    obtain ⟨p3, x3, h3, r3⟩ := mPathIs hc (by omega) la ld
    obtain ⟨p4, x4, h4, r4⟩ := mPathIs hc (by omega) ld lb
    rw [ckK64 (by omega), ck_pos (by omega), ckK64 (by omega), ckK64 (by omega), ea, eb, ed, h1, h2, h3, h4]
    simp only [Option.bind_some]
    have e12 : x1 = x2 ∧ p1.length = p2.length := by
      rcases r1 with ⟨q1, q2⟩ | ⟨q1, q2, q3⟩ <;> rcases r2 with ⟨k1, k2⟩ | ⟨k1, k2, k3⟩
      · exact ⟨by omega, q2.uniq (k2.symm hc lb)⟩
      · exact absurd (q2.symm hc la).1 (k3 _)
      · exact absurd (k2.symm hc lb).1 (q3 _)
      · exact ⟨by omega, by rw [q2, k2]⟩
    obtain ⟨rfl, e2⟩ := e12
    rw [if_neg (by simp [e2])]
    by_cases c2 : x3 = 0 ∧ x4 = 0
    · have t3 : Dist l a d p3.length := by
        rcases r3 with ⟨_, q⟩ | ⟨q, _⟩
        · exact q
        · omega
      have t4 : Dist l d b p4.length := by
        rcases r4 with ⟨_, q⟩ | ⟨q, _⟩
        · exact q
        · omega
      have hr := t3.1.trans t4.1
      have t1 : x1 = 0 ∧ Dist l a b p1.length := by
        rcases r1 with q | ⟨_, _, q⟩
        · exact q
        · exact absurd hr (q _)
      have hle := t1.2.2 _ hr
      have b3 := t3.lt hc la
      have b4 := t4.lt hc ld
      rw [if_neg (by simp [c2.1, c2.2]), ifd_pos t1.1, ckI64 (by omega), dec_t (by omega)]
      rfl
    · rw [if_pos (by
        rw [Bool.or_eq_true]
        by_cases c3 : x3 = 0
        · right; simp; intro c4; exact c2 ⟨c3, c4⟩
        · left; simp [c3])]
      rfl

theorem okZ {z : T_muntinref10_Places} (m1 : z.At.length ≤ Go.maxLen) (b1 : ∀ y ∈ z.At, Ok_u8 y) (b3 : ∀ y ∈ z.Own, Ok_i8 y) : OkZ z :=
  ⟨by unfold Go.maxLen at m1; omega, b1, b3⟩
theorem JoinBack_main (z : T_muntinref10_Places) (at_ : A3 Int) (m1 : z.At.length ≤ Go.maxLen) (b1 : ∀ y ∈ z.At, Ok_u8 y) (m2 : z.Bits.length ≤ Go.maxLen) (b2 : ∀ y ∈ z.Bits, Ok_u8 y) (m3 : z.Own.length ≤ Go.maxLen) (b3 : ∀ y ∈ z.Own, Ok_i8 y) (k : Ok_A3_u8 at_) : p_muntinlaw13_JoinBack z at_ = some true :=
  JoinBack_pure z at_ (okZ m1 b1 b3) k.1.u8 k.2.1.u8 k.2.2.u8
end Mu
