/- What May, Take and Give of a hold tell, and the three plain laws of it: for every row of steps, and every holder. Conditions: none. -/
import Derived.Test.YtlbmiphdipohlaaQHoldx
namespace Go.Proofs.Ytlbmiphdipohlaa.Pure
open Go.RowKit Go.Proofs.Ytlbmiphdipohlaa.QHold Go.Proofs.YtlbmiphdipohlaaW.PrintWords Go.Proofs.YtlbmiphdipohlaaW.PrintLast

namespace Hold
theorem may_lt {h a : Int} (ha : a < 1) : hold_Hold_May.f h a = some 1 := by
  unfold hold_Hold_May.f; rw [if_pos ha]
theorem may_zero {a : Int} (ha : 1 ≤ a) : hold_Hold_May.f 0 a = some 0 := by
  unfold hold_Hold_May.f; rw [if_neg (by omega)]; simp
theorem may_same {a : Int} (ha : 1 ≤ a) : hold_Hold_May.f a a = some 0 := by
  unfold hold_Hold_May.f; rw [if_neg (by omega)]; simp
theorem may_other {h a : Int} (ha : 1 ≤ a) (h0 : h ≠ 0) (hn : h ≠ a) : hold_Hold_May.f h a = some 31 := by
  unfold hold_Hold_May.f; rw [if_neg (by omega)]; simp [h0, hn]
theorem take_ok {h a : Int} (e : hold_Hold_May.f h a = some 0) : hold_Hold_Take.f h a = some (a, 0) := by
  unfold hold_Hold_Take.f; rw [e]; rfl
theorem take_no {h a c : Int} (e : hold_Hold_May.f h a = some c) (hc : c ≠ 0) : hold_Hold_Take.f h a = some (h, c) := by
  unfold hold_Hold_Take.f; rw [e]; simp [hc]
theorem give_no {k : Nat} {h a c : Int} (e : hold_Hold_May.f h a = some c) (hc : c ≠ 0) : hold_Hold_Give.f (k + 1) h a = some (h, c) := by
  unfold hold_Hold_Give.f; rw [e]; simp [hc, hold_Hold_Give.j0]
theorem give_zero {k : Nat} {a : Int} (ha : 1 ≤ a) : hold_Hold_Give.f (k + 1) 0 a = some (0, 32) := by
  unfold hold_Hold_Give.f; rw [may_zero ha]; simp [hold_Hold_Give.j0]
theorem give_same {k : Nat} {a : Int} (ha : 1 ≤ a) : hold_Hold_Give.f (k + 1) a a = some (0, 0) := by
  unfold hold_Hold_Give.f; rw [may_same ha]; simp [hold_Hold_Give.j0]
  omega
theorem awake (k : Nat) : tollbarlaw29_awake.f (k + 1) = some true := by
  unfold tollbarlaw29_awake.f
  rw [take_ok (may_zero (by omega))]; simp only [Option.bind_some]
  rw [take_no (may_other (by omega) (by omega) (by omega)) (by omega)]; simp only [Option.bind_some]
  rw [give_same (by omega)]; simp only [Option.bind_some]
  rw [give_zero (by omega)]; simp only [Option.bind_some]
  rw [may_same (by omega), may_other (by omega) (by omega) (by omega), may_lt (by omega)]; simp
theorem step (h a : Int) : (a < 1 ∧ hold_Hold_May.f h a = some 1 ∧ tollbarref29_May.f h a = some 1) ∨ (1 ≤ a ∧ (h = 0 ∨ h = a) ∧ hold_Hold_May.f h a = some 0 ∧ tollbarref29_May.f h a = some 0) ∨
    (1 ≤ a ∧ h ≠ 0 ∧ h ≠ a ∧ hold_Hold_May.f h a = some 31 ∧ tollbarref29_May.f h a = some 31) := by
  by_cases ha : a < 1
  · exact .inl ⟨ha, may_lt ha, by unfold tollbarref29_May.f; rw [if_pos ha]⟩
  · by_cases h0 : h = 0
    · subst h0; exact .inr (.inl ⟨by omega, .inl rfl, may_zero (by omega), by unfold tollbarref29_May.f; rw [if_neg ha]; simp⟩)
    · by_cases h1 : h = a
      · subst h1; exact .inr (.inl ⟨by omega, .inr rfl, may_same (by omega), by unfold tollbarref29_May.f; rw [if_neg ha]; simp⟩)
      · exact .inr (.inr ⟨by omega, h0, h1, may_other (by omega) h0 h1, by unfold tollbarref29_May.f; rw [if_neg ha]; simp [h0, h1]⟩)
theorem give_eq (k : Nat) (h a : Int) : ∃ r, hold_Hold_Give.f (k + 1) h a = some r ∧ tollbarref29_Give.f (k + 1) h a = some r := by
  rcases step h a with ⟨ha, hm, hr⟩ | ⟨ha, h0, hm, hr⟩ | ⟨ha, h0, h1, hm, hr⟩
  · exact ⟨_, give_no hm (by omega), by unfold tollbarref29_Give.f; rw [if_neg (by omega)]; simp [tollbarref29_Give.j0, hr]⟩
  · by_cases z : h = 0
    · subst z
      exact ⟨_, give_zero ha, by unfold tollbarref29_Give.f; rw [if_pos ha]; simp [tollbarref29_Give.j0]⟩
    · rcases h0 with h0 | h0
      · exact absurd h0 z
      · subst h0
        exact ⟨_, give_same ha, by unfold tollbarref29_Give.f; rw [if_pos ha]; simp [tollbarref29_Give.j0, z, hr]⟩
  · exact ⟨_, give_no hm (by omega), by unfold tollbarref29_Give.f; rw [if_pos ha]; simp [tollbarref29_Give.j0, h0, hr]⟩
theorem take_eq (h a : Int) : ∃ r, hold_Hold_Take.f h a = some r ∧ tollbarref29_Take.f h a = some r := by
  rcases step h a with ⟨ha, hm, hr⟩ | ⟨ha, h0, hm, hr⟩ | ⟨ha, h0, h1, hm, hr⟩
  · exact ⟨_, take_no hm (by omega), by unfold tollbarref29_Take.f; rw [hr]; rfl⟩
  · exact ⟨_, take_ok hm, by unfold tollbarref29_Take.f; rw [hr]; rfl⟩
  · exact ⟨_, take_no hm (by omega), by unfold tollbarref29_Take.f; rw [hr]; rfl⟩
theorem may_eq (h a : Int) : ∃ r, hold_Hold_May.f h a = some r ∧ tollbarref29_May.f h a = some r := by
  rcases step h a with ⟨ha, hm, hr⟩ | ⟨ha, h0, hm, hr⟩ | ⟨ha, h0, h1, hm, hr⟩ <;> exact ⟨_, hm, hr⟩
theorem does (l : List S27) (hl : l.length ≤ 200) (d : Nat) : ∀ (k : Nat) (h i : Int), 0 ≤ i → (l.length : Int) - i = d → d + 1 < k → tollbarlaw29_HoldDoes.l0 k l h i h = some true := by
  induction d with
  | zero =>
    intro k h i h0 hd hk
    obtain ⟨k, rfl⟩ : ∃ m, k = m + 1 := ⟨k - 1, by omega⟩
    simp only [tollbarlaw29_HoldDoes.l0]; rw [if_neg (by omega)]
  | succ d ih =>
    intro k h i h0 hd hk
    obtain ⟨k, rfl⟩ : ∃ m, k = m + 1 + 1 := ⟨k - 2, by omega⟩
    have hw : wrap64 (i + 1) = i + 1 := by unfold wrap64; omega
    have hi : ∀ h', tollbarlaw29_HoldDoes.l0 (k + 1) l h' (i + 1) h' = some true := fun h' => ih (k + 1) h' (i + 1) (by omega) (by omega) (by omega)
    obtain ⟨m, hm1, hm2⟩ := may_eq h ((rd_T27 l i).f1)
    obtain ⟨t, ht1, ht2⟩ := take_eq h ((rd_T27 l i).f1)
    obtain ⟨g, hg1, hg2⟩ := give_eq k h ((rd_T27 l i).f1)
    rw [tollbarlaw29_HoldDoes.l0, if_pos (by omega), if_pos h0, hm1, hm2]; simp only [Option.bind_some, if_true]
    rw [ht1, ht2, hg1, hg2]; simp only [Option.bind_some, if_true, hw, hi, ite_self]
theorem turns (l : List Int) (hl : l.length ≤ 200) (d : Nat) : ∀ (k : Nat) (h i : Int), 0 ≤ i → (l.length : Int) - i = d → 2 * d + 1 < k → tollbarlaw29_HoldTurns.l0 k l i h = some true := by
  induction d with
  | zero =>
    intro k h i h0 hd hk
    obtain ⟨k, rfl⟩ : ∃ m, k = m + 1 := ⟨k - 1, by omega⟩
    simp only [tollbarlaw29_HoldTurns.l0]; rw [if_neg (by omega)]
  | succ d ih =>
    intro k h i h0 hd hk
    obtain ⟨k, rfl⟩ : ∃ m, k = m + 1 + 1 + 1 := ⟨k - 3, by omega⟩
    have hw : wrap64 (i + 1) = i + 1 := by unfold wrap64; omega
    have hi : ∀ h', tollbarlaw29_HoldTurns.l0 (k + 1) l (i + 1) h' = some true := fun h' => ih (k + 1) h' (i + 1) (by omega) (by omega) (by omega)
    have hi2 : ∀ h', tollbarlaw29_HoldTurns.l0 (k + 1 + 1) l (i + 1) h' = some true := fun h' => ih (k + 1 + 1) h' (i + 1) (by omega) (by omega) (by omega)
    have hj : ∀ g b, tollbarlaw29_HoldTurns.j1 (k + 1 + 1) l i false g b = some true := fun g b => by simp [tollbarlaw29_HoldTurns.j1, hw, hi]
    rw [tollbarlaw29_HoldTurns.l0, if_pos (by omega), if_pos h0]
    generalize rd l i = a
    rcases step h a with ⟨ha, hm, _⟩ | ⟨ha, h1, hm, _⟩ | ⟨ha, h1, h2, hm, _⟩
    · rw [take_no hm (by omega)]; simp [ha, hw, hi2]
    · rw [take_ok hm]; simp only [Option.bind_some, if_true]
      rw [take_ok (may_same ha), give_same ha]
      rcases h1 with rfl | rfl <;> simp [hj]
    · rw [take_no hm (by omega)]; simp [hw, hi2]
      omega
end Hold
open Hold in
theorem HoldOne (h : Int) (_ : (Lit.int .i64 h).wf = true) (a : Int) (_ : (Lit.int .i64 a).wf = true) (b : Int) (_ : (Lit.int .i64 b).wf = true) : ∃ k, tollbarlaw29_HoldOne.f k h a b = some true := by

  refine ⟨3, ?_⟩
  unfold tollbarlaw29_HoldOne.f
  rw [awake 2]; simp only [Option.bind_some, if_true]
  by_cases h0 : h < 0
  · rw [if_pos h0]; simp [tollbarlaw29_HoldOne.j0]
  rw [if_neg h0]
  by_cases a1 : a < 1
  · rw [if_pos a1]; simp [tollbarlaw29_HoldOne.j0]
  rw [if_neg a1]
  by_cases b1 : b < 1
  · rw [if_pos b1]; simp [tollbarlaw29_HoldOne.j0]
  rw [if_neg b1]
  by_cases hab : a = b
  · subst hab; simp [tollbarlaw29_HoldOne.j0]
  have hba : ¬ b = a := fun e => hab e.symm
  have ha : 1 ≤ a := by omega
  have hb : 1 ≤ b := by omega
  have tb : hold_Hold_Take.f 0 b = some (b, 0) := take_ok (may_zero hb)
  have ta : hold_Hold_Take.f b a = some (b, 31) := take_no (may_other ha (by omega) hba) (by omega)
  by_cases hz : h = 0
  · subst hz
    have : ¬ (0 : Int) = a := by omega
    simp [tollbarlaw29_HoldOne.j0, hab, give_zero ha, may_zero ha, may_zero hb, tollbarlaw29_HoldOne.j1, this]
  · by_cases e : h = a
    · subst e
      simp [tollbarlaw29_HoldOne.j0, hab, give_same ha, may_same ha, may_other hb hz hab, tollbarlaw29_HoldOne.j1, tb, ta, hz]
    · have hm := may_other ha hz e
      have hg : hold_Hold_Give.f (2 : Nat) h a = some (h, 31) := give_no hm (by omega)
      by_cases f : h = b
      · subst f
        simp [tollbarlaw29_HoldOne.j0, hab, hg, hm, may_same hb, tollbarlaw29_HoldOne.j1, hz, e]
      · simp [tollbarlaw29_HoldOne.j0, hab, hg, hm, may_other hb hz f, tollbarlaw29_HoldOne.j1, hz, e]
open Hold in
theorem HoldTurns (l : List Int) {W : Prop} (_ : W) : ∃ k, tollbarlaw29_HoldTurns.f k l = some true := by

  refine ⟨2 * l.length + 3, ?_⟩
  unfold tollbarlaw29_HoldTurns.f
  rw [awake (2 * l.length + 2)]; simp only [Option.bind_some, if_true]
  by_cases hl : (l.length : Int) > 200
  · rw [if_pos hl]
  · rw [if_neg hl]
    exact turns l (by omega) l.length _ 0 0 (by omega) (by omega) (by omega)
open Hold in
theorem HoldDoes (l : List S27) {W : Prop} (_ : W) : ∃ k, tollbarlaw29_HoldDoes.f k l = some true := by
  refine ⟨l.length + 3, ?_⟩
  unfold tollbarlaw29_HoldDoes.f
  rw [awake (l.length + 2)]; simp only [Option.bind_some, if_true]
  by_cases hl : (l.length : Int) > 200
  · rw [if_pos hl]
  · rw [if_neg hl]
    exact does l (by omega) l.length _ 0 0 (by omega) (by omega) (by omega)
end Go.Proofs.Ytlbmiphdipohlaa.Pure
