/- The four plain laws of numbers, rates and names as texts: for every text of any length, and every number. -/
import Derived.Test.YtdlkjcginamemaaDoorScalarPureC
namespace Go.Proofs.YtdlkjcginamemaaDoor.Pure
open Go.RowKit Go.Lib Go.Proofs.YtdlkjcginamemaaDoor.QScalar Go.Proofs.YtdlkjcginamemaaDoor.Scalar Go.Proofs.YtdlkjcginamemaaDoor.Num Go.Proofs.YtdlkjcginamemaaDoorW.PrintWords Go.Proofs.YtdlkjcginamemaaDoorW.PrintLast
set_option linter.unusedVariables false
set_option linter.unusedSimpArgs false

namespace Sc
theorem last_digit (u : Nat) : ∃ m c, decDigits u = m ++ [c] ∧ c ≠ 109 ∧ c ≠ 107 := by
  rcases List.eq_nil_or_concat (decDigits u) with h | ⟨m, c, h⟩
  · exact absurd h (dec_ne u)
  · rw [List.concat_eq_append] at h
    have hc := dec_digits u c (by rw [h]; simp)
    refine ⟨m, c, h, ?_, ?_⟩
    · rintro rfl; exact absurd hc.2 (by decide)
    · rintro rfl; exact absurd hc.2 (by decide)
theorem rateT_dec (u t : Nat) (hu : u < 18446744073709551616) : rateT ⟨(decDigits u).toArray⟩ t = if u * t < 18446744073709551616 then some (u * t) else none := by
  unfold rateT; rw [uintV_dec u hu]
theorem rate_plain (u : Nat) (hu : u < 18446744073709551616) : rateV ⟨(decDigits u).toArray⟩ = some u := by
  obtain ⟨m, c, h, h1, h2⟩ := last_digit u
  have e := rateV_n m c h1 h2
  rw [← h] at e
  rw [e, rateT_dec u 1 hu, if_pos (by omega), Nat.mul_one]
theorem rate_k (u : Nat) (hu : u < 18446744073709551616) : rateV (⟨(decDigits u).toArray⟩ ++ ⟨#[107]⟩) = if u * 1000 < 18446744073709551616 then some (u * 1000) else none := by
  have e : (⟨(decDigits u).toArray⟩ : ByteArray) ++ ⟨#[107]⟩ = ⟨(decDigits u ++ [107]).toArray⟩ := mk_append _ [107]
  rw [e, rateV_k, rateT_dec u 1000 hu]
theorem rate_m (u : Nat) (hu : u < 18446744073709551616) : rateV (⟨(decDigits u).toArray⟩ ++ ⟨#[109]⟩) = if u * 1000000 < 18446744073709551616 then some (u * 1000000) else none := by
  have e : (⟨(decDigits u).toArray⟩ : ByteArray) ++ ⟨#[109]⟩ = ⟨(decDigits u ++ [109]).toArray⟩ := mk_append _ [109]
  rw [e, rateV_m, rateT_dec u 1000000 hu]
theorem uint_not (m : List UInt8) (c : UInt8) (hc : 58 ≤ c.toNat) : uintV ⟨(m ++ [c]).toArray⟩ = none := by
  cases h : uintV ⟨(m ++ [c]).toArray⟩ with
  | none => rfl
  | some u =>
    have e := mk_inj (uintV_eq h)
    have := dec_digits u c (by rw [← e]; simp)
    omega
theorem show_rate (u : Nat) (hu : u < 18446744073709551616) : rateV (showRateV u) = some u := by
  unfold showRateV
  split
  · rename_i h
    have e : u / 1000000 * 1000000 = u := by omega
    rw [rate_m _ (by omega), e, if_pos hu]
  · split
    · rename_i h
      have e : u / 1000 * 1000 = u := by omega
      rw [rate_k _ (by omega), e, if_pos hu]
    · exact rate_plain u hu
theorem size_app (a b : ByteArray) : (a ++ b).size = a.size + b.size := ByteArray.size_append
theorem show_size (u : Nat) (hu : u < 18446744073709551616) : (showRateV u).size ≤ 40 := by
  have h0 := len_le hu
  have h6 := len_le (u := u / 1000000) (by omega)
  have h3 := len_le (u := u / 1000) (by omega)
  unfold showRateV
  split
  · rw [size_app, sized, decDigits_length]; show nDigits (u / 1000000) + 1 ≤ 40; omega
  · split
    · rw [size_app, sized, decDigits_length]; show nDigits (u / 1000) + 1 ≤ 40; omega
    · rw [sized, decDigits_length]; omega
theorem rateR_some {s : ByteArray} {u : Nat} (h : rateV s = some u) : rateR s = ((u : Int), true) := by unfold rateR; rw [h]
theorem rateR_none {s : ByteArray} (h : rateV s = none) : rateR s = (0, false) := by unfold rateR; rw [h]
theorem uintR_some {s : ByteArray} {u : Nat} (h : uintV s = some u) : uintR s = ((u : Int), true) := by unfold uintR; rw [h]
theorem uintR_none {s : ByteArray} (h : uintV s = none) : uintR s = (0, false) := by unfold uintR; rw [h]
theorem dec2 : decDigits 2 = [50] := by rw [dec_small (by omega)]; rfl
theorem dec0 : decDigits 0 = [48] := by rw [dec_small (by omega)]; rfl
theorem dec2000 : decDigits 2000 = [50, 48, 48, 48] := by
  rw [dec_big (by omega), dec_big (by omega), dec_big (by omega), dec_small (by omega)]; rfl
theorem awake : tollbarlaw06_awake.f = some true := by
  have e1 : (⟨#[50, 107]⟩ : ByteArray) = ⟨(decDigits 2).toArray⟩ ++ ⟨#[107]⟩ := by rw [dec2]; rfl
  have e2 : (⟨#[50, 48, 48, 48]⟩ : ByteArray) = ⟨(decDigits 2000).toArray⟩ := by rw [dec2000]
  have r1 : rateR (⟨#[50, 107]⟩ : ByteArray) = (2000, true) := by rw [e1, rateR_some ((rate_k 2 (by omega)).trans (if_pos (by omega)))]; rfl
  have r2 : rateR (⟨#[50, 48, 48, 48]⟩ : ByteArray) = (2000, true) := by rw [e2, rateR_some (rate_plain 2000 (by omega))]; rfl
  have r3 : uintR (⟨#[48, 49]⟩ : ByteArray) = (0, false) := by
    refine uintR_none ?_
    have hp : parseUintB 64 (⟨#[48, 49]⟩ : ByteArray).data.toList = .ok 1 := by simp [parseUintB, parseUintM]
    unfold uintV
    rw [hp]
    simp only
    rw [if_neg]
    rw [dec_small (by omega)]
    intro z
    have := congrArg ByteArray.size z
    simp [ByteArray.size] at this
  have r4 : (showRateV 2000).toList = [50, 107] := by
    unfold showRateV
    rw [if_neg (by omega), if_pos (by omega), show 2000 / 1000 = 2 from rfl, dec2, show (⟨([50] : List UInt8).toArray⟩ : ByteArray) ++ ⟨#[107]⟩ = ⟨(([50] : List UInt8) ++ [107]).toArray⟩ from mk_append [50] [107], toList_mk]; rfl
  unfold tollbarlaw06_awake.f
  rw [my_rate _ (by decide), my_rate _ (by decide), my_uint _ (by decide), r1, r2, r3]
  simp only [Option.bind_some, if_true]
  rw [show ((2000 : Int)) = ((2000 : Nat) : Int) from rfl, my_showRate 2000 (by omega)]
  simp only [Option.bind_some]
  rw [if_pos r4, if_neg (by decide), show ((0 : Int)) = ((0 : Nat) : Int) from rfl, my_show 0 (by omega)]
  simp only [Option.bind_some]
  rw [if_pos (by rw [toList_mk, dec0]), my_ident _ (by decide), my_ident _ (by decide)]
  rfl
end Sc
open Sc
theorem ScalarReads (s : ByteArray) (hs : s.size ≤ 140737488351232) : ∃ k, tollbarlaw06_ScalarReads.f k s = some true := by
  refine Ev.rounds (g := fun k => tollbarlaw06_ScalarReads.f k s) ?_
  by_cases h : (s.size : Int) > 300
  · refine Ev.congr (f := fun _ => some true) (fun k => ?_) (Ev.now _)
    unfold tollbarlaw06_ScalarReads.f
    rw [awake]; simp only [Option.bind_some, if_true]; rw [if_pos h]
  · refine Ev.congr (fun k => ?_) (Ev.bind (f := fun k bt128 => (tollbarref06_Rate.f k s).bind fun bt132 => if (uintR s).1 = bt128.1 then (if ((uintR s).2 == bt128.2) = true then (if (rateR s).1 = bt132.1 then (if ((rateR s).2 == bt132.2) = true then ((tollbarref06_Ident.f k s).bind fun t135 => (some (idB s.data.toList == t135))) else (some false)) else (some false)) else (some false)) else (some false)) (ref_uint s hs) (Ev.bind (ref_rate s hs) ?_))
    · unfold tollbarlaw06_ScalarReads.f
      rw [awake]; simp only [Option.bind_some, if_true]; rw [if_neg h, my_uint s hs, my_rate s hs]
      simp only [Option.bind_some]
      rw [my_ident s hs]
      simp only [Option.bind_some]
    · simp only [if_true, beq_self_eq_true]
      refine Ev.bind (ref_ident s hs) ?_
      simp only [beq_self_eq_true]
      exact Ev.now _
theorem ScalarShows (a0 : Int) (w : (Lit.int .u64 a0).wf = true) : ∃ k, tollbarlaw06_ScalarShows.f k a0 = some true := by
  have hx : 0 ≤ a0 ∧ a0 ≤ 18446744073709551615 := by simpa [Lit.wf, IntKind.min, IntKind.max, IntKind.signed, IntKind.bits] using w
  obtain ⟨u, rfl⟩ := Int.eq_ofNat_of_zero_le hx.1
  have hu : u < 18446744073709551616 := by omega
  have s1 : (⟨(decDigits u).toArray⟩ : ByteArray).size ≤ 140737488351232 := by rw [sized, decDigits_length]; have := len_le hu; omega
  have s2 : (showRateV u).size ≤ 140737488351232 := by have := show_size u hu; omega
  refine Ev.rounds (g := fun k => tollbarlaw06_ScalarShows.f k u) ?_
  refine Ev.congr (fun k => ?_) (Ev.bind (f := fun k t147 => if (⟨(decDigits u).toArray⟩ : ByteArray).toList = t147.toList then ((tollbarref06_ShowRate.f k u).bind fun t149 => (if (showRateV u).toList = t149.toList then some true else some false)) else some false) (ref_show u hu) ?_)
  · unfold tollbarlaw06_ScalarShows.f
    rw [awake]; simp only [Option.bind_some, if_true]
    rw [my_show u hu]; simp only [Option.bind_some]
    rw [my_uint _ s1, uintR_some (uintV_dec u hu)]; simp only [Option.bind_some]
    rw [my_showRate u hu]; simp only [Option.bind_some]
    rw [my_rate _ s2, rateR_some (show_rate u hu)]; simp only [Option.bind_some, if_true]
  · simp only [eq_self, if_true]
    refine Ev.bind (ref_showRate u hu) ?_
    simp only [eq_self, if_true]
    exact Ev.now _
namespace Sc
theorem len10 {u : Nat} (h : 10 ≤ u) : nDigits (u / 10) + 1 ≤ nDigits u := by rw [nDigits_big (show ¬ u < 10 by omega)]; omega
/-- No text of a rate is shorter than the one that is shown. -/
theorem plain_le (y : Nat) (hy : y < 18446744073709551616) : (showRateV y).size ≤ nDigits y := by
  unfold showRateV
  split
  · rename_i h
    rw [size_app, sized, decDigits_length]
    exact len_cut (by omega) (by omega)
  · split
    · rename_i h
      rw [size_app, sized, decDigits_length]
      exact len_cut (by omega) (by omega)
    · rw [sized, decDigits_length]; exact Nat.le_refl _
theorem k_le (a : Nat) (ha : a * 1000 < 18446744073709551616) : (showRateV (a * 1000)).size ≤ nDigits a + 1 := by
  unfold showRateV
  have h1 := nDigits_pos a
  split
  · rename_i h
    have e : a * 1000 / 1000000 ≤ a := by omega
    rw [size_app, sized, decDigits_length]
    exact Nat.add_le_add_right (len_mono e) 1
  · split
    · rename_i h
      have e : a * 1000 / 1000 = a := by omega
      rw [size_app, sized, decDigits_length, e]
      exact Nat.le_refl _
    · rename_i h2 h
      have e : a = 0 := by omega
      subst e
      rw [sized, decDigits_length, nDigits_small (by omega)]; omega
theorem m_le (a : Nat) (ha : a * 1000000 < 18446744073709551616) : (showRateV (a * 1000000)).size ≤ nDigits a + 1 := by
  unfold showRateV
  have h1 := nDigits_pos a
  split
  · rename_i h
    have e : a * 1000000 / 1000000 = a := by omega
    rw [size_app, sized, decDigits_length, e]
    exact Nat.le_refl _
  · rename_i h
    have e : a = 0 := by omega
    subst e
    rw [if_neg (by omega), sized, decDigits_length, nDigits_small (by omega)]; omega
theorem rateT_some {r : ByteArray} {t y : Nat} (h : rateT r t = some y) : ∃ a, r = ⟨(decDigits a).toArray⟩ ∧ a * t < 18446744073709551616 ∧ y = a * t := by
  unfold rateT at h
  cases hv : uintV r with
  | none => rw [hv] at h; cases h
  | some a =>
    rw [hv] at h
    simp only at h
    split at h
    · rename_i hb; cases h; exact ⟨a, uintV_eq hv, hb, rfl⟩
    · cases h
theorem shortest (s : ByteArray) (y : Nat) (h : rateV s = some y) : (showRateV y).size ≤ s.size ∧ y < 18446744073709551616 := by
  obtain ⟨l, rfl⟩ := as_list s
  rcases List.eq_nil_or_concat l with rfl | ⟨m, c, rfl⟩
  · rw [rateV_nil] at h
    obtain ⟨a, hr, hb, rfl⟩ := rateT_some h
    exact absurd (mk_inj hr).symm (dec_ne a)
  · rw [List.concat_eq_append] at h ⊢
    by_cases hm : c = 109
    · subst hm
      rw [rateV_m] at h
      obtain ⟨a, hr, hb, rfl⟩ := rateT_some h
      have e := mk_inj hr
      subst e
      have := m_le a hb
      refine ⟨?_, hb⟩
      rw [sized (decDigits a ++ [109]), List.length_append, decDigits_length]; exact this
    · by_cases hk : c = 107
      · subst hk
        rw [rateV_k] at h
        obtain ⟨a, hr, hb, rfl⟩ := rateT_some h
        have e := mk_inj hr
        subst e
        have := k_le a hb
        refine ⟨?_, hb⟩
        rw [sized (decDigits a ++ [107]), List.length_append, decDigits_length]; exact this
      · rw [rateV_n m c hm hk] at h
        obtain ⟨a, hr, hb, rfl⟩ := rateT_some h
        rw [hr, Nat.mul_one] at *
        rw [sized (decDigits a), decDigits_length]
        exact ⟨plain_le a hb, hb⟩
theorem units_j0 (k : Nat) (s : ByteArray) (hs : s.size ≤ 140737488351232) : tollbarlaw06_ScalarUnits.j0 (k + 1) s false = some true := by
  simp only [tollbarlaw06_ScalarUnits.j0]
  rw [if_neg (by decide), my_rate s hs]
  simp only [Option.bind_some]
  cases h : rateV s with
  | none => rw [rateR_none h]; rfl
  | some y =>
    obtain ⟨h1, h2⟩ := shortest s y h
    rw [rateR_some h]
    simp only [if_true]
    rw [my_showRate y h2]
    simp only [Option.bind_some]
    congr 1
    rw [decide_eq_true_eq]; omega
end Sc
theorem ScalarUnits (a0 : Int) (w : (Lit.int .u64 a0).wf = true) (s : ByteArray) (hs : s.size ≤ 140737488351232) : ∃ k, tollbarlaw06_ScalarUnits.f k a0 s = some true := by
  have hx : 0 ≤ a0 ∧ a0 ≤ 18446744073709551615 := by simpa [Lit.wf, IntKind.min, IntKind.max, IntKind.signed, IntKind.bits] using w
  obtain ⟨u, rfl⟩ := Int.eq_ofNat_of_zero_le hx.1
  have hu : u < 18446744073709551616 := by omega
  have hkm : u * 1000000 < 18446744073709551616 → u * 1000 < 18446744073709551616 := fun z => Nat.lt_of_le_of_lt (Nat.mul_le_mul_left u (by decide)) z
  have hl := len_le hu
  have z0 : (⟨(decDigits u).toArray⟩ : ByteArray).size ≤ 20 := by rw [sized, decDigits_length]; exact hl
  have zk : ((⟨(decDigits u).toArray⟩ : ByteArray) ++ ⟨#[107]⟩).size ≤ 140737488351232 := by rw [size_app]; show _ + 1 ≤ _; omega
  have zm : ((⟨(decDigits u).toArray⟩ : ByteArray) ++ ⟨#[109]⟩).size ≤ 140737488351232 := by rw [size_app]; show _ + 1 ≤ _; omega
  have zkm : ((⟨(decDigits u).toArray⟩ : ByteArray) ++ ⟨#[107, 109]⟩).size ≤ 140737488351232 := by rw [size_app]; show _ + 2 ≤ _; omega
  have ek : (⟨(decDigits u).toArray⟩ : ByteArray) ++ ⟨#[107]⟩ = ⟨(decDigits u ++ [107]).toArray⟩ := mk_append _ [107]
  have ekm : (⟨(decDigits u).toArray⟩ : ByteArray) ++ ⟨#[107, 109]⟩ = ⟨((decDigits u ++ [107]) ++ [109]).toArray⟩ := by
    rw [List.append_assoc]; exact mk_append _ [107, 109]
  have uk : uintR ((⟨(decDigits u).toArray⟩ : ByteArray) ++ ⟨#[107]⟩) = (0, false) := by rw [ek]; exact uintR_none (uint_not _ _ (by decide))
  have ukm : rateR ((⟨(decDigits u).toArray⟩ : ByteArray) ++ ⟨#[107, 109]⟩) = (0, false) := by
    rw [ekm]; refine rateR_none ?_
    rw [rateV_m]; unfold rateT; rw [uint_not _ _ (by decide)]
  have wk : IntKind.u64.wrap (1000 * (u : Int)) = ((u * 1000 : Nat) : Int) ∨ ¬ u * 1000 < 18446744073709551616 := by
    rw [IntKind.wrap_u64]; omega
  have wm : IntKind.u64.wrap (1000000 * (u : Int)) = ((u * 1000000 : Nat) : Int) ∨ ¬ u * 1000000 < 18446744073709551616 := by
    rw [IntKind.wrap_u64]; omega
  have dk : decide ((u : Int) ≤ 18446744073709551) = decide (u * 1000 < 18446744073709551616) := by rw [decide_eq_decide]; omega
  have dm : decide ((u : Int) ≤ 18446744073709) = decide (u * 1000000 < 18446744073709551616) := by rw [decide_eq_decide]; omega
  refine ⟨1, ?_⟩
  unfold tollbarlaw06_ScalarUnits.f
  rw [awake]; simp only [Option.bind_some, if_true]
  by_cases h : (s.size : Int) > 300
  · rw [if_pos h]
  rw [if_neg h, my_show u hu]; simp only [Option.bind_some]
  rw [if_pos (by omega), my_rate _ zk]; simp only [Option.bind_some]
  rw [my_rate _ zm]; simp only [Option.bind_some]
  rw [my_uint _ zk, uk]; simp only [Option.bind_some]
  rw [if_pos (by omega), my_rate _ zkm, ukm]; simp only [Option.bind_some]
  rw [dk, dm]
  have j := units_j0 0 s hs
  by_cases hk : u * 1000 < 18446744073709551616
  · have rk := rateR_some ((rate_k u hu).trans (if_pos hk))
    have wk' := wk.resolve_right (fun z => z hk)
    by_cases hm : u * 1000000 < 18446744073709551616
    · have rm := rateR_some ((rate_m u hu).trans (if_pos hm))
      have wm' := wm.resolve_right (fun z => z hm)
      rw [rk, rm]
      simp only [hk, hm, decide_true, bne_self_eq_false, Bool.false_eq_true, if_false, if_true, wk', wm', j]
    · have rm := rateR_none ((rate_m u hu).trans (if_neg hm))
      rw [rk, rm]
      simp only [hk, hm, decide_true, decide_false, bne_self_eq_false, Bool.false_eq_true, if_false, if_true, wk', j]
  · have hm : ¬ u * 1000000 < 18446744073709551616 := fun z => hk (hkm z)
    have rk := rateR_none ((rate_k u hu).trans (if_neg hk))
    have rm := rateR_none ((rate_m u hu).trans (if_neg hm))
    rw [rk, rm]
    simp only [hk, hm, decide_false, bne_self_eq_false, Bool.false_eq_true, if_false, if_true, j]
namespace Sc
theorem idB_len {l : List UInt8} (h : idB l = true) : 1 ≤ l.length ∧ l.length ≤ 12 := by
  cases l with
  | nil => cases h
  | cons c r =>
    simp only [idB, Bool.and_eq_true, decide_eq_true_eq] at h
    simp only [List.length_cons]; omega
theorem idB_front {l : List UInt8} (h : idB l = true) (k : Nat) (h1 : 1 ≤ k) : idB (l.take k) = true := by
  cases l with
  | nil => cases h
  | cons c r =>
    obtain ⟨k, rfl⟩ : ∃ m, k = m + 1 := ⟨k - 1, by omega⟩
    simp only [idB, Bool.and_eq_true, decide_eq_true_eq, List.take_succ_cons] at h ⊢
    refine ⟨⟨h.1.1, ?_⟩, ?_⟩
    · rw [List.all_eq_true] at *
      exact fun x hx => h.1.2 x (List.mem_of_mem_take hx)
    · rw [List.length_take]; omega
theorem idB_more {l : List UInt8} (h : idB l = true) (c : UInt8) : idB (l ++ [c]) = (okc c && decide (l.length < 12)) := by
  cases l with
  | nil => cases h
  | cons b r =>
    simp only [idB, Bool.and_eq_true, decide_eq_true_eq] at h
    simp only [List.cons_append, idB, h.1.1, Bool.true_and, List.all_append, h.1.2, List.all_cons, List.all_nil, Bool.and_true, List.length_append, List.length_cons, List.length_nil]
theorem idB_ahead {l : List UInt8} (c : UInt8) (hc : small c = false) : idB (c :: l) = false := by
  simp only [idB, hc, Bool.false_and]
end Sc
theorem ScalarNames (s : ByteArray) (hs : s.size ≤ 140737488351232) (a1 : Int) (w1 : (Lit.int .u8 a1).wf = true) (a2 : Int) (w2 : (Lit.int .u8 a2).wf = true) : ∃ k, tollbarlaw06_ScalarNames.f k s a1 a2 = some true := by
  have hx1 : 0 ≤ a1 ∧ a1 ≤ 255 := by simpa [Lit.wf, IntKind.min, IntKind.max, IntKind.signed, IntKind.bits] using w1
  have hx2 : 0 ≤ a2 ∧ a2 ≤ 255 := by simpa [Lit.wf, IntKind.min, IntKind.max, IntKind.signed, IntKind.bits] using w2
  obtain ⟨at_, rfl⟩ := Int.eq_ofNat_of_zero_le hx1.1
  obtain ⟨n, rfl⟩ := Int.eq_ofNat_of_zero_le hx2.1
  obtain ⟨l, rfl⟩ := as_list s
  have hs' := hs
  rw [sized] at hs'
  refine ⟨2, ?_⟩
  unfold tollbarlaw06_ScalarNames.f
  rw [awake]; simp only [Option.bind_some, if_true]
  by_cases h : ((⟨l.toArray⟩ : ByteArray).size : Int) > 300
  · rw [if_pos h]; simp only [tollbarlaw06_ScalarNames.j0, if_true]
  rw [if_neg h, my_ident _ hs, data_of]; simp only [Option.bind_some]
  cases hid : idB l with
  | false => simp only [tollbarlaw06_ScalarNames.j0, Bool.not_false, if_true]
  | true =>
    have hlen := idB_len hid
    have e1 : strOfNums [(n : Int)] = ⟨[UInt8.ofNat n].toArray⟩ := strOf_one n
    have e2 : (⟨l.toArray⟩ : ByteArray) ++ ⟨[UInt8.ofNat n].toArray⟩ = ⟨(l ++ [UInt8.ofNat n]).toArray⟩ := mk_append _ _
    have hn : (UInt8.ofNat n).toNat = n := byte_nat (by omega)
    generalize UInt8.ofNat n = c at e1 e2 hn
    -- the place
    have hp : wrap64 (Int.tmod (wrap64 (at_ : Int)) (((⟨l.toArray⟩ : ByteArray).size : Nat) : Int) + 1) = ((at_ % l.length + 1 : Nat) : Int) := by
      have hw : wrap64 (at_ : Int) = (at_ : Int) := by unfold wrap64; omega
      rw [hw, sized, Int.tmod_eq_emod_of_nonneg (by omega)]
      have := Nat.mod_lt at_ (show 0 < l.length by omega)
      have e : ((at_ : Int) % (l.length : Int)) = ((at_ % l.length : Nat) : Int) := by omega
      rw [e]; unfold wrap64; omega
    have hk0 := Nat.mod_lt at_ (show 0 < l.length by omega)
    have hk : 1 ≤ at_ % l.length + 1 ∧ at_ % l.length + 1 ≤ l.length := by omega
    generalize at_ % l.length + 1 = p at hp hk
    have ef : (⟨l.toArray⟩ : ByteArray).extract 0 p = ⟨(l.take p).toArray⟩ := by
      apply toList_inj
      rw [extract_toList, toList_mk, data_of]; simp
    have ea : (⟨#[45]⟩ : ByteArray) ++ ⟨l.toArray⟩ = ⟨(45 :: l).toArray⟩ := mk_append [45] l
    have eb : (⟨#[55]⟩ : ByteArray) ++ ⟨l.toArray⟩ = ⟨(55 :: l).toArray⟩ := mk_append [55] l
    have ec : (⟨l.toArray⟩ : ByteArray) ++ ⟨#[65]⟩ = ⟨(l ++ [65]).toArray⟩ := mk_append l [65]
    have id : ∀ m : List UInt8, m.length ≤ 1000 → scalar_Ident.f ⟨m.toArray⟩ = some (idB m) := fun m hm => by
      rw [my_ident _ (by rw [sized]; omega), data_of]
    have hA : idB (l ++ [65]) = false := by rw [idB_more hid]; rfl
    have i1 : scalar_Ident.f ⟨(l.take p).toArray⟩ = some true := by rw [id _ (by rw [List.length_take]; omega), idB_front hid p hk.1]
    have i2 : scalar_Ident.f ⟨(l ++ [c]).toArray⟩ = some (okc c && decide (l.length < 12)) := by rw [id _ (by rw [List.length_append, List.length_singleton]; omega), idB_more hid]
    have i3 : scalar_Ident.f ⟨(45 :: l).toArray⟩ = some false := by rw [id _ (by rw [List.length_cons]; omega), idB_ahead 45 (by decide)]
    have i4 : scalar_Ident.f ⟨(55 :: l).toArray⟩ = some false := by rw [id _ (by rw [List.length_cons]; omega), idB_ahead 55 (by decide)]
    have i5 : scalar_Ident.f ⟨(l ++ [65]).toArray⟩ = some false := by rw [id _ (by rw [List.length_append, List.length_singleton]; omega), hA]
    have d12 : decide ((l.length : Int) < 12) = decide (l.length < 12) := by rw [decide_eq_decide]; omega
    have dle : decide ((l.length : Int) ≤ 12) = true := by rw [decide_eq_true_eq]; omega
    have hj : ∀ sign : Bool, okc c = sign → tollbarlaw06_ScalarNames.j1 1 ⟨l.toArray⟩ (p : Int) ⟨(l ++ [c]).toArray⟩ sign = some true := by
      intro sign hsg
      simp only [tollbarlaw06_ScalarNames.j1]
      rw [if_pos (by omega), if_pos (by rw [sized]; omega), Int.toNat_natCast, ef, i1]
      simp only [Option.bind_some, if_true]
      rw [i2, hsg, ea, eb, ec, i3, i4, i5, sized, d12, dle]
      simp only [Option.bind_some]
      cases sign with
      | true =>
        rw [if_pos rfl, if_pos (by simp), if_pos (by omega), if_neg (by decide), if_neg (by decide), if_pos (by omega), if_neg (by decide)]
      | false =>
        rw [if_neg (by decide), if_pos (by simp), if_pos (by omega), if_neg (by decide), if_neg (by decide), if_pos (by omega), if_neg (by decide)]
    simp only [tollbarlaw06_ScalarNames.j0]
    rw [if_neg (by decide), if_neg (by rw [sized]; omega)]
    simp only [Option.bind_some]
    rw [e1, if_pos (by rw [sized, sized, List.length_singleton]; omega), e2, hp]
    have ok : okc c = decide ((97 ≤ n ∧ n ≤ 122) ∨ n = 45 ∨ (48 ≤ n ∧ n ≤ 57)) := by unfold okc; rw [hn]
    have ok45 : ¬ (97 ≤ n ∧ n ≤ 122) → ¬ (48 ≤ n ∧ n ≤ 57) → okc c = ((n : Int) == 45) := fun h1 h2 => by
      rw [ok, Bool.eq_iff_iff, decide_eq_true_eq, beq_iff_eq]; omega
    by_cases k1 : (n : Int) ≥ 97
    · rw [if_pos k1]
      by_cases k2 : (n : Int) ≤ 122
      · rw [if_pos k2]; exact hj true (by rw [ok, decide_eq_true_eq]; omega)
      · rw [if_neg k2, if_pos (by omega), if_neg (by omega)]; exact hj _ (ok45 (by omega) (by omega))
    · rw [if_neg k1]
      by_cases k3 : (n : Int) ≥ 48
      · rw [if_pos k3]
        by_cases k4 : (n : Int) ≤ 57
        · rw [if_pos k4]; exact hj true (by rw [ok, decide_eq_true_eq]; omega)
        · rw [if_neg k4]; exact hj _ (ok45 (by omega) (by omega))
      · rw [if_neg k3]; exact hj _ (ok45 (by omega) (by omega))
end Go.Proofs.YtdlkjcginamemaaDoor.Pure
