/- Rates as texts: the program's answer is the reference's. -/
import Derived.Test.YtdlkjcginamemaaDoorScalarPureA
namespace Go.Proofs.YtdlkjcginamemaaDoor.Pure
open Go.RowKit Go.Lib Go.Proofs.YtdlkjcginamemaaDoor.QScalar Go.Proofs.YtdlkjcginamemaaDoor.Scalar Go.Proofs.YtdlkjcginamemaaDoor.Num Go.Proofs.YtdlkjcginamemaaDoorW.PrintWords Go.Proofs.YtdlkjcginamemaaDoorW.PrintLast
set_option linter.unusedVariables false
set_option linter.unusedSimpArgs false

namespace Sc
/-! ### rates -/
theorem suffix_snoc (m : List UInt8) (c d : UInt8) : hasSuffix (m ++ [c]) [d] = (d == c) := by
  unfold hasSuffix List.isSuffixOf
  simp [List.isPrefixOf]
theorem suffix_nil (d : UInt8) : hasSuffix [] [d] = false := by
  unfold hasSuffix List.isSuffixOf
  simp [List.isPrefixOf]
theorem trim_snoc (m : List UInt8) (c : UInt8) : trimSuffix (m ++ [c]) [c] = m := by
  unfold trimSuffix
  rw [suffix_snoc, if_pos (by simp)]
  simp
def rateT (r : ByteArray) (t : Nat) : Option Nat := match uintV r with | some u => if u * t < 18446744073709551616 then some (u * t) else none | none => none
theorem rateV_nil : rateV ⟨([] : List UInt8).toArray⟩ = rateT ⟨([] : List UInt8).toArray⟩ 1 := by
  unfold rateV rateCut rateT
  rw [data_of, suffix_nil, suffix_nil]; rfl
theorem rateV_m (m : List UInt8) : rateV ⟨(m ++ [109]).toArray⟩ = rateT ⟨m.toArray⟩ 1000000 := by
  unfold rateV rateCut rateT
  rw [data_of, suffix_snoc, trim_snoc]; rfl
theorem rateV_k (m : List UInt8) : rateV ⟨(m ++ [107]).toArray⟩ = rateT ⟨m.toArray⟩ 1000 := by
  unfold rateV rateCut rateT
  rw [data_of, suffix_snoc, suffix_snoc, trim_snoc]; rfl
theorem rateV_n (m : List UInt8) (c : UInt8) (h1 : c ≠ 109) (h2 : c ≠ 107) : rateV ⟨(m ++ [c]).toArray⟩ = rateT ⟨(m ++ [c]).toArray⟩ 1 := by
  unfold rateV rateCut rateT
  have e1 : ((109 : UInt8) == c) = false := by simpa using fun e => h1 e.symm
  have e2 : ((107 : UInt8) == c) = false := by simpa using fun e => h2 e.symm
  rw [data_of, suffix_snoc, suffix_snoc, e1, e2]; rfl
def rateR (s : ByteArray) : Int × Bool := match rateV s with | some u => ((u : Int), true) | none => (0, false)
theorem my_rate (s : ByteArray) (hs : s.size ≤ 140737488351232) : scalar_Rate.f s = some (rateR s) := by
  unfold scalar_Rate.f rateR; rw [if_pos hs]; rfl
theorem extract_front (m : List UInt8) (c : UInt8) : (⟨(m ++ [c]).toArray⟩ : ByteArray).extract 0 m.length = ⟨m.toArray⟩ := by
  apply toList_inj
  rw [extract_toList, toList_mk, data_of]; simp
/-- What follows the number, of a unit. -/
def tailR (t : Nat) (b : Int × Bool) : Option (Int × Bool) := if b.2 = true then (if (t : Int) = 0 then (none) else (if b.1 > (IntKind.u64.wrap (Int.tdiv (18446744073709551615 : Int) t)) then (some (0, false)) else (some (IntKind.u64.wrap (b.1 * t), true)))) else (some (0, false))
theorem tail_ok (r : ByteArray) (t : Nat) (ht : t = 1 ∨ t = 1000 ∨ t = 1000000) : tailR t (uintR r) = some (match rateT r t with | some u => ((u : Int), true) | none => (0, false)) := by
  unfold tailR uintR rateT
  cases hv : uintV r with
  | none => simp
  | some u =>
    have hu := uintV_lt hv
    have hq : IntKind.u64.wrap (Int.tdiv (18446744073709551615 : Int) t) = 18446744073709551615 / (t : Int) := by
      rw [Int.tdiv_eq_ediv_of_nonneg (by omega), IntKind.wrap_u64]
      rcases ht with rfl | rfl | rfl <;> omega
    rw [hq]
    simp only [if_true]
    rw [if_neg (by omega)]
    by_cases hb : u * t < 18446744073709551616
    · have hw : IntKind.u64.wrap ((u : Int) * (t : Int)) = ((u * t : Nat) : Int) := by
        rw [IntKind.wrap_u64]
        rcases ht with rfl | rfl | rfl <;> omega
      rw [if_neg (by rcases ht with rfl | rfl | rfl <;> omega), if_pos hb, hw]
    · rw [if_pos (by rcases ht with rfl | rfl | rfl <;> omega), if_neg hb]
theorem ev_tail (r : ByteArray) (hr : r.size ≤ 140737488351232) (t : Nat) (ht : t = 1 ∨ t = 1000 ∨ t = 1000000) :
    Ev (fun k => (tollbarref06_Uint.f k r).bind fun b => tailR t b) (match rateT r t with | some u => ((u : Int), true) | none => (0, false)) := by
  refine Ev.bind (ref_uint r hr) ?_
  rw [tail_ok r t ht]
  exact Ev.now _
theorem size_snoc (m : List UInt8) (c : UInt8) (hs : (⟨(m ++ [c]).toArray⟩ : ByteArray).size ≤ 140737488351232) : wrap64 (((⟨(m ++ [c]).toArray⟩ : ByteArray).size : Int) - 1) = (m.length : Int) := by
  rw [sized] at hs ⊢
  rw [List.length_append] at hs ⊢
  unfold wrap64
  simp only [List.length_singleton] at hs ⊢
  omega
theorem bt_last (m : List UInt8) (c : UInt8) : bt ⟨(m ++ [c]).toArray⟩ (m.length : Int) = (c.toNat : Int) := by
  rw [bt_list _ _ (by simp)]; simp
theorem j3_unit (m : List UInt8) (c : UInt8) (hs : (⟨(m ++ [c]).toArray⟩ : ByteArray).size ≤ 140737488351232) (t : Nat) (ht : t = 1000 ∨ t = 1000000) :
    Ev (fun k => tollbarref06_Rate.j3 k ⟨(m ++ [c]).toArray⟩ t) (match rateT ⟨m.toArray⟩ t with | some u => ((u : Int), true) | none => (0, false)) := by
  have hz := size_snoc m c hs
  have hs' := hs
  rw [sized, List.length_append, List.length_singleton] at hs'
  refine Ev.step (f := fun k => (tollbarref06_Uint.f k ⟨m.toArray⟩).bind fun b => tailR t b) (fun k => ?_) (ev_tail ⟨m.toArray⟩ (by rw [sized]; omega) t (.inr ht))
  simp only [tollbarref06_Rate.j3, tailR]
  rw [if_pos (by omega), hz, if_pos (by omega), if_pos (by rw [sized, List.length_append]; omega), Int.toNat_natCast, extract_front]
theorem j3_one (s : ByteArray) (hs : s.size ≤ 140737488351232) :
    Ev (fun k => tollbarref06_Rate.j3 k s ((1 : Nat) : Int)) (match rateT s 1 with | some u => ((u : Int), true) | none => (0, false)) := by
  refine Ev.step (f := fun k => (tollbarref06_Uint.f k s).bind fun b => tailR 1 b) (fun k => ?_) (ev_tail s hs 1 (.inl rfl))
  simp only [tollbarref06_Rate.j3, tailR]
  rw [if_neg (by omega)]
theorem ref_rate (s : ByteArray) (hs : s.size ≤ 140737488351232) : Ev (fun k => tollbarref06_Rate.f k s) (rateR s) := by
  obtain ⟨l, rfl⟩ := as_list s
  rcases List.eq_nil_or_concat l with rfl | ⟨m, c, rfl⟩
  · unfold rateR
    rw [rateV_nil]
    refine Ev.congr (f := fun k => tollbarref06_Rate.j0 k ⟨([] : List UInt8).toArray⟩ 1 false) (fun k => ?_) ?_
    · unfold tollbarref06_Rate.f; rw [if_pos (toList_mk _)]
    refine Ev.step (f := fun k => tollbarref06_Rate.j1 k ⟨([] : List UInt8).toArray⟩ 1) (fun k => by simp only [tollbarref06_Rate.j0]; rw [if_neg (by decide)]) ?_
    refine Ev.step (f := fun k => tollbarref06_Rate.j2 k ⟨([] : List UInt8).toArray⟩ 1 false) (fun k => by simp only [tollbarref06_Rate.j1]; rw [if_pos (toList_mk _)]) ?_
    refine Ev.step (f := fun k => tollbarref06_Rate.j3 k ⟨([] : List UInt8).toArray⟩ 1) (fun k => by simp only [tollbarref06_Rate.j2]; rw [if_neg (by decide)]) ?_
    exact j3_one _ hs
  · rw [List.concat_eq_append] at hs ⊢
    have hz := size_snoc m c hs
    have hne : ¬ (⟨(m ++ [c]).toArray⟩ : ByteArray).toList = ([] : List UInt8) := by rw [toList_mk]; simp
    have h1 : (0 : Int) ≤ (m.length : Int) := by omega
    have h2 : (m.length : Int) < ((⟨(m ++ [c]).toArray⟩ : ByteArray).size : Int) := by rw [sized, List.length_append]; simp only [List.length_singleton]; omega
    have hc : c.toNat < 256 := c.toNat_lt
    refine Ev.congr (f := fun k => tollbarref06_Rate.j0 k ⟨(m ++ [c]).toArray⟩ 1 (((c.toNat : Int)) == 107)) (fun k => ?_) ?_
    · unfold tollbarref06_Rate.f; rw [if_neg hne, hz, if_pos h1, if_pos h2, bt_last]
    have hj1 : ∀ x, Ev (fun k => tollbarref06_Rate.j2 k ⟨(m ++ [c]).toArray⟩ x (((c.toNat : Int)) == 109)) (rateR ⟨(m ++ [c]).toArray⟩) → Ev (fun k => tollbarref06_Rate.j1 k ⟨(m ++ [c]).toArray⟩ x) (rateR ⟨(m ++ [c]).toArray⟩) := fun x h => by
      refine Ev.step (fun k => ?_) h
      simp only [tollbarref06_Rate.j1]; rw [if_neg hne, hz, if_pos h1, if_pos h2, bt_last]
    by_cases hk : c = 107
    · subst hk
      refine Ev.step (f := fun k => tollbarref06_Rate.j1 k ⟨(m ++ [107]).toArray⟩ 1000) (fun k => by simp only [tollbarref06_Rate.j0]; rw [if_pos (by decide)]) ?_
      refine hj1 _ ?_
      refine Ev.step (f := fun k => tollbarref06_Rate.j3 k ⟨(m ++ [107]).toArray⟩ 1000) (fun k => by simp only [tollbarref06_Rate.j2]; rw [if_neg (by decide)]) ?_
      have := j3_unit m 107 hs 1000 (.inl rfl)
      unfold rateR; rw [rateV_k]; exact this
    · have hk' : (((c.toNat : Int)) == 107) = false := by
        rw [beq_eq_false_iff_ne]; intro e; exact hk (UInt8.toNat_inj.1 (by rw [show (107 : UInt8).toNat = 107 from rfl]; omega))
      refine Ev.step (f := fun k => tollbarref06_Rate.j1 k ⟨(m ++ [c]).toArray⟩ 1) (fun k => by simp only [tollbarref06_Rate.j0]; rw [hk', if_neg (by decide)]) ?_
      refine hj1 _ ?_
      by_cases hm : c = 109
      · subst hm
        refine Ev.step (f := fun k => tollbarref06_Rate.j3 k ⟨(m ++ [109]).toArray⟩ 1000000) (fun k => by simp only [tollbarref06_Rate.j2]; rw [if_pos (by decide)]) ?_
        have := j3_unit m 109 hs 1000000 (.inr rfl)
        unfold rateR; rw [rateV_m]; exact this
      · have hm' : (((c.toNat : Int)) == 109) = false := by
          rw [beq_eq_false_iff_ne]; intro e; exact hm (UInt8.toNat_inj.1 (by rw [show (109 : UInt8).toNat = 109 from rfl]; omega))
        refine Ev.step (f := fun k => tollbarref06_Rate.j3 k ⟨(m ++ [c]).toArray⟩ 1) (fun k => by simp only [tollbarref06_Rate.j2]; rw [hm', if_neg (by decide)]) ?_
        unfold rateR; rw [rateV_n m c hm hk]; exact j3_one _ hs
end Sc
end Go.Proofs.YtdlkjcginamemaaDoor.Pure
