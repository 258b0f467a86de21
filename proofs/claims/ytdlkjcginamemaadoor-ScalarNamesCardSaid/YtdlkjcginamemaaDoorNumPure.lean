/- Plain laws of decimal numerals: what is parsed of a numeral is its number. No program in sight. -/
import Derived.Test.YtdlkjcginamemaaDoorScalarRate
namespace Go.Proofs.YtdlkjcginamemaaDoor.Num
open Go.Lib Go.Proofs.YtdlkjcginamemaaDoor.Scalar
theorem dec_small {u : Nat} (h : u < 10) : decDigits u = [UInt8.ofNat (48 + u)] := by rw [decDigits, dif_pos h]
theorem dec_big {u : Nat} (h : ¬ u < 10) : decDigits u = decDigits (u / 10) ++ [UInt8.ofNat (48 + u % 10)] := by rw [decDigits, dif_neg h]
theorem dec_ne (u : Nat) : decDigits u ≠ [] := by
  by_cases h : u < 10
  · rw [dec_small h]; simp
  · rw [dec_big h]; simp
theorem byte_nat {n : Nat} (h : n < 256) : (UInt8.ofNat n).toNat = n := by
  simp [UInt8.toNat_ofNat']; omega
theorem parse_snoc (M : Nat) (c : UInt8) : ∀ (l : List UInt8) (acc v : Nat), parseUintM M acc l = .ok v → 48 ≤ c.toNat → c.toNat ≤ 57 → v < 1844674407370955162 → v * 10 + (c.toNat - 48) ≤ M → parseUintM M acc (l ++ [c]) = .ok (v * 10 + (c.toNat - 48))
  | [], acc, v, h, h1, h2, h3, h4 => by
    simp only [parseUintM] at h
    cases h
    simp only [List.nil_append, parseUintM]
    rw [if_pos ⟨h1, h2⟩, if_neg (by omega), if_neg (by omega)]
  | b :: l, acc, v, h, h1, h2, h3, h4 => by
    simp only [parseUintM] at h
    simp only [List.cons_append, parseUintM]
    split at h
    · rename_i hb
      rw [if_pos hb]
      split at h
      · cases h
      · rename_i hr
        rw [if_neg hr]
        split at h
        · cases h
        · rename_i hq
          rw [if_neg hq]
          exact parse_snoc M c l _ v h h1 h2 h3 h4
    · cases h
theorem parse_dec (u : Nat) (hu : u ≤ 18446744073709551615) : parseUintM 18446744073709551615 0 (decDigits u) = .ok u := by
  induction u using Nat.strongRecOn with
  | _ u ih =>
    by_cases h : u < 10
    · rw [dec_small h]
      have hb := byte_nat (n := 48 + u) (by omega)
      simp only [parseUintM, hb]
      rw [if_pos (by omega), if_neg (by omega), if_neg (by omega)]
      congr 1; omega
    · rw [dec_big h]
      have hb := byte_nat (n := 48 + u % 10) (by omega)
      have := parse_snoc 18446744073709551615 (UInt8.ofNat (48 + u % 10)) (decDigits (u / 10)) 0 (u / 10) (ih (u / 10) (by omega) (by omega)) (by omega) (by omega) (by omega) (by omega)
      rw [this, hb]
      congr 1; omega
theorem uintV_dec (u : Nat) (hu : u < 18446744073709551616) : uintV ⟨(decDigits u).toArray⟩ = some u := by
  have hp : parseUintB 64 (⟨(decDigits u).toArray⟩ : ByteArray).data.toList = .ok u := by
    show parseUintB 64 (decDigits u) = .ok u
    unfold parseUintB
    rw [if_neg (dec_ne u)]
    exact parse_dec u (by omega)
  unfold uintV
  rw [hp]
  simp
theorem uintV_eq {s : ByteArray} {u : Nat} (h : uintV s = some u) : s = ⟨(decDigits u).toArray⟩ := by
  unfold uintV at h
  split at h
  · rename_i v hv
    split at h
    · rename_i hq; cases h; exact hq
    · cases h
  · cases h
theorem uintV_none {s : ByteArray} (h : uintV s = none) (u : Nat) (hu : u < 18446744073709551616) : s ≠ ⟨(decDigits u).toArray⟩ := by
  rintro rfl
  rw [uintV_dec u hu] at h
  cases h
/-- Each byte of a numeral is a digit. -/
theorem dec_digits (u : Nat) : ∀ c ∈ decDigits u, 48 ≤ c.toNat ∧ c.toNat ≤ 57 := by
  induction u using Nat.strongRecOn with
  | _ u ih =>
    by_cases h : u < 10
    · rw [dec_small h]
      intro c hc
      rw [List.mem_singleton.1 hc, byte_nat (by omega)]; omega
    · rw [dec_big h]
      intro c hc
      rcases List.mem_append.1 hc with hc | hc
      · exact ih (u / 10) (by omega) c hc
      · rw [List.mem_singleton.1 hc, byte_nat (by omega)]; omega
/-- The number that the reference's loop makes of digits. -/
def stepU (a c : Nat) : Nat := (18446744073709551568 + (10 * a + c)) % 18446744073709551616
theorem stepU_eq (a c : Nat) : stepU a c = (18446744073709551568 + (10 * a + c)) % 18446744073709551616 := by unfold stepU; rfl
theorem stepU_lt (a c : Nat) : stepU a c < 18446744073709551616 := by rw [stepU_eq]; omega
attribute [irreducible] stepU
theorem stepU_digit {a d : Nat} (hd : d < 10) (h : 10 * a + d < 18446744073709551616) : stepU a (48 + d) = 10 * a + d := by rw [stepU_eq]; omega
def fold (acc : Nat) (l : List UInt8) : Nat := l.foldl (fun a c => stepU a c.toNat) acc
theorem fold_nil (acc : Nat) : fold acc [] = acc := by unfold fold; rw [List.foldl_nil]
theorem fold_snoc (acc : Nat) (l : List UInt8) (c : UInt8) : fold acc (l ++ [c]) = stepU (fold acc l) c.toNat := by
  unfold fold; rw [List.foldl_append, List.foldl_cons, List.foldl_nil]
attribute [irreducible] fold
theorem fold_dec (u : Nat) (hu : u < 18446744073709551616) : fold 0 (decDigits u) = u := by
  induction u using Nat.strongRecOn with
  | _ u ih =>
    by_cases h : u < 10
    · rw [dec_small h, show [UInt8.ofNat (48 + u)] = [] ++ [UInt8.ofNat (48 + u)] by rw [List.nil_append], fold_snoc, fold_nil, byte_nat (by omega), stepU_digit h (by omega)]
      omega
    · rw [dec_big h, fold_snoc, ih (u / 10) (by omega) (by omega), byte_nat (by omega), stepU_digit (by omega) (by omega)]
      omega
theorem len_mono {a b : Nat} (h : a ≤ b) : nDigits a ≤ nDigits b := by
  induction b using Nat.strongRecOn generalizing a with
  | _ b ih =>
    by_cases ha : a < 10
    · rw [nDigits_small ha]; exact nDigits_pos b
    · rw [nDigits_big ha, nDigits_big (show ¬ b < 10 by omega)]
      have := ih (b / 10) (by omega) (a := a / 10) (by omega)
      omega
theorem len_le {u : Nat} (hu : u < 18446744073709551616) : nDigits u ≤ 20 := by
  rcases Nat.eq_zero_or_pos u with rfl | h1
  · rw [nDigits_small (by omega)]; omega
  · have := numDigits_eq u h1 hu; split at this <;> omega
theorem len_cut {y m : Nat} (hm : 10 ≤ m) (hy : 10 ≤ y) : nDigits (y / m) + 1 ≤ nDigits y := by
  rw [nDigits_big (show ¬ y < 10 by omega)]
  have : y / m ≤ y / 10 := Nat.div_le_div_left hm (by omega)
  have := len_mono this
  omega
end Go.Proofs.YtdlkjcginamemaaDoor.Num
