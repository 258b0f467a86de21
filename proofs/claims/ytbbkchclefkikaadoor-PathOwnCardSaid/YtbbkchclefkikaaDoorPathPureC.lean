/- Ways are short. -/
import Derived.Test.YtbbkchclefkikaaDoorPathPureB
namespace Go.Proofs.YtbbkchclefkikaaDoor.Pure
open Go.RowKit Go.Lib Go.Proofs.YtbbkchclefkikaaDoor.QPath Go.Proofs.YtbbkchclefkikaaDoorW.PrintWords Go.Proofs.YtbbkchclefkikaaDoorW.PrintLast
set_option linter.unusedVariables false
set_option linter.unusedSimpArgs false
namespace Sc
theorem stepP_few {n : Nat} {l : List UInt8} {x : S46} {r : List UInt8} (h : stepP n l = .inr (x, r)) : n < 6 := by
  unfold stepP at h
  cases l with
  | nil => cases h
  | cons c r0 =>
    simp only at h
    split at h
    · split at h
      · cases h
      · omega
    · cases h
theorem parseP_few : ∀ (f : Nat) (acc : List S46) (l : List UInt8) (w : List S46), acc.length ≤ 6 → parseP f acc l = .inl w → w.length ≤ 6
  | 0, acc, l, w, ha, h => by
    unfold parseP at h
    cases h
    exact ha
  | f + 1, acc, l, w, ha, h => by
    unfold parseP at h
    cases hs : stepP acc.length l with
    | inl e => rw [hs] at h; cases h
    | inr x =>
      obtain ⟨x, r⟩ := x
      rw [hs] at h
      have h6 := stepP_few hs
      have ha' : (acc ++ [x]).length ≤ 6 := by rw [List.length_append, List.length_singleton]; omega
      simp only at h
      split at h
      · cases h; exact ha'
      · exact parseP_few f _ _ _ ha' h
theorem pParse_few (l : List UInt8) : (pParse l).1.length ≤ 6 := by
  unfold pParse
  split
  · exact Nat.zero_le _
  · cases h : parseP (l.length + 1) [] l with
    | inl w => exact parseP_few _ _ _ _ (Nat.zero_le _) h
    | inr e => exact Nat.zero_le _
end Sc
end Go.Proofs.YtbbkchclefkikaaDoor.Pure
