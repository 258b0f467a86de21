/- The way of any text is the document's. -/
import Derived.Test.YtbbkchclefkikaaDoorPathPureB
import Derived.Test.YtbbkchclefkikaaDoorQPathx7
namespace Go.Proofs.YtbbkchclefkikaaDoor.Pure
open Go.RowKit Go.Lib Go.Proofs.YtbbkchclefkikaaDoor.QPath Go.Proofs.YtbbkchclefkikaaDoorW.PrintWords Go.Proofs.YtbbkchclefkikaaDoorW.PrintLast
set_option linter.unusedVariables false
set_option linter.unusedSimpArgs false
namespace Sc
theorem stepP_few {n : Nat} {l : List UInt8} {x : S46} {r : List UInt8} (h : stepP n l = .inr (x, r)) : n < 6 := by
  unfold stepP at h
  cases l with
  | nil => cases h
  | cons c r0 =>
    simp only at h
    split at h
    · split at h
      · cases h
      · omega
    · cases h
theorem parseP_few : ∀ (f : Nat) (acc : List S46) (l : List UInt8) (w : List S46), acc.length ≤ 6 → parseP f acc l = .inl w → w.length ≤ 6
  | 0, acc, l, w, ha, h => by
    unfold parseP at h
    cases h
    exact ha
  | f + 1, acc, l, w, ha, h => by
    unfold parseP at h
    cases hs : stepP acc.length l with
    | inl e => rw [hs] at h; cases h
    | inr x =>
      obtain ⟨x, r⟩ := x
      rw [hs] at h
      have h6 := stepP_few hs
      have ha' : (acc ++ [x]).length ≤ 6 := by rw [List.length_append, List.length_singleton]; omega
      simp only at h
      split at h
      · cases h; exact ha'
      · exact parseP_few f _ _ _ ha' h
theorem pParse_few (l : List UInt8) : (pParse l).1.length ≤ 6 := by
  unfold pParse
  split
  · exact Nat.zero_le _
  · cases h : parseP (l.length + 1) [] l with
    | inl w => exact parseP_few _ _ _ _ (Nat.zero_le _) h
    | inr e => exact Nat.zero_le _
theorem steps_l0 (w : List S46) (hw : w.length ≤ 1000000) (d : Nat) : ∀ i : Nat, i ≤ w.length → w.length - i = d → Ev (fun k => tollbarref10_Steps.l0 k w w i) true := by
  induction d with
  | zero =>
    intro i hi hd
    refine Ev.step (f := fun _ => some true) (fun k => ?_) (Ev.now _)
    simp only [tollbarref10_Steps.l0]
    rw [if_neg (by omega)]
  | succ d ih =>
    intro i hi hd
    have hw1 : wrap64 ((i : Int) + 1) = ((i + 1 : Nat) : Int) := by unfold wrap64; omega
    refine Ev.step (f := fun k => tollbarref10_Steps.l0 k w w ((i + 1 : Nat) : Int)) (fun k => ?_) (ih (i + 1) (by omega) (by omega))
    simp only [tollbarref10_Steps.l0]
    rw [if_pos (by omega), if_pos (by omega), if_pos (by omega), if_neg (by simp), hw1]
theorem my_steps (w : List S46) (hw : w.length ≤ 1000000) : Ev (fun k => tollbarref10_Steps.f k w w) true := by
  unfold tollbarref10_Steps.f
  simp only [if_true]
  exact steps_l0 w hw _ 0 (Nat.zero_le _) rfl
end Sc
open Sc
theorem PathTells (s : ByteArray) (hs : s.size ≤ 140737488351232) : ∃ k, tollbarlaw15_PathTells.f k s = some true := by
  obtain ⟨l, rfl⟩ := as_list s
  by_cases hl : ((⟨l.toArray⟩ : ByteArray).size : Int) > 500
  · exact ⟨0, by unfold tollbarlaw15_PathTells.f tollbarlaw15_awake.f; simp only [Option.bind_some, if_true]; rw [if_pos hl]⟩
  · apply Ev.rounds
    unfold tollbarlaw15_PathTells.f tollbarlaw15_awake.f
    simp only [Option.bind_some, if_true, if_neg hl]
    rw [sized] at hl
    refine Ev.bind (my_parse l (by omega)) (Ev.bind (ref_parse l (by omega)) (Ev.bind (my_steps _ (Nat.le_trans (pParse_few l) (by decide))) ?_))
    simp only [if_true, beq_self_eq_true]
    exact Ev.now _
end Go.Proofs.YtbbkchclefkikaaDoor.Pure
