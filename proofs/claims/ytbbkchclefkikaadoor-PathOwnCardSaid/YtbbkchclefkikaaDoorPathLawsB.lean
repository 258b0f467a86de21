/- What is parsed is shown as the very text; a way that is one step longer begins with it. -/
import Derived.Test.YtbbkchclefkikaaDoorPathPureC
import Derived.Test.YtbbkchclefkikaaDoorQPathx12
namespace Go.Proofs.YtbbkchclefkikaaDoor.Pure
open Go.RowKit Go.Lib Go.Proofs.YtbbkchclefkikaaDoor.QPath Go.Proofs.YtbbkchclefkikaaDoorW.PrintWords Go.Proofs.YtbbkchclefkikaaDoorW.PrintLast
set_option linter.unusedVariables false
set_option linter.unusedSimpArgs false
namespace Sc
theorem idB_len {l : List UInt8} (h : idB l = true) : 1 ≤ l.length ∧ l.length ≤ 12 := by
  cases l with
  | nil => cases h
  | cons c r =>
    simp only [idB, Bool.and_eq_true, decide_eq_true_eq] at h
    rw [List.length_cons]
    omega
theorem parseP_err : ∀ (f : Nat) (acc : List S46) (l : List UInt8) (e : Int) (r : List UInt8), parseP f acc l = .inr (e, r) → e ≠ 0 ∧ r.length ≤ l.length
  | 0, acc, l, e, r, h => by unfold parseP at h; cases h
  | f + 1, acc, l, e, r, h => by
    unfold parseP at h
    cases hs : stepP acc.length l with
    | inl q =>
      rw [hs] at h
      simp only at h
      cases h
      unfold stepP at hs
      cases l with
      | nil => cases hs; exact ⟨by decide, Nat.le_refl _⟩
      | cons c r0 =>
        simp only at hs
        have h3 := dw_le r0
        split at hs
        · split at hs
          · cases hs; exact ⟨by decide, Nat.le_refl _⟩
          · split at hs
            · split at hs
              · cases hs
              · rename_i d r2 hr
                rw [hr, List.length_cons] at h3
                split at hs
                · have h4 := dw_le r2
                  split at hs
                  · split at hs
                    · cases hs; exact ⟨by decide, by simp⟩
                    · rename_i e2 r4 hr2
                      rw [hr2] at h4
                      split at hs
                      · cases hs
                      · cases hs; exact ⟨by decide, by rw [List.length_cons (a := c)]; omega⟩
                  · cases hs; exact ⟨by decide, by rw [List.length_cons]; omega⟩
                · cases hs
            · cases hs; exact ⟨by decide, by rw [List.length_cons]; omega⟩
        · cases hs; exact ⟨by decide, Nat.le_refl _⟩
    | inr x =>
      obtain ⟨x, r'⟩ := x
      rw [hs] at h
      simp only at h
      have hlt := stepP_lt hs
      split at h
      · cases h
      · have := parseP_err f _ _ _ _ h
        exact ⟨this.1, by omega⟩
theorem stepP_shows {n : Nat} {l : List UInt8} {x : S46} {r : List UInt8} (h : stepP n l = .inr (x, r)) : l = stepB x ++ r ∧ idB x.f0.data.toList = true ∧ (x.f1.toList = [] ∨ (x.f1.toList ≠ [] ∧ idB x.f1.data.toList = true)) := by
  unfold stepP at h
  cases l with
  | nil => cases h
  | cons c r0 =>
    simp only at h
    split at h
    · rename_i hc
      subst hc
      split at h
      · cases h
      · split at h
        · rename_i hi
          have h3 := List.takeWhile_append_dropWhile (p := okc) (l := r0)
          split at h
          · rename_i hr
            cases h
            rw [hr, List.append_nil] at h3
            refine ⟨?_, ?_, .inl (toList_mk [])⟩
            · unfold stepB
              rw [if_pos (toList_mk []), data_of, List.append_nil, List.append_nil, h3]
            · rw [data_of]; exact hi
          · rename_i d r2 hr
            rw [hr] at h3
            split at h
            · rename_i hd
              subst hd
              split at h
              · rename_i hi2
                have h4 := List.takeWhile_append_dropWhile (p := okc) (l := r2)
                split at h
                · cases h
                · rename_i e r4 hr2
                  rw [hr2] at h4
                  split at h
                  · rename_i he
                    subst he
                    cases h
                    have hne : r2.takeWhile okc ≠ [] := fun z => by rw [z] at hi2; cases hi2
                    refine ⟨?_, ?_, .inr ⟨?_, ?_⟩⟩
                    · unfold stepB
                      rw [if_neg (by rw [toList_mk]; exact hne), data_of, data_of]
                      conv => lhs; rw [← h3, ← h4]
                      simp
                    · rw [data_of]; exact hi
                    · rw [toList_mk]; exact hne
                    · rw [data_of]; exact hi2
                  · cases h
              · cases h
            · cases h
              refine ⟨?_, ?_, .inl (toList_mk [])⟩
              · unfold stepB
                rw [if_pos (toList_mk []), data_of, List.append_nil, List.cons_append, h3]
              · rw [data_of]; exact hi
        · cases h
    · cases h
theorem tw_more (t : List UInt8) : ∀ r : List UInt8, (r ++ 47 :: t).takeWhile okc = r.takeWhile okc ∧ (r ++ 47 :: t).dropWhile okc = r.dropWhile okc ++ 47 :: t
  | [] => by
    have : okc 47 = false := by decide
    simp [this]
  | c :: r => by
    have ih := tw_more t r
    rw [List.cons_append, List.takeWhile_cons, List.takeWhile_cons, List.dropWhile_cons, List.dropWhile_cons]
    cases okc c
    · simp
    · simp [ih.1, ih.2]
theorem stepP_more {n : Nat} {l : List UInt8} {x : S46} {r : List UInt8} (t : List UInt8) (h : stepP n l = .inr (x, r)) : stepP n (l ++ 47 :: t) = .inr (x, r ++ 47 :: t) := by
  unfold stepP at h ⊢
  cases l with
  | nil => cases h
  | cons c r0 =>
    rw [List.cons_append]
    simp only at h ⊢
    rw [(tw_more t r0).1, (tw_more t r0).2]
    split at h
    · rename_i hc
      rw [if_pos hc]
      split at h
      · cases h
      · rename_i hn
        rw [if_neg hn]
        split at h
        · rename_i hi
          rw [if_pos hi]
          split at h
          · rename_i hr
            cases h
            rw [hr]
            simp
          · rename_i d r2 hr
            rw [hr, List.cons_append]
            simp only
            split at h
            · rename_i hd
              rw [if_pos hd, (tw_more t r2).1, (tw_more t r2).2]
              split at h
              · rename_i hi2
                rw [if_pos hi2]
                split at h
                · cases h
                · rename_i e r4 hr2
                  rw [hr2, List.cons_append]
                  simp only
                  split at h
                  · rename_i he
                    cases h
                    rw [if_pos he]
                  · cases h
              · cases h
            · rename_i hd
              cases h
              rw [if_neg hd]
              rfl
        · cases h
    · cases h
def upS : S46 := ⟨⟨[117, 112].toArray⟩, ⟨#[]⟩⟩
theorem step_up (n : Nat) : stepP n [47, 117, 112] = if 6 ≤ n then .inl (13, [47, 117, 112]) else .inr (upS, []) := by
  unfold stepP
  by_cases h : 6 ≤ n
  · simp [h]
  · simp only [if_neg h, if_true]
    have e1 : ([117, 112] : List UInt8).takeWhile okc = [117, 112] := by decide
    have e2 : ([117, 112] : List UInt8).dropWhile okc = [] := by decide
    have e3 : idB [117, 112] = true := by decide
    rw [e1, e2, if_pos e3]
    rfl
theorem parseP_up : ∀ (f : Nat) (acc : List S46) (l : List UInt8) (w : List S46), l.length < f → parseP f acc l = .inl w → ∀ f', (l ++ [47, 117, 112]).length < f' →
    parseP f' acc (l ++ [47, 117, 112]) = if w.length < 6 then .inl (w ++ [upS]) else .inr (13, [47, 117, 112])
  | 0, _, _, _, h, _, _, _ => absurd h (Nat.not_lt_zero _)
  | f + 1, acc, l, w, hf, h, f', hf' => by
    obtain ⟨g, rfl⟩ : ∃ g, f' = g + 1 := ⟨f' - 1, by omega⟩
    unfold parseP at h ⊢
    cases hs : stepP acc.length l with
    | inl q => rw [hs] at h; cases h
    | inr x =>
      obtain ⟨x, r⟩ := x
      rw [hs] at h
      simp only at h
      have hlt := stepP_lt hs
      rw [stepP_more [117, 112] hs]
      simp only
      rw [if_neg (by simp)]
      rw [List.length_append] at hf'
      split at h
      · rename_i hr
        subst hr
        cases h
        rw [List.nil_append]
        obtain ⟨g2, rfl⟩ : ∃ g2, g = g2 + 1 := ⟨g - 1, by simp at hf'; omega⟩
        unfold parseP
        rw [step_up]
        by_cases h6 : (acc ++ [x]).length < 6
        · rw [if_neg (by omega), if_pos h6]
          simp
        · rw [if_pos (by omega), if_neg h6]
      · exact parseP_up f _ _ _ (by omega) h g (by rw [List.length_append]; omega)
theorem parseP_shows : ∀ (f : Nat) (acc : List S46) (l : List UInt8) (w : List S46), l.length < f → parseP f acc l = .inl w →
    ∃ v, w = acc ++ v ∧ v ≠ [] ∧ (v.map stepB).flatten = l ∧ ∀ s ∈ v, idB s.f0.data.toList = true ∧ (s.f1.toList = [] ∨ (s.f1.toList ≠ [] ∧ idB s.f1.data.toList = true))
  | 0, _, _, _, h, _ => absurd h (Nat.not_lt_zero _)
  | f + 1, acc, l, w, hf, h => by
    unfold parseP at h
    cases hs : stepP acc.length l with
    | inl q => rw [hs] at h; cases h
    | inr x =>
      obtain ⟨x, r⟩ := x
      rw [hs] at h
      simp only at h
      have hlt := stepP_lt hs
      obtain ⟨hl, hx⟩ := stepP_shows hs
      split at h
      · rename_i hr
        subst hr
        cases h
        refine ⟨[x], rfl, by simp, ?_, fun s hs => ?_⟩
        · simp [hl]
        · rw [List.mem_singleton.1 hs]; exact hx
      · obtain ⟨v, hv, hn, hb, hall⟩ := parseP_shows f _ _ _ (by omega) h
        refine ⟨x :: v, by rw [hv, List.append_assoc]; rfl, by simp, ?_, fun s hs => ?_⟩
        · rw [List.map_cons, List.flatten_cons, hb, ← hl]
        · rcases List.mem_cons.1 hs with rfl | hs
          · exact hx
          · exact hall s hs
theorem show_go : ∀ (v : List S46) (out : List UInt8), (∀ s ∈ v, idB s.f0.data.toList = true ∧ (s.f1.toList = [] ∨ (s.f1.toList ≠ [] ∧ idB s.f1.data.toList = true))) →
    path_Show.go v out = some ⟨(out ++ (v.map stepB).flatten).toArray⟩
  | [], out, _ => by unfold path_Show.go; simp
  | s :: v, out, h => by
    obtain ⟨h0, h1⟩ := h s List.mem_cons_self
    have ih := show_go v (out ++ stepB s) (fun x hx => h x (List.mem_cons_of_mem _ hx))
    rw [List.append_assoc] at ih
    unfold path_Show.go
    have l0 := idB_len h0
    rw [data_length] at l0
    rw [my_ident _ (by omega), h0]
    simp only [Option.bind_some]
    rw [if_neg (by simp)]
    rcases h1 with h1 | ⟨h1, h2⟩
    · rw [if_pos h1, ih, List.map_cons, List.flatten_cons]
    · have l1 := idB_len h2
      rw [data_length] at l1
      rw [if_neg h1, my_ident _ (by omega), h2]
      simp only [Option.bind_some]
      rw [if_neg (by simp), ih, List.map_cons, List.flatten_cons]
theorem my_show (v : List S46) (hn : v ≠ []) (h6 : v.length ≤ 6) (h : ∀ s ∈ v, idB s.f0.data.toList = true ∧ (s.f1.toList = [] ∨ (s.f1.toList ≠ [] ∧ idB s.f1.data.toList = true))) : path_Show.f v = some ⟨((v.map stepB).flatten).toArray⟩ := by
  unfold path_Show.f
  rw [if_neg hn, if_neg (by omega), show_go v [] h]
  rfl
theorem rd_app (w : List S46) (x : S46) (i : Nat) (h : i < w.length) : rd_T46 (w ++ [x]) (i : Int) = rd_T46 w (i : Int) := by
  unfold rd_T46
  simp only [Int.toNat_natCast, List.getD_eq_getElem?_getD]
  rw [List.getElem?_append_left h]
theorem under_pre (x0 x7 : List S46) (n : Nat) (hn : n ≤ x7.length) (hn0 : n ≤ x0.length) (hx : x7.length ≤ 1000000) (heq : ∀ i : Nat, i < n → rd_T46 x0 (i : Int) = rd_T46 x7 (i : Int)) (r : Bool) (hend : Ev (fun k => path_Under.l0 k x0 x7 (x7.length : Int) (n : Int)) r) (d : Nat) :
    ∀ i : Nat, i ≤ n → n - i = d → Ev (fun k => path_Under.l0 k x0 x7 (x7.length : Int) (i : Int)) r := by
  induction d with
  | zero =>
    intro i hi hd
    have : i = n := by omega
    rw [this]; exact hend
  | succ d ih =>
    intro i hi hd
    have hw1 : wrap64 ((i : Int) + 1) = ((i + 1 : Nat) : Int) := by unfold wrap64; omega
    refine Ev.step (f := fun k => path_Under.l0 k x0 x7 (x7.length : Int) ((i + 1 : Nat) : Int)) (fun k => ?_) (ih (i + 1) (by omega) (by omega))
    simp only [path_Under.l0]
    rw [if_pos (by omega), if_pos (by omega), if_pos (by omega), if_neg (by omega), if_pos (by omega), heq i (by omega), if_neg (by simp), hw1]
theorem under1 (w : List S46) (x : S46) (hw : w.length ≤ 6) : Ev (fun k => path_Under.f k (w ++ [x]) w) true := by
  unfold path_Under.f
  refine under_pre (w ++ [x]) w w.length (Nat.le_refl _) (by rw [List.length_append]; omega) (by omega) (fun i hi => rd_app w x i hi) true ?_ _ 0 (Nat.zero_le _) rfl
  exact Ev.step (f := fun _ => some true) (fun k => by simp only [path_Under.l0]; rw [if_neg (by omega)]) (Ev.now _)
theorem under2 (w : List S46) (x : S46) (hw : w.length ≤ 6) : Ev (fun k => path_Under.f k w (w ++ [x])) false := by
  unfold path_Under.f
  have hl : (w ++ [x]).length = w.length + 1 := by rw [List.length_append]; rfl
  refine under_pre w (w ++ [x]) w.length (by omega) (Nat.le_refl _) (by omega) (fun i hi => (rd_app w x i hi).symm) false ?_ _ 0 (Nat.zero_le _) rfl
  exact Ev.step (f := fun _ => some false) (fun k => by simp only [path_Under.l0]; rw [if_pos (by omega), if_pos (by omega), if_pos (by omega), if_pos (by omega)]) (Ev.now _)
theorem under3 (w : List S46) : Ev (fun k => path_Under.f k w []) true := by
  unfold path_Under.f
  exact Ev.step (f := fun _ => some true) (fun k => by simp only [path_Under.l0]; rw [if_neg (by simp)]) (Ev.now _)
theorem own_j0 (w : List S46) (x : S46) (l : List UInt8) (hw : w.length ≤ 6) (hs : path_Show.f w = some ⟨l.toArray⟩) : Ev (fun k => tollbarlaw15_PathOwn.j0 k ⟨l.toArray⟩ w (w ++ [x]) true) true := by
  refine Ev.step (f := fun k => (path_Under.f k (w ++ [x]) w).bind fun t427 => (if t427 = true then ((path_Under.f k w (w ++ [x])).bind fun t428 => (if t428 = true then (some false) else ((path_Under.f k w ([] : List S46)).bind fun t429 => (if t429 = true then (some true) else (some false))))) else (some false))) (fun k => by simp only [tollbarlaw15_PathOwn.j0]; rw [hs]; simp only [Option.bind_some, if_true]) ?_
  refine Ev.bind (under1 w x hw) ?_
  simp only [if_true]
  refine Ev.bind (under2 w x hw) ?_
  simp only [if_neg (show ¬ false = true by decide)]
  refine Ev.bind (under3 w) ?_
  simp only [if_true]
  exact Ev.now _
end Sc
open Sc
theorem PathOwn (s : ByteArray) (hs : s.size ≤ 140737488351232) (b0 b1 : ByteArray) : ∃ k, tollbarlaw15_PathOwn.f k s b0 b1 = some true := by
  obtain ⟨l, rfl⟩ := as_list s
  by_cases hl : ((⟨l.toArray⟩ : ByteArray).size : Int) > 500
  · exact ⟨0, by unfold tollbarlaw15_PathOwn.f tollbarlaw15_awake.f; simp only [Option.bind_some, if_true]; rw [if_pos hl]⟩
  · apply Ev.rounds
    unfold tollbarlaw15_PathOwn.f tollbarlaw15_awake.f
    simp only [Option.bind_some, if_true, if_neg hl]
    rw [sized] at hl
    have hup : (⟨l.toArray⟩ : ByteArray) ++ (⟨#[47, 117, 112]⟩ : ByteArray) = ⟨(l ++ [47, 117, 112]).toArray⟩ := mk_append l [47, 117, 112]
    refine Ev.bind (my_parse l (by omega)) ?_
    have hfew := pParse_few l
    have hp2 := my_parse (l ++ [47, 117, 112]) (by rw [List.length_append, List.length_cons, List.length_cons, List.length_cons, List.length_nil]; omega)
    by_cases h47 : l = [47]
    · subst h47
      have e1 : pParse [47] = ([], 0, 0) := rfl
      have e2 : pParse ([47] ++ [47, 117, 112]) = ([], 22, 1) := by rfl
      rw [e1]
      simp only [if_true, List.length_nil, hup]
      rw [e2] at hp2
      simp only [if_pos (show (0 : Nat) + 0 < 4398046511104 by decide), List.nil_append, if_pos (show ([] : List S46).length < 4398046511104 by decide), sized]
      simp only [if_pos (show ([47] : List UInt8).length + 3 ≤ 9223372036854775807 by decide)]
      refine Ev.bind hp2 ?_
      have := own_j0 [] ⟨b0, b1⟩ [47] (Nat.zero_le _) rfl
      simp only [if_neg (show ¬ (22 : Int) = 0 by decide), Int.natCast_zero, if_neg (show ¬ (0 : Int) = 6 by decide), if_true, beq_self_eq_true]
      exact this
    · have e1 : pParse l = resP l.length (parseP (l.length + 1) [] l) := by unfold pParse; rw [if_neg h47]
      have h47' : l ++ [47, 117, 112] ≠ [47] := by
        intro z
        have := congrArg List.length z
        simp at this
      have e2 : pParse (l ++ [47, 117, 112]) = resP (l ++ [47, 117, 112]).length (parseP ((l ++ [47, 117, 112]).length + 1) [] (l ++ [47, 117, 112])) := by unfold pParse; rw [if_neg h47']
      cases hP : parseP (l.length + 1) [] l with
      | inr q =>
        obtain ⟨e, r⟩ := q
        obtain ⟨he, hr⟩ := parseP_err _ _ _ _ _ hP
        rw [e1, hP]
        show Ev (fun n => if e = 0 then _ else _) true
        simp only [if_neg he]
        simp only [resP, List.length_nil, sized]
        rw [if_pos (by decide), if_pos (by omega)]
        have : decide (((l.length - r.length : Nat) : Int) ≤ (l.length : Int)) = true := decide_eq_true (by omega)
        rw [this]
        exact Ev.now _
      | inl w =>
        rw [e1, hP] at hfew ⊢
        have hw6 : w.length ≤ 6 := hfew
        obtain ⟨v, hv, hn, hb, hall⟩ := parseP_shows _ _ _ _ (Nat.lt_succ_self _) hP
        rw [List.nil_append] at hv
        subst hv
        have hshow := my_show w hn hw6 hall
        rw [hb] at hshow
        have hlen : w.length ≠ 0 := fun z => hn (List.length_eq_zero_iff.1 z)
        have hPu := parseP_up _ _ _ _ (Nat.lt_succ_self _) hP ((l ++ [47, 117, 112]).length + 1) (Nat.lt_succ_self _)
        rw [hPu] at e2
        rw [e2] at hp2
        have hj := own_j0 w ⟨b0, b1⟩ l hw6 hshow
        simp only [resP, if_true, List.length_nil, List.nil_append, hup, sized]
        simp only [if_pos (show 0 + w.length < 4398046511104 by omega), if_pos (show w.length < 4398046511104 by omega), if_pos (show l.length + 3 ≤ 9223372036854775807 by omega)]
        refine Ev.bind hp2 ?_
        by_cases h6 : w.length < 6
        · simp only [if_pos h6, resP, if_true]
          have hw1 : wrap64 ((w.length : Int) + 1) = ((w.length + 1 : Nat) : Int) := by unfold wrap64; omega
          rw [hw1]
          simp only [List.length_append, List.length_cons, List.length_nil, Nat.zero_add, if_true]
          exact hj
        · simp only [if_neg h6, resP, if_neg (show ¬ (13 : Int) = 0 by decide), if_pos (show (w.length : Int) = 6 by omega), if_true]
          exact hj
end Go.Proofs.YtbbkchclefkikaaDoor.Pure
