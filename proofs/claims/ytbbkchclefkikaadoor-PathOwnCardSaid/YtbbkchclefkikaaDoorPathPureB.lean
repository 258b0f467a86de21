/- Ways: what the program parses is what the reference does, for every text. -/
import Derived.Test.YtbbkchclefkikaaDoorPathPureA
import Derived.Test.YtbbkchclefkikaaDoorQPathx3
import Derived.Test.YtbbkchclefkikaaDoorQPathx4
import Derived.Test.YtbbkchclefkikaaDoorQPathx6
namespace Go.Proofs.YtbbkchclefkikaaDoor.Pure
open Go.RowKit Go.Lib Go.Proofs.YtbbkchclefkikaaDoor.QPath Go.Proofs.YtbbkchclefkikaaDoorW.PrintWords Go.Proofs.YtbbkchclefkikaaDoorW.PrintLast
set_option linter.unusedVariables false
set_option linter.unusedSimpArgs false
namespace Sc
theorem ext_take (l : List UInt8) (n : Nat) : (⟨l.toArray⟩ : ByteArray).extract 0 n = ⟨(l.take n).toArray⟩ := by
  apply toList_inj
  rw [extract_toList, toList_mk, data_of]; simp
theorem ext_mid (l : List UInt8) (a b : Nat) : (⟨l.toArray⟩ : ByteArray).extract a b = ⟨((l.drop a).take (b - a)).toArray⟩ := by
  apply toList_inj
  rw [extract_toList, toList_mk, data_of]
theorem ext_drop (l : List UInt8) (n : Nat) : (⟨l.toArray⟩ : ByteArray).extract n (⟨l.toArray⟩ : ByteArray).size = ⟨(l.drop n).toArray⟩ := by
  rw [ext_mid, sized, List.take_of_length_le (by simp)]
theorem has_one (c : UInt8) (l : List UInt8) : strings_HasPrefix.f ⟨l.toArray⟩ ⟨#[c]⟩ = some (l.head? == some c) := by
  unfold strings_HasPrefix.f stringslite_HasPrefix.f
  have e1 : ((⟨#[c]⟩ : ByteArray).size : Int) = 1 := rfl
  have e2 : (⟨#[c]⟩ : ByteArray).toList = [c] := toList_mk [c]
  rw [e1, e2, sized]
  cases l with
  | nil => simp
  | cons d r =>
    have h1 : ((d :: r).length : Int) ≥ 1 := by rw [List.length_cons]; omega
    rw [if_pos h1, if_pos (by omega), if_pos (by omega)]
    have e3 : ((1 : Int)).toNat = 1 := rfl
    rw [e3, ext_take, toList_mk]
    simp
theorem cut_one (c : UInt8) (l : List UInt8) : strings_CutPrefix.f ⟨l.toArray⟩ ⟨#[c]⟩ = some (if l.head? = some c then (⟨l.tail.toArray⟩, true) else (⟨l.toArray⟩, false)) := by
  have hp := has_one c l
  unfold strings_HasPrefix.f at hp
  unfold strings_CutPrefix.f stringslite_CutPrefix.f
  have hp' : stringslite_HasPrefix.f ⟨l.toArray⟩ ⟨#[c]⟩ = some (l.head? == some c) := by
    cases hq : stringslite_HasPrefix.f ⟨l.toArray⟩ ⟨#[c]⟩ with
    | none => rw [hq] at hp; cases hp
    | some b => rw [hq] at hp; exact hp
  rw [hp']
  have e1 : ((⟨#[c]⟩ : ByteArray).size : Int) = 1 := rfl
  rw [e1, sized]
  cases l with
  | nil => simp
  | cons d r =>
    have h1 : (1 : Int) ≤ ((d :: r).length : Int) := by rw [List.length_cons]; omega
    by_cases h : d = c
    · subst h
      have e3 : ((1 : Int)).toNat = 1 := rfl
      have := ext_drop (d :: r) 1
      rw [sized] at this
      simp only [List.head?_cons, beq_self_eq_true, Option.bind_some, if_true]
      rw [if_pos (by omega), if_pos h1, e3, this]
      rfl
    · simp [h]
/-- The first error stays. -/
def fl (e a c p : Int) : Int × Int := if e = 0 then (c, p) else (e, a)
theorem my_sign (c : UInt8) (l : List UInt8) (L : Nat) (e a : Int) (hL : L ≤ 140737488351232) (hl : l.length ≤ L) : path_reader_sign.f ⟨l.toArray⟩ L e a ⟨#[c]⟩ = some (if l.head? = some c then (⟨l.tail.toArray⟩, (L : Int), e, a) else (⟨l.toArray⟩, (L : Int), (fl e a 21 ((L - l.length : Nat) : Int)).1, (fl e a 21 ((L - l.length : Nat) : Int)).2)) := by
  unfold path_reader_sign.f
  rw [cut_one]
  by_cases h : l.head? = some c
  · simp [h]
  · have hw : wrap64 ((L : Int) - (l.length : Int)) = ((L - l.length : Nat) : Int) := by unfold wrap64; omega
    simp only [if_neg h, Option.bind_some, path_reader_fail.f, sized, hw, fl]
    by_cases he : e = 0
    · simp [he]
    · simp [he]
theorem my_trim (l : List UInt8) : strings_TrimLeft.f ⟨l.toArray⟩ (⟨#[97, 98, 99, 100, 101, 102, 103, 104, 105, 106, 107, 108, 109, 110, 111, 112, 113, 114, 115, 116, 117, 118, 119, 120, 121, 122, 48, 49, 50, 51, 52, 53, 54, 55, 56, 57, 45]⟩ : ByteArray) = some ⟨(l.dropWhile okc).toArray⟩ := by
  unfold strings_TrimLeft.f
  rw [if_pos (by constructor <;> decide)]
  have e : (fun c => oks.contains c) = okc := funext ok_eq
  rw [data_of]
  show some (⟨(trimLeftS l oks).toArray⟩ : ByteArray) = _
  unfold trimLeftS
  rw [e]
theorem tw_len (l : List UInt8) : (l.takeWhile okc).length + (l.dropWhile okc).length = l.length := by
  have := congrArg List.length (List.takeWhile_append_dropWhile (p := okc) (l := l))
  rwa [List.length_append] at this
theorem take_tw (l : List UInt8) : l.take (l.takeWhile okc).length = l.takeWhile okc := by
  conv => lhs; arg 2; rw [← List.takeWhile_append_dropWhile (p := okc) (l := l)]
  rw [List.take_left']
  rfl
theorem drop_tw (l : List UInt8) : l.drop (l.takeWhile okc).length = l.dropWhile okc := by
  conv => lhs; arg 2; rw [← List.takeWhile_append_dropWhile (p := okc) (l := l)]
  rw [List.drop_left']
  rfl
theorem my_name (l : List UInt8) (L : Nat) (e a : Int) (hL : L ≤ 140737488351232) (hl : l.length ≤ L) : path_reader_name.f ⟨l.toArray⟩ L e a = some (⟨(l.takeWhile okc).toArray⟩, ⟨(l.dropWhile okc).toArray⟩, (L : Int), if idB (l.takeWhile okc) = true then (e, a) else fl e a 22 ((L - l.length : Nat) : Int)) := by
  unfold path_reader_name.f
  have ht := tw_len l
  have hw : wrap64 ((l.length : Int) - ((l.dropWhile okc).length : Int)) = ((l.takeWhile okc).length : Int) := by unfold wrap64; omega
  have hw2 : wrap64 ((L : Int) - (l.length : Int)) = ((L - l.length : Nat) : Int) := by unfold wrap64; omega
  rw [my_trim]
  simp only [Option.bind_some, sized, hw, Int.toNat_natCast, ext_take, take_tw]
  rw [if_pos (by omega), if_pos (by omega), my_ident _ (by rw [sized]; omega), data_of]
  simp only [Option.bind_some]
  by_cases hi : idB (l.takeWhile okc) = true
  · simp [hi]
  · simp only [if_neg hi, path_reader_fail.f, sized, hw2, fl]
    by_cases he : e = 0
    · simp [he]
    · simp [he]
/-- A step, and what stands behind it; else the error, and what stands from there on. -/
def stepP (n : Nat) : List UInt8 → (Int × List UInt8) ⊕ (S46 × List UInt8)
  | [] => .inl (21, [])
  | c :: r => if c = 47 then (if 6 ≤ n then .inl (13, c :: r) else
      if idB (r.takeWhile okc) = true then
        match r.dropWhile okc with
        | [] => .inr (⟨⟨(r.takeWhile okc).toArray⟩, ⟨#[]⟩⟩, [])
        | d :: r2 => if d = 91 then
            (if idB (r2.takeWhile okc) = true then
              match r2.dropWhile okc with
              | [] => .inl (21, [])
              | e :: r4 => if e = 93 then .inr (⟨⟨(r.takeWhile okc).toArray⟩, ⟨(r2.takeWhile okc).toArray⟩⟩, r4) else .inl (21, e :: r4)
            else .inl (22, r2))
          else .inr (⟨⟨(r.takeWhile okc).toArray⟩, ⟨#[]⟩⟩, d :: r2)
      else .inl (22, r)) else .inl (21, c :: r)
/-- What the reader's step leaves. -/
def StepR (L n : Nat) (l : List UInt8) (q : ByteArray × ByteArray × ByteArray × Int × Int × Int) : Prop :=
  match stepP n l with
  | .inr (x, r) => q = (x.f0, x.f1, ⟨r.toArray⟩, (L : Int), 0, 0)
  | .inl (e, r) => e ≠ 0 ∧ ∃ a b c, q = (a, b, c, (L : Int), e, ((L - r.length : Nat) : Int))
theorem dw_le (l : List UInt8) : (l.dropWhile okc).length ≤ l.length := by have := tw_len l; omega
theorem fl_no {e : Int} (h : e ≠ 0) (a c p : Int) : fl e a c p = (e, a) := by unfold fl; rw [if_neg h]
theorem fl_yes (a c p : Int) : fl 0 a c p = (c, p) := by unfold fl; rw [if_pos rfl]
/-- What stands behind the name. -/
def t2 (nm m : ByteArray) (L e a : Int) : Option (ByteArray × ByteArray × ByteArray × Int × Int × Int) := (strings_HasPrefix.f m (⟨#[91]⟩ : ByteArray)).bind fun t135 => (if t135 = true then ((path_reader_sign.f m L e a (⟨#[91]⟩ : ByteArray)).bind fun bt136 => ((path_reader_name.f bt136.1 bt136.2.1 bt136.2.2.1 bt136.2.2.2).bind fun bt140 => ((path_reader_sign.f bt140.2.1 bt140.2.2.1 bt140.2.2.2.1 bt140.2.2.2.2 (⟨#[93]⟩ : ByteArray)).bind fun bt145 => (some (nm, bt140.1, bt145.1, bt145.2.1, bt145.2.2.1, bt145.2.2.2))))) else (some (nm, (⟨#[]⟩ : ByteArray), m, L, e, a)))
theorem j1_eq (k : Nat) (l : ByteArray) (L e a : Int) : path_reader_step.j1 (k + 1) l L e a = (path_reader_sign.f l L e a (⟨#[47]⟩ : ByteArray)).bind fun s => (path_reader_name.f s.1 s.2.1 s.2.2.1 s.2.2.2).bind fun b => t2 b.1 b.2.1 b.2.2.1 b.2.2.2.1 b.2.2.2.2 := rfl
theorem t2_err (nm : ByteArray) (m : List UInt8) (L : Nat) (e a : Int) (he : e ≠ 0) (hL : L ≤ 140737488351232) (hm : m.length ≤ L) : ∃ x y z, t2 nm ⟨m.toArray⟩ L e a = some (x, y, z, (L : Int), e, a) := by
  unfold t2
  rw [has_one]
  simp only [Option.bind_some]
  split
  · rw [my_sign 91 _ L e a hL hm]
    simp only [fl_no he]
    split
    · simp only [Option.bind_some]
      have h2 : m.tail.length ≤ L := by rw [List.length_tail]; omega
      rw [my_name _ L e a hL h2]
      have h3 := dw_le m.tail
      simp only [fl_no he, ite_self, Option.bind_some]
      rw [my_sign 93 _ L e a hL (by omega)]
      simp only [fl_no he]
      split <;> exact ⟨_, _, _, rfl⟩
    · simp only [Option.bind_some]
      rw [my_name _ L e a hL (by omega)]
      have h3 := dw_le m
      simp only [fl_no he, ite_self, Option.bind_some]
      rw [my_sign 93 _ L e a hL (by omega)]
      simp only [fl_no he]
      split <;> exact ⟨_, _, _, rfl⟩
  · exact ⟨_, _, _, rfl⟩
theorem name_err (m : List UInt8) (L : Nat) (e a : Int) (he : e ≠ 0) (hL : L ≤ 140737488351232) (hm : m.length ≤ L) : ∃ x y z, ((path_reader_name.f ⟨m.toArray⟩ L e a).bind fun b => t2 b.1 b.2.1 b.2.2.1 b.2.2.2.1 b.2.2.2.2) = some (x, y, z, (L : Int), e, a) := by
  have h1 := dw_le m
  rw [my_name m L e a hL hm]
  simp only [fl_no he, ite_self, Option.bind_some]
  exact t2_err _ _ L e a he hL (by omega)
/-- Behind an error nothing turns. -/
theorem j1_err (k : Nat) (l : List UInt8) (L : Nat) (e a : Int) (he : e ≠ 0) (hL : L ≤ 140737488351232) (hl : l.length ≤ L) : ∃ x y z, path_reader_step.j1 (k + 1) ⟨l.toArray⟩ L e a = some (x, y, z, (L : Int), e, a) := by
  rw [j1_eq, my_sign 47 l L e a hL hl]
  simp only [fl_no he]
  split
  · exact name_err l.tail L e a he hL (by rw [List.length_tail]; omega)
  · exact name_err l L e a he hL hl
def T2R (nm : ByteArray) (L : Nat) (q : ByteArray × ByteArray × ByteArray × Int × Int × Int) : List UInt8 → Prop
  | [] => q = (nm, ⟨#[]⟩, ⟨([] : List UInt8).toArray⟩, (L : Int), 0, 0)
  | d :: r2 => if d = 91 then (if idB (r2.takeWhile okc) = true then
      (match r2.dropWhile okc with
        | [] => ∃ a b c, q = (a, b, c, (L : Int), 21, (L : Int))
        | e :: r4 => if e = 93 then q = (nm, ⟨(r2.takeWhile okc).toArray⟩, ⟨r4.toArray⟩, (L : Int), 0, 0) else ∃ a b c, q = (a, b, c, (L : Int), 21, ((L - (e :: r4).length : Nat) : Int)))
      else ∃ a b c, q = (a, b, c, (L : Int), 22, ((L - r2.length : Nat) : Int)))
    else q = (nm, ⟨#[]⟩, ⟨(d :: r2).toArray⟩, (L : Int), 0, 0)
theorem my_t2 (nm : ByteArray) (m : List UInt8) (L : Nat) (hL : L ≤ 140737488351232) (hm : m.length ≤ L) : ∃ q, t2 nm ⟨m.toArray⟩ L 0 0 = some q ∧ T2R nm L q m := by
  unfold t2
  rw [has_one]
  cases m with
  | nil => exact ⟨_, rfl, rfl⟩
  | cons d r2 =>
    unfold T2R
    by_cases hd : d = 91
    · subst hd
      have hb : ((91 :: r2 : List UInt8).head? == some 91) = true := by simp
      rw [hb]
      simp only [Option.bind_some, if_true]
      rw [my_sign 91 _ L 0 0 hL hm]
      simp only [List.head?_cons, if_true, Option.bind_some, List.tail_cons]
      rw [List.length_cons] at hm
      rw [my_name r2 L 0 0 hL (by omega)]
      have h3 := dw_le r2
      by_cases hi : idB (r2.takeWhile okc) = true
      · simp only [if_pos hi, Option.bind_some]
        rw [my_sign 93 _ L 0 0 hL (by omega)]
        cases hr : r2.dropWhile okc with
        | nil => exact ⟨_, rfl, _, _, _, rfl⟩
        | cons e r4 =>
          by_cases he : e = 93
          · subst he
            simp only [List.head?_cons, if_true, Option.bind_some]
            exact ⟨_, rfl, rfl⟩
          · have hh : ¬ ((e :: r4).head? = some 93) := by simp [he]
            rw [if_neg hh]
            exact ⟨_, rfl, by simp only [if_neg he]; exact ⟨_, _, _, rfl⟩⟩
      · simp only [if_neg hi, Option.bind_some, fl_yes]
        rw [my_sign 93 _ L 22 _ hL (by omega)]
        simp only [fl_no (show (22 : Int) ≠ 0 by decide)]
        split <;> exact ⟨_, rfl, _, _, _, rfl⟩
    · have hb : ((d :: r2 : List UInt8).head? == some 91) = false := by simp [hd]
      rw [hb]
      exact ⟨_, rfl, by simp only [if_neg hd]⟩
theorem my_j1 (k : Nat) (l : List UInt8) (L n : Nat) (hn : n < 6) (hL : L ≤ 140737488351232) (hl : l.length ≤ L) : ∃ q, path_reader_step.j1 (k + 1) ⟨l.toArray⟩ L 0 0 = some q ∧ StepR L n l q := by
  rw [j1_eq, my_sign 47 l L 0 0 hL hl]
  cases l with
  | nil =>
    simp only [List.head?_nil, if_neg (show (none : Option UInt8) ≠ some 47 by simp), Option.bind_some, fl_yes]
    obtain ⟨x, y, z, h⟩ := name_err [] L 21 ((L - ([] : List UInt8).length : Nat) : Int) (by decide) hL hl
    exact ⟨_, h, by decide, _, _, _, rfl⟩
  | cons c r =>
    rw [List.length_cons] at hl
    by_cases hc : c = 47
    · subst hc
      simp only [List.head?_cons, if_true, Option.bind_some, List.tail_cons]
      rw [my_name r L 0 0 hL (by omega)]
      have h3 := dw_le r
      by_cases hi : idB (r.takeWhile okc) = true
      · simp only [if_pos hi, Option.bind_some]
        obtain ⟨q, hq, hm⟩ := my_t2 ⟨(r.takeWhile okc).toArray⟩ (r.dropWhile okc) L hL (by omega)
        refine ⟨q, hq, ?_⟩
        unfold StepR stepP
        simp only [if_true, if_neg (show ¬ 6 ≤ n by omega), if_pos hi]
        cases hr : r.dropWhile okc with
        | nil => rw [hr] at hm; exact hm
        | cons d r2 =>
          rw [hr] at hm
          unfold T2R at hm
          by_cases hd : d = 91
          · simp only [if_pos hd] at hm ⊢
            by_cases hi2 : idB (r2.takeWhile okc) = true
            · simp only [if_pos hi2] at hm ⊢
              cases hr2 : r2.dropWhile okc with
              | nil =>
                rw [hr2] at hm
                obtain ⟨a, b, c, h⟩ := hm
                exact ⟨by decide, a, b, c, h⟩
              | cons e r4 =>
                rw [hr2] at hm
                by_cases he : e = 93
                · simp only [if_pos he] at hm ⊢
                  exact hm
                · simp only [if_neg he] at hm ⊢
                  exact ⟨by decide, hm⟩
            · simp only [if_neg hi2] at hm ⊢
              exact ⟨by decide, hm⟩
          · simp only [if_neg hd] at hm ⊢
            exact hm
      · simp only [if_neg hi, Option.bind_some, fl_yes]
        obtain ⟨x, y, z, h⟩ := t2_err ⟨(r.takeWhile okc).toArray⟩ (r.dropWhile okc) L 22 ((L - r.length : Nat) : Int) (by decide) hL (by omega)
        refine ⟨_, h, ?_⟩
        unfold StepR stepP
        simp only [if_true, if_neg (show ¬ 6 ≤ n by omega), if_neg hi]
        exact ⟨by decide, _, _, _, rfl⟩
    · have : (some c : Option UInt8) ≠ some 47 := fun h => hc (Option.some.inj h)
      simp only [List.head?_cons, if_neg this, Option.bind_some, fl_yes]
      obtain ⟨x, y, z, h⟩ := name_err (c :: r) L 21 ((L - (c :: r).length : Nat) : Int) (by decide) hL (by rw [List.length_cons]; omega)
      refine ⟨_, h, ?_⟩
      unfold StepR stepP
      simp only [if_neg hc]
      exact ⟨by decide, _, _, _, rfl⟩
theorem my_step (k : Nat) (l : List UInt8) (L n : Nat) (hL : L ≤ 140737488351232) (hl : l.length ≤ L) : ∃ q, path_reader_step.f (k + 2) ⟨l.toArray⟩ L 0 0 (n : Int) = some q ∧ StepR L n l q := by
  unfold path_reader_step.f
  by_cases hn : n < 6
  · rw [if_neg (by omega)]
    obtain ⟨q, hq, hr⟩ := my_j1 k l L n hn hL hl
    exact ⟨q, hq, hr⟩
  · rw [if_pos (by omega), has_one]
    simp only [Option.bind_some]
    have hw : wrap64 ((L : Int) - (l.length : Int)) = ((L - l.length : Nat) : Int) := by unfold wrap64; omega
    cases l with
    | nil =>
      obtain ⟨q, hq, hr⟩ := my_j1 k [] L 0 (by omega) hL hl
      exact ⟨q, hq, hr⟩
    | cons c r =>
      by_cases hc : c = 47
      · subst hc
        obtain ⟨x, y, z, h⟩ := j1_err k (47 :: r) L 13 ((L - (47 :: r).length : Nat) : Int) (by decide) hL hl
        refine ⟨(x, y, z, (L : Int), 13, ((L - (47 :: r).length : Nat) : Int)), ?_, ?_⟩
        · show path_reader_step.j0 (k + 2) ((47 :: r).head? == some 47) ⟨(47 :: r).toArray⟩ L 0 0 = some (x, y, z, (L : Int), 13, ((L - (47 :: r).length : Nat) : Int))
          simp only [path_reader_step.j0, path_reader_fail.f, List.head?_cons, beq_self_eq_true, if_true, Option.bind_some, sized, hw]
          exact h
        · unfold StepR stepP
          simp only [if_true, if_pos (show 6 ≤ n by omega)]
          exact ⟨by decide, _, _, _, rfl⟩
      · obtain ⟨q, hq, hr⟩ := my_j1 k (c :: r) L 0 (by omega) hL hl
        refine ⟨q, ?_, ?_⟩
        · have : ((c :: r).head? == some 47) = false := by simp [hc]
          rw [this]
          exact hq
        · unfold StepR stepP at hr ⊢
          simp only [if_neg hc] at hr ⊢
          exact hr
theorem stepP_lt {n : Nat} {l : List UInt8} {x : S46} {r : List UInt8} (h : stepP n l = .inr (x, r)) : r.length < l.length := by
  unfold stepP at h
  cases l with
  | nil => cases h
  | cons c r0 =>
    simp only at h
    split at h
    · split at h
      · cases h
      · split at h
        · have h3 := dw_le r0
          split at h
          · cases h; simp
          · rename_i d r2 hr
            rw [hr, List.length_cons] at h3
            split at h
            · split at h
              · have h4 := dw_le r2
                split at h
                · cases h
                · rename_i e r4 hr2
                  rw [hr2, List.length_cons] at h4
                  split at h
                  · cases h; rw [List.length_cons]; omega
                  · cases h
              · cases h
            · cases h; rw [List.length_cons, List.length_cons]; omega
        · cases h
    · cases h
/-- The way of what stands behind acc; else the error and where. -/
def parseP : Nat → List S46 → List UInt8 → (List S46) ⊕ (Int × List UInt8)
  | 0, acc, _ => .inl acc
  | f + 1, acc, l => match stepP acc.length l with
    | .inl e => .inr e
    | .inr (x, r) => if r = [] then .inl (acc ++ [x]) else parseP f (acc ++ [x]) r
def resP (L : Nat) : (List S46) ⊕ (Int × List UInt8) → List S46 × Int × Int
  | .inl w => (w, 0, 0)
  | .inr (e, r) => ([], e, ((L - r.length : Nat) : Int))
def pParse (l : List UInt8) : List S46 × Int × Int := if l = [47] then ([], 0, 0) else resP l.length (parseP (l.length + 1) [] l)
theorem l0_err (acc : List S46) (c : ByteArray) (L e p : Int) (he : e ≠ 0) : Ev (fun k => path_Parse.l0 k acc c L e p) (([] : List S46), e, p) := by
  refine Ev.step (f := fun _ => some (([] : List S46), e, p)) (fun k => ?_) (Ev.now _)
  simp only [path_Parse.l0, if_neg he, ite_self]
theorem step_ev (l : List UInt8) (L n : Nat) (hL : L ≤ 140737488351232) (hl : l.length ≤ L) : ∃ q, Ev (fun k => path_reader_step.f k ⟨l.toArray⟩ L 0 0 (n : Int)) q ∧ StepR L n l q := by
  obtain ⟨q, hq, hr⟩ := my_step 0 l L n hL hl
  exact ⟨q, Ev.of (fun k => path_reader_step.mono _ _ _ _ _ k) hq, hr⟩
theorem my_l0 (L : Nat) (hL : L ≤ 140737488351232) : ∀ (f : Nat) (acc : List S46) (r : List UInt8), r.length < f → r.length ≤ L → acc.length + r.length ≤ 1000000 →
    Ev (fun k => path_Parse.l0 k acc ⟨r.toArray⟩ L 0 0) (resP L (if r = [] then .inl acc else parseP f acc r))
  | 0, _, _, h, _, _ => absurd h (Nat.not_lt_zero _)
  | f + 1, acc, r, h, hr, hb => by
    by_cases hn : r = []
    · subst hn
      rw [if_pos rfl]
      refine Ev.step (f := fun _ => some (acc, 0, 0)) (fun k => ?_) (Ev.now _)
      simp only [path_Parse.l0]
      rw [if_pos (toList_mk []), if_pos trivial]
    · rw [if_neg hn]
      obtain ⟨q, hq, hR⟩ := step_ev r L acc.length hL hr
      have h1 : (⟨r.toArray⟩ : ByteArray).toList ≠ [] := by rw [toList_mk]; exact hn
      refine Ev.step (f := fun k => (path_reader_step.f k ⟨r.toArray⟩ L 0 0 (acc.length : Int)).bind fun bt159 => (if acc.length < 4398046511104 then (path_Parse.l0 k (acc ++ [(⟨bt159.1, bt159.2.1⟩ : S46)]) bt159.2.2.1 bt159.2.2.2.1 bt159.2.2.2.2.1 bt159.2.2.2.2.2) else (none))) (fun k => by simp only [path_Parse.l0, if_neg h1, if_true]) ?_
      refine Ev.bind hq ?_
      simp only [if_pos (show acc.length < 4398046511104 by omega)]
      unfold StepR at hR
      unfold parseP
      cases hs : stepP acc.length r with
      | inl e =>
        obtain ⟨e, r'⟩ := e
        rw [hs] at hR
        obtain ⟨he, a, b, c, rfl⟩ := hR
        exact l0_err _ _ _ _ _ he
      | inr x =>
        obtain ⟨x, r'⟩ := x
        rw [hs] at hR
        simp only at hR
        subst hR
        have hlt := stepP_lt hs
        exact my_l0 L hL f (acc ++ [x]) r' (by omega) (by omega) (by rw [List.length_append, List.length_singleton]; omega)
theorem my_parse (l : List UInt8) (hl : l.length ≤ 100000) : Ev (fun k => path_Parse.f k ⟨l.toArray⟩) (pParse l) := by
  unfold path_Parse.f pParse
  rw [toList_mk]
  by_cases h : l = [47]
  · simp only [if_pos h]
    exact Ev.now _
  · simp only [if_neg h]
    obtain ⟨q, hq, hR⟩ := step_ev l l.length 0 (by omega) (Nat.le_refl _)
    rw [sized]
    refine Ev.bind hq ?_
    unfold StepR at hR
    unfold parseP
    simp only [List.length_nil, List.nil_append]
    cases hs : stepP 0 l with
    | inl e =>
      obtain ⟨e, r'⟩ := e
      rw [hs] at hR
      obtain ⟨he, a, b, c, rfl⟩ := hR
      exact l0_err _ _ _ _ _ he
    | inr x =>
      obtain ⟨x, r'⟩ := x
      rw [hs] at hR
      simp only at hR
      subst hR
      have hlt := stepP_lt hs
      exact my_l0 l.length (by omega) l.length [x] r' hlt (by omega) (by rw [List.length_singleton]; omega)
/-! ### the reference's -/
theorem word_l0 (l : List UInt8) (hl : l.length ≤ 140737488351232) (d : Nat) : ∀ (i : Nat), i ≤ l.length → l.length - i = d →
    Ev (fun k => tollbarref15_word.l0 k ⟨l.toArray⟩ i) ((i + ((l.drop i).takeWhile okc).length : Nat) : Int) := by
  induction d with
  | zero =>
    intro i hi hd
    have c1 : ¬ ((i : Int) < ((⟨l.toArray⟩ : ByteArray).size : Int)) := by rw [sized]; omega
    refine Ev.step (f := fun _ => some (i : Int)) (fun k => by simp only [tollbarref15_word.l0]; rw [if_neg c1]) ?_
    rw [List.drop_of_length_le (by omega)]
    exact Ev.now _
  | succ d ih =>
    intro i hi hd
    have hil : i < l.length := by omega
    have c1 : (i : Int) < ((⟨l.toArray⟩ : ByteArray).size : Int) := by rw [sized]; omega
    have c2 : 0 ≤ (i : Int) := by omega
    have hw : wrap64 ((i : Int) + 1) = ((i + 1 : Nat) : Int) := by unfold wrap64; omega
    have hb : bt ⟨l.toArray⟩ (i : Int) = (l[i].toNat : Int) := bt_list l i hil
    have hdr : l.drop i = l[i] :: l.drop (i + 1) := List.drop_eq_getElem_cons hil
    have next := ih (i + 1) (by omega) (by omega)
    rw [hdr, List.takeWhile_cons]
    generalize l[i] = c at hb
    by_cases hok : okc c = true
    · rw [if_pos hok, List.length_cons]
      have e : i + (((l.drop (i + 1)).takeWhile okc).length + 1) = i + 1 + ((l.drop (i + 1)).takeWhile okc).length := by omega
      rw [e]
      refine Ev.step (f := fun k => tollbarref15_word.l0 k ⟨l.toArray⟩ ((i + 1 : Nat) : Int)) (fun k => ?_) next
      simp only [tollbarref15_word.l0]
      unfold okc at hok
      simp only [decide_eq_true_eq] at hok
      rw [if_pos c1, if_pos c2, hb, hw]
      by_cases k1 : (c.toNat : Int) ≥ 97
      · rw [if_pos k1, if_pos (by omega)]
      · rw [if_neg k1]
        by_cases k2 : (c.toNat : Int) = 45
        · simp only [if_pos k2, ite_self]
        · rw [if_pos (by omega), if_pos (by omega)]
    · rw [if_neg hok]
      refine Ev.step (f := fun _ => some (i : Int)) (fun k => ?_) (Ev.now _)
      simp only [tollbarref15_word.l0]
      unfold okc at hok
      simp only [decide_eq_true_eq] at hok
      rw [if_pos c1, if_pos c2, hb, hw]
      have k2 : ¬ (c.toNat : Int) = 45 := by omega
      simp only [if_neg k2]
      by_cases k1 : (c.toNat : Int) ≥ 97
      · rw [if_pos k1, if_neg (by omega)]
        by_cases k3 : (c.toNat : Int) ≥ 48
        · rw [if_pos k3, if_neg (by omega)]
        · rw [if_neg k3]
      · rw [if_neg k1]
        by_cases k3 : (c.toNat : Int) ≥ 48
        · rw [if_pos k3, if_neg (by omega)]
        · rw [if_neg k3]
theorem ref_word (l : List UInt8) (hl : l.length ≤ 140737488351232) (i : Nat) (hi : i ≤ l.length) : Ev (fun k => tollbarref15_word.f k ⟨l.toArray⟩ i) ((i + ((l.drop i).takeWhile okc).length : Nat) : Int) := word_l0 l hl _ i hi rfl
theorem ref_id (l : List UInt8) (hl : l.length ≤ 140737488351232) : Ev (fun k => tollbarref06_Ident.f k ⟨l.toArray⟩) (idB l) := by
  have := ref_ident ⟨l.toArray⟩ (by rw [sized]; exact hl)
  rwa [data_of] at this
theorem drop_word (l : List UInt8) (i : Nat) : l.drop (i + ((l.drop i).takeWhile okc).length) = (l.drop i).dropWhile okc := by
  rw [← List.drop_drop, drop_tw]
theorem ext_word (l : List UInt8) (i : Nat) : (⟨l.toArray⟩ : ByteArray).extract i (i + ((l.drop i).takeWhile okc).length) = ⟨((l.drop i).takeWhile okc).toArray⟩ := by
  rw [ext_mid, Nat.add_sub_cancel_left, take_tw]
theorem bt_drop {l : List UInt8} {i : Nat} {c : UInt8} {r : List UInt8} (h : l.drop i = c :: r) : bt ⟨l.toArray⟩ (i : Int) = (c.toNat : Int) ∧ i < l.length := by
  have hi : i < l.length := by
    rcases Nat.lt_or_ge i l.length with h' | h'
    · exact h'
    · rw [List.drop_of_length_le h'] at h; cases h
  have hd := List.drop_eq_getElem_cons hi
  rw [h] at hd
  injection hd with h1 h2
  exact ⟨by rw [bt_list l i hi, h1], hi⟩
theorem drop_next {l : List UInt8} {i : Nat} {c : UInt8} {r : List UInt8} (h : l.drop i = c :: r) : l.drop (i + 1) = r := by
  rw [← List.drop_drop, h]; rfl
theorem drop_none {l : List UInt8} {i : Nat} (h : l.drop i = []) (hi : i ≤ l.length) : i = l.length := by
  have := congrArg List.length h
  simp at this; omega
theorem c_eq (c : UInt8) (n : Nat) (hn : n < 256) : ((c.toNat : Int) = (n : Int)) ↔ c = UInt8.ofNat n := by
  constructor
  · intro h
    have : c.toNat = n := by omega
    rw [← this]; simp
  · rintro rfl
    simp; omega
theorem aux1 {a b c d e f : Nat} (h1 : a + 1 < f + 1) (h2 : b + (c + 1) = a) (h3 : d + (e + 1) = c) : e < f := by omega
/-- What the reference has, at a place: the text from there on, by the same steps. -/
theorem ref_l0 (l : List UInt8) (hL : l.length ≤ 100000) : ∀ (f : Nat) (acc : List S46) (i : Nat), (l.drop i).length < f → i ≤ l.length → acc.length ≤ 6 →
    Ev (fun k => tollbarref15_Parse.l0 k ⟨l.toArray⟩ acc i) (resP l.length (if l.drop i = [] ∧ i ≠ 0 then .inl acc else parseP f acc (l.drop i)))
  | 0, _, _, h, _, _ => absurd h (Nat.not_lt_zero _)
  | f + 1, acc, i, hf, hi, ha => by
    by_cases hend : l.drop i = [] ∧ i ≠ 0
    · rw [if_pos hend]
      have hil := drop_none hend.1 hi
      have c1 : ¬ ((i : Int) < ((⟨l.toArray⟩ : ByteArray).size : Int)) := by rw [sized]; omega
      have c2 : ((i : Int) == 0) = false := by simp; exact hend.2
      refine Ev.step (f := fun k => tollbarref15_Parse.j1 k ⟨l.toArray⟩ acc i false) (fun k => by simp only [tollbarref15_Parse.l0]; rw [if_neg c1, c2]) ?_
      exact Ev.step (f := fun _ => some (acc, 0, 0)) (fun k => rfl) (Ev.now _)
    · rw [if_neg hend]
      have h0 : Ev (fun k => tollbarref15_Parse.j1 k ⟨l.toArray⟩ acc i true) (resP l.length (parseP (f + 1) acc (l.drop i))) → Ev (fun k => tollbarref15_Parse.l0 k ⟨l.toArray⟩ acc i) (resP l.length (parseP (f + 1) acc (l.drop i))) := by
        intro h
        refine Ev.step (fun k => ?_) h
        simp only [tollbarref15_Parse.l0]
        by_cases c1 : (i : Int) < ((⟨l.toArray⟩ : ByteArray).size : Int)
        · rw [if_pos c1]
        · rw [if_neg c1]
          rw [sized] at c1
          have : i = 0 := by
            rcases Nat.eq_zero_or_pos i with h | h
            · exact h
            · exact absurd ⟨List.drop_of_length_le (by omega), by omega⟩ hend
          subst this
          rfl
      apply h0
      clear h0 hend
      have hlen : (l.drop i).length = l.length - i := List.length_drop
      have hw : wrap64 ((i : Int) + 1) = ((i + 1 : Nat) : Int) := by unfold wrap64; omega
      cases hd : l.drop i with
      | nil =>
        have hil := drop_none hd hi
        have c1 : (i : Int) ≥ ((⟨l.toArray⟩ : ByteArray).size : Int) := by rw [sized]; omega
        refine Ev.step (f := fun k => tollbarref15_Parse.j2 k ⟨l.toArray⟩ acc i true) (fun k => by simp only [tollbarref15_Parse.j1]; rw [if_pos trivial, if_pos c1]) ?_
        refine Ev.step (f := fun _ => some (([] : List S46), 21, (i : Int))) (fun k => rfl) ?_
        have e : resP l.length (parseP (f + 1) acc []) = (([] : List S46), 21, (i : Int)) := by
          show ([], 21, ((l.length - 0 : Nat) : Int)) = _
          rw [hil]; rfl
        rw [e]; exact Ev.now _
      | cons c r =>
        obtain ⟨hbt, hil⟩ := bt_drop hd
        have hr := drop_next hd
        rw [hd, List.length_cons] at hlen hf
        have c1 : ¬ (i : Int) ≥ ((⟨l.toArray⟩ : ByteArray).size : Int) := by rw [sized]; omega
        have c2 : (i : Int) < ((⟨l.toArray⟩ : ByteArray).size : Int) := by rw [sized]; omega
        refine Ev.step (f := fun k => tollbarref15_Parse.j2 k ⟨l.toArray⟩ acc i ((c.toNat : Int) != 47)) (fun k => by simp only [tollbarref15_Parse.j1]; rw [if_pos trivial, if_neg c1, if_pos (by omega), if_pos c2, hbt]) ?_
        by_cases hc : c = 47
        · subst hc
          by_cases h6 : acc.length = 6
          · refine Ev.step (f := fun _ => some (([] : List S46), 13, (i : Int))) (fun k => by
              show tollbarref15_Parse.j2 (k + 1) _ _ _ false = _
              simp only [tollbarref15_Parse.j2]; rw [if_neg (by simp), if_pos (by omega)]) ?_
            have e : resP l.length (parseP (f + 1) acc (47 :: r)) = (([] : List S46), 13, (i : Int)) := by
              unfold parseP stepP
              simp only [if_true, if_pos (show 6 ≤ acc.length by omega)]
              show ([], 13, ((l.length - (47 :: r).length : Nat) : Int)) = _
              rw [List.length_cons]; congr 2; omega
            rw [e]; exact Ev.now _
          · have hstep : ∀ k, tollbarref15_Parse.j2 (k + 1) ⟨l.toArray⟩ acc i (((47 : UInt8).toNat : Int) != 47) = (tollbarref15_word.f k ⟨l.toArray⟩ ((i + 1 : Nat) : Int)).bind fun t236 => (if 0 ≤ (((i + 1 : Nat) : Int)) then (if (((i + 1 : Nat) : Int)) ≤ t236 then (if t236 ≤ ((⟨l.toArray⟩ : ByteArray).size : Int) then ((tollbarref06_Ident.f k ((⟨l.toArray⟩ : ByteArray).extract (((i + 1 : Nat) : Int)).toNat (t236 : Int).toNat)).bind fun t238 => (if t238 = true then (if t236 < ((⟨l.toArray⟩ : ByteArray).size : Int) then (if 0 ≤ t236 then (tollbarref15_Parse.j3 k ⟨l.toArray⟩ acc t236 ((bt ⟨l.toArray⟩ t236) == 91) ((⟨l.toArray⟩ : ByteArray).extract (((i + 1 : Nat) : Int)).toNat (t236 : Int).toNat) (⟨#[]⟩ : ByteArray)) else (none)) else (tollbarref15_Parse.j3 k ⟨l.toArray⟩ acc t236 false ((⟨l.toArray⟩ : ByteArray).extract (((i + 1 : Nat) : Int)).toNat (t236 : Int).toNat) (⟨#[]⟩ : ByteArray))) else (some (([] : List (S46)), 22, ((i + 1 : Nat) : Int))))) else (none)) else (none)) else (none)) := by
              intro k
              show tollbarref15_Parse.j2 (k + 1) _ _ _ false = _
              simp only [tollbarref15_Parse.j2, hw]
              rw [if_neg (by simp), if_neg (by omega)]
            refine Ev.step hstep ?_
            have hwd := ref_word l (by omega) (i + 1) (by omega)
            rw [hr] at hwd
            refine Ev.bind hwd ?_
            have htl := tw_len r
            have c3 : (((i + 1 : Nat) : Int)) ≤ ((i + 1 + (r.takeWhile okc).length : Nat) : Int) := by omega
            have c4 : ((i + 1 + (r.takeWhile okc).length : Nat) : Int) ≤ ((⟨l.toArray⟩ : ByteArray).size : Int) := by rw [sized]; omega
            have hex : (⟨l.toArray⟩ : ByteArray).extract (i + 1) (i + 1 + (r.takeWhile okc).length) = ⟨(r.takeWhile okc).toArray⟩ := by
              have := ext_word l (i + 1)
              rwa [hr] at this
            simp only [if_pos (show 0 ≤ (((i + 1 : Nat) : Int)) by omega), if_pos c3, if_pos c4, Int.toNat_natCast, hex]
            refine Ev.bind (ref_id _ (by omega)) ?_
            by_cases hi1 : idB (r.takeWhile okc) = true
            · simp only [hi1, if_true]
              have hdw : l.drop (i + 1 + (r.takeWhile okc).length) = r.dropWhile okc := by
                have := drop_word l (i + 1)
                rwa [hr] at this
              cases hr1 : r.dropWhile okc with
              | nil =>
                rw [hr1] at htl hdw
                have c5 : ¬ ((i + 1 + (r.takeWhile okc).length : Nat) : Int) < ((⟨l.toArray⟩ : ByteArray).size : Int) := by rw [sized]; rw [List.length_nil] at htl; omega
                simp only [if_neg c5]
                refine Ev.step (f := fun k => tollbarref15_Parse.l0 k ⟨l.toArray⟩ (acc ++ [(⟨⟨(r.takeWhile okc).toArray⟩, ⟨#[]⟩⟩ : S46)]) ((i + 1 + (r.takeWhile okc).length : Nat) : Int)) (fun k => by simp only [tollbarref15_Parse.j3]; rw [if_neg (by simp), if_pos (by omega)]) ?_
                have ih := ref_l0 l hL f (acc ++ [(⟨⟨(r.takeWhile okc).toArray⟩, ⟨#[]⟩⟩ : S46)]) (i + 1 + (r.takeWhile okc).length) (by rw [hdw, List.length_nil]; omega) (by omega) (by rw [List.length_append, List.length_singleton]; omega)
                rw [if_pos ⟨hdw, by omega⟩] at ih
                have e : parseP (f + 1) acc (47 :: r) = .inl (acc ++ [(⟨⟨(r.takeWhile okc).toArray⟩, ⟨#[]⟩⟩ : S46)]) := by
                  unfold parseP stepP
                  simp only [if_true, if_neg (show ¬ 6 ≤ acc.length by omega), hi1, hr1]
                rw [e]; exact ih
              | cons d r2 =>
                rw [hr1] at htl hdw
                rw [List.length_cons] at htl
                obtain ⟨hbd, hid⟩ := bt_drop hdw
                have hr2 := drop_next hdw
                have c5 : ((i + 1 + (r.takeWhile okc).length : Nat) : Int) < ((⟨l.toArray⟩ : ByteArray).size : Int) := by rw [sized]; omega
                simp only [if_pos c5, if_pos (show 0 ≤ ((i + 1 + (r.takeWhile okc).length : Nat) : Int) by omega), hbd]
                by_cases h91 : d = 91
                · subst h91
                  clear hex hwd hbt hbd hw c1 c2 hstep c3 c4 c5
                  generalize hp : i + 1 + (r.takeWhile okc).length = p at *
                  have hwp : wrap64 ((p : Int) + 1) = ((p + 1 : Nat) : Int) := by unfold wrap64; omega
                  have hstep3 : ∀ k, tollbarref15_Parse.j3 (k + 1) ⟨l.toArray⟩ acc p (((91 : UInt8).toNat : Int) == 91) ⟨(r.takeWhile okc).toArray⟩ ⟨#[]⟩ = ((tollbarref15_word.f k ⟨l.toArray⟩ ((p + 1 : Nat) : Int)).bind fun t239 => (if 0 ≤ ((p + 1 : Nat) : Int) then (if ((p + 1 : Nat) : Int) ≤ t239 then (if t239 ≤ ((⟨l.toArray⟩ : ByteArray).size : Int) then ((tollbarref06_Ident.f k ((⟨l.toArray⟩ : ByteArray).extract (((p + 1 : Nat) : Int)).toNat (t239 : Int).toNat)).bind fun t240 => (if t240 = true then (if t239 ≥ ((⟨l.toArray⟩ : ByteArray).size : Int) then (some (([] : List (S46)), 21, t239)) else (if 0 ≤ t239 then (if t239 < ((⟨l.toArray⟩ : ByteArray).size : Int) then (if (bt ⟨l.toArray⟩ t239) = 93 then (if acc.length < 4398046511104 then (tollbarref15_Parse.l0 k ⟨l.toArray⟩ (acc ++ [(⟨⟨(r.takeWhile okc).toArray⟩, (⟨l.toArray⟩ : ByteArray).extract (((p + 1 : Nat) : Int)).toNat (t239 : Int).toNat⟩ : S46)]) (wrap64 (t239 + 1))) else (none)) else (some (([] : List (S46)), 21, t239))) else (none)) else (none))) else (some (([] : List (S46)), 22, ((p + 1 : Nat) : Int))))) else (none)) else (none)) else (none))) := by
                    intro k
                    show tollbarref15_Parse.j3 (k + 1) _ _ _ true _ _ = _
                    simp only [tollbarref15_Parse.j3, hwp]
                    rw [if_pos trivial]
                  refine Ev.step hstep3 ?_
                  have hwd2 := ref_word l (Nat.le_trans hL (by decide)) (p + 1) hid
                  rw [hr2] at hwd2
                  refine Ev.bind hwd2 ?_
                  have htl2 := tw_len r2
                  have d3 : (((p + 1 : Nat) : Int)) ≤ ((p + 1 + (r2.takeWhile okc).length : Nat) : Int) := by omega
                  have d4 : ((p + 1 + (r2.takeWhile okc).length : Nat) : Int) ≤ ((⟨l.toArray⟩ : ByteArray).size : Int) := by rw [sized]; omega
                  have hex2 : (⟨l.toArray⟩ : ByteArray).extract (p + 1) (p + 1 + (r2.takeWhile okc).length) = ⟨(r2.takeWhile okc).toArray⟩ := by
                    have := ext_word l (p + 1)
                    rwa [hr2] at this
                  simp only [if_pos (show 0 ≤ (((p + 1 : Nat) : Int)) by omega), if_pos d3, if_pos d4, Int.toNat_natCast, hex2]
                  refine Ev.bind (ref_id _ (by omega)) ?_
                  by_cases hi2 : idB (r2.takeWhile okc) = true
                  · simp only [hi2, if_true]
                    have hdw2 : l.drop (p + 1 + (r2.takeWhile okc).length) = r2.dropWhile okc := by
                      have := drop_word l (p + 1)
                      rwa [hr2] at this
                    cases hr3 : r2.dropWhile okc with
                    | nil =>
                      rw [hr3] at htl2 hdw2
                      rw [List.length_nil] at htl2
                      have d5 : ((p + 1 + (r2.takeWhile okc).length : Nat) : Int) ≥ ((⟨l.toArray⟩ : ByteArray).size : Int) := by rw [sized]; omega
                      simp only [if_pos d5]
                      have e : resP l.length (parseP (f + 1) acc (47 :: r)) = (([] : List S46), 21, ((p + 1 + (r2.takeWhile okc).length : Nat) : Int)) := by
                        unfold parseP stepP
                        simp only [if_true, if_neg (show ¬ 6 ≤ acc.length by omega), hi1, hr1, hi2, hr3]
                        show ([], 21, ((l.length - 0 : Nat) : Int)) = _
                        congr 2; omega
                      rw [e]; exact Ev.now _
                    | cons e r4 =>
                      rw [hr3] at htl2 hdw2
                      rw [List.length_cons] at htl2
                      obtain ⟨hbe, hie⟩ := bt_drop hdw2
                      have hr4 := drop_next hdw2
                      have d5 : ¬ ((p + 1 + (r2.takeWhile okc).length : Nat) : Int) ≥ ((⟨l.toArray⟩ : ByteArray).size : Int) := by rw [sized]; omega
                      have d6 : ((p + 1 + (r2.takeWhile okc).length : Nat) : Int) < ((⟨l.toArray⟩ : ByteArray).size : Int) := by rw [sized]; omega
                      simp only [if_neg d5, if_pos d6, if_pos (show 0 ≤ ((p + 1 + (r2.takeWhile okc).length : Nat) : Int) by omega), hbe]
                      by_cases h93 : e = 93
                      · subst h93
                        have hw3 : wrap64 (((p + 1 + (r2.takeWhile okc).length : Nat) : Int) + 1) = ((p + 1 + (r2.takeWhile okc).length + 1 : Nat) : Int) := by unfold wrap64; omega
                        simp only [if_pos (show ((93 : UInt8).toNat : Int) = 93 by decide), if_pos (show acc.length < 4398046511104 by omega), hw3]
                        have ih := ref_l0 l hL f (acc ++ [(⟨⟨(r.takeWhile okc).toArray⟩, ⟨(r2.takeWhile okc).toArray⟩⟩ : S46)]) (p + 1 + (r2.takeWhile okc).length + 1) (by rw [hr4]; exact aux1 hf htl htl2) hie (by rw [List.length_append, List.length_singleton]; exact Nat.lt_of_le_of_ne ha h6)
                        rw [hr4] at ih
                        have e : parseP (f + 1) acc (47 :: r) = if r4 = [] ∧ p + 1 + (r2.takeWhile okc).length + 1 ≠ 0 then .inl (acc ++ [(⟨⟨(r.takeWhile okc).toArray⟩, ⟨(r2.takeWhile okc).toArray⟩⟩ : S46)]) else parseP f (acc ++ [(⟨⟨(r.takeWhile okc).toArray⟩, ⟨(r2.takeWhile okc).toArray⟩⟩ : S46)]) r4 := by
                          conv => lhs; unfold parseP stepP
                          simp only [if_true, if_neg (show ¬ 6 ≤ acc.length by omega), hi1, hr1, hi2, hr3]
                          by_cases h4 : r4 = []
                          · rw [if_pos h4, if_pos ⟨h4, Nat.succ_ne_zero _⟩]
                          · rw [if_neg h4, if_neg (fun z => h4 z.1)]
                        rw [e]; exact ih
                      · have hne : ¬ (e.toNat : Int) = 93 := fun z => h93 ((c_eq e 93 (by omega)).1 z)
                        simp only [if_neg hne]
                        have e : resP l.length (parseP (f + 1) acc (47 :: r)) = (([] : List S46), 21, ((p + 1 + (r2.takeWhile okc).length : Nat) : Int)) := by
                          unfold parseP stepP
                          simp only [if_true, if_neg (show ¬ 6 ≤ acc.length by omega), hi1, hr1, hi2, hr3, if_neg h93]
                          show ([], 21, ((l.length - (e :: r4).length : Nat) : Int)) = _
                          rw [List.length_cons]; congr 2; omega
                        rw [e]; exact Ev.now _
                  · simp only [if_neg hi2]
                    have e : resP l.length (parseP (f + 1) acc (47 :: r)) = (([] : List S46), 22, ((p + 1 : Nat) : Int)) := by
                      unfold parseP stepP
                      simp only [if_true, if_neg (show ¬ 6 ≤ acc.length by omega), hi1, hr1, if_neg hi2]
                      show ([], 22, ((l.length - r2.length : Nat) : Int)) = _
                      congr 2; omega
                    rw [e]; exact Ev.now _
                · have hne : ((d.toNat : Int) == 91) = false := by
                    rw [beq_eq_false_iff_ne]
                    exact fun z => h91 ((c_eq d 91 (by omega)).1 z)
                  rw [hne]
                  refine Ev.step (f := fun k => tollbarref15_Parse.l0 k ⟨l.toArray⟩ (acc ++ [(⟨⟨(r.takeWhile okc).toArray⟩, ⟨#[]⟩⟩ : S46)]) ((i + 1 + (r.takeWhile okc).length : Nat) : Int)) (fun k => by simp only [tollbarref15_Parse.j3]; rw [if_neg (by simp), if_pos (by omega)]) ?_
                  have ih := ref_l0 l hL f (acc ++ [(⟨⟨(r.takeWhile okc).toArray⟩, ⟨#[]⟩⟩ : S46)]) (i + 1 + (r.takeWhile okc).length) (by rw [hdw, List.length_cons]; omega) (by omega) (by rw [List.length_append, List.length_singleton]; omega)
                  rw [hdw, if_neg (fun z => by cases z.1)] at ih
                  have e : parseP (f + 1) acc (47 :: r) = parseP f (acc ++ [(⟨⟨(r.takeWhile okc).toArray⟩, ⟨#[]⟩⟩ : S46)]) (d :: r2) := by
                    conv => lhs; unfold parseP stepP
                    simp only [if_true, if_neg (show ¬ 6 ≤ acc.length by omega), hi1, hr1, if_neg h91]
                    rfl
                  rw [e]; exact ih
            · simp only [if_neg hi1]
              have e : resP l.length (parseP (f + 1) acc (47 :: r)) = (([] : List S46), 22, ((i + 1 : Nat) : Int)) := by
                unfold parseP stepP
                simp only [if_true, if_neg (show ¬ 6 ≤ acc.length by omega), if_neg hi1]
                show ([], 22, ((l.length - r.length : Nat) : Int)) = _
                congr 2; omega
              rw [e]; exact Ev.now _
        · have hne : ((c.toNat : Int) != 47) = true := by
            rw [bne_iff_ne]
            exact fun z => hc ((c_eq c 47 (by omega)).1 z)
          rw [hne]
          refine Ev.step (f := fun _ => some (([] : List S46), 21, (i : Int))) (fun k => rfl) ?_
          have e : resP l.length (parseP (f + 1) acc (c :: r)) = (([] : List S46), 21, (i : Int)) := by
            unfold parseP stepP
            simp only [if_neg hc]
            show ([], 21, ((l.length - (c :: r).length : Nat) : Int)) = _
            rw [List.length_cons]; congr 2; omega
          rw [e]; exact Ev.now _
theorem ref_parse (l : List UInt8) (hl : l.length ≤ 100000) : Ev (fun k => tollbarref15_Parse.f k ⟨l.toArray⟩) (pParse l) := by
  unfold tollbarref15_Parse.f pParse
  rw [toList_mk]
  by_cases h : l = [47]
  · simp only [if_pos h]
    exact Ev.now _
  · simp only [if_neg h]
    have := ref_l0 l hl (l.length + 1) [] 0 (by simp) (Nat.zero_le _) (Nat.zero_le _)
    rw [if_neg (fun z => z.2 rfl), List.drop_zero] at this
    exact this
end Sc
end Go.Proofs.YtbbkchclefkikaaDoor.Pure
