/- Names: the program's answer is the reference's, for every text. -/
import Derived.Test.YtbbkchclefkikaaDoorQPathx2
import Derived.Test.YtbbkchclefkikaaDoorQPathx5
namespace Go.Proofs.YtbbkchclefkikaaDoor.Pure
open Go.RowKit Go.Lib Go.Proofs.YtbbkchclefkikaaDoor.QPath Go.Proofs.YtbbkchclefkikaaDoorW.PrintWords Go.Proofs.YtbbkchclefkikaaDoorW.PrintLast
set_option linter.unusedVariables false
set_option linter.unusedSimpArgs false

namespace Sc
theorem mk_data (s : ByteArray) : (⟨s.data.toList.toArray⟩ : ByteArray) = s := by simp
theorem toList_inj {a b : ByteArray} (h : a.toList = b.toList) : a = b := by
  rw [Lib.toList_data, Lib.toList_data] at h
  obtain ⟨⟨a⟩⟩ := a
  obtain ⟨⟨b⟩⟩ := b
  exact congrArg (fun l => (⟨⟨l⟩⟩ : ByteArray)) h
theorem sized (l : List UInt8) : (⟨l.toArray⟩ : ByteArray).size = l.length := by show l.toArray.size = _; simp
theorem data_of (l : List UInt8) : (⟨l.toArray⟩ : ByteArray).data.toList = l := by simp
theorem as_list (s : ByteArray) : ∃ l : List UInt8, s = ⟨l.toArray⟩ := ⟨s.data.toList, (mk_data s).symm⟩
theorem bt_list (l : List UInt8) (i : Nat) (h : i < l.length) : bt ⟨l.toArray⟩ (i : Int) = (l[i].toNat : Int) := by
  unfold bt
  rw [dif_pos (by rw [sized]; simpa using h)]
  simp only [Int.toNat_natCast]
  show ((l.toArray[i]).toNat : Int) = _
  simp
theorem toList_mk (l : List UInt8) : (⟨l.toArray⟩ : ByteArray).toList = l := by rw [toList_data, data_of]
theorem mk_append (a b : List UInt8) : (⟨a.toArray⟩ : ByteArray) ++ (⟨b.toArray⟩ : ByteArray) = ⟨(a ++ b).toArray⟩ := by
  rw [ByteArray.mk_append_mk]
theorem mk_inj {a b : List UInt8} (h : (⟨a.toArray⟩ : ByteArray) = ⟨b.toArray⟩) : a = b := by
  have := congrArg (fun s : ByteArray => s.data.toList) h
  simpa using this
/-! ### names -/
def small (c : UInt8) : Bool := decide (97 ≤ c.toNat ∧ c.toNat ≤ 122)
def okc (c : UInt8) : Bool := decide ((97 ≤ c.toNat ∧ c.toNat ≤ 122) ∨ c.toNat = 45 ∨ (48 ≤ c.toNat ∧ c.toNat ≤ 57))
def idB : List UInt8 → Bool
  | [] => false
  | c :: r => small c && r.all okc && decide (r.length < 12)
def smalls : List UInt8 := [97, 98, 99, 100, 101, 102, 103, 104, 105, 106, 107, 108, 109, 110, 111, 112, 113, 114, 115, 116, 117, 118, 119, 120, 121, 122]
def oks : List UInt8 := [97, 98, 99, 100, 101, 102, 103, 104, 105, 106, 107, 108, 109, 110, 111, 112, 113, 114, 115, 116, 117, 118, 119, 120, 121, 122, 48, 49, 50, 51, 52, 53, 54, 55, 56, 57, 45]
theorem small_all : ∀ n : Fin 256, smalls.contains (UInt8.ofNat n.val) = small (UInt8.ofNat n.val) := by decide +kernel
theorem ok_all : ∀ n : Fin 256, oks.contains (UInt8.ofNat n.val) = okc (UInt8.ofNat n.val) := by decide +kernel
theorem of_nat (c : UInt8) : UInt8.ofNat c.toNat = c := by simp
theorem small_eq (c : UInt8) : smalls.contains c = small c := by
  have := small_all ⟨c.toNat, c.toNat_lt⟩
  simpa only [of_nat] using this
theorem ok_eq (c : UInt8) : oks.contains c = okc c := by
  have := ok_all ⟨c.toNat, c.toNat_lt⟩
  simpa only [of_nat] using this
theorem dropWhile_nil {p : UInt8 → Bool} : ∀ (l : List UInt8), (l.dropWhile p = []) ↔ l.all p = true
  | [] => by simp
  | c :: l => by
    rw [List.dropWhile_cons, List.all_cons]
    cases hc : p c
    · simp
    · simpa using dropWhile_nil l
theorem trim_nil (l : List UInt8) : (trimS l oks = []) ↔ l.all okc = true := by
  have e : (fun c => oks.contains c) = okc := funext ok_eq
  unfold trimS trimLeftS trimRightS
  rw [e, dropWhile_nil]
  constructor
  · intro h
    by_cases ha : l.all okc = true
    · exact ha
    · exfalso
      have h1 : l.reverse.dropWhile okc ≠ [] := fun z => ha (by have := (dropWhile_nil _).1 z; rwa [List.all_reverse] at this)
      obtain ⟨c, r, hcr⟩ := List.exists_cons_of_ne_nil h1
      have h2 : okc c = false := by
        have := List.head?_dropWhile_not okc l.reverse
        rw [hcr] at this
        simpa using this
      rw [hcr] at h
      simp [h2] at h
  · intro h
    have : l.reverse.dropWhile okc = [] := (dropWhile_nil _).2 (by rwa [List.all_reverse])
    rw [this]; rfl
theorem extract_one (c : UInt8) (r : List UInt8) : (⟨(c :: r).toArray⟩ : ByteArray).extract 0 1 = ⟨[c].toArray⟩ := by
  apply toList_inj
  rw [extract_toList, toList_mk, data_of]; rfl
theorem small_ok {c : UInt8} (h : small c = true) : okc c = true := by
  unfold small at h; unfold okc
  simp only [decide_eq_true_eq] at h ⊢
  exact .inl h
theorem my_ident (s : ByteArray) (hs : s.size ≤ 140737488351232) : scalar_Ident.f s = some (idB s.data.toList) := by
  obtain ⟨l, rfl⟩ := as_list s
  rw [data_of]
  unfold scalar_Ident.f
  cases l with
  | nil => rw [if_pos (toList_mk _)]; rfl
  | cons c r =>
    rw [if_neg (by rw [toList_mk]; simp)]
    rw [sized] at hs ⊢
    by_cases h12 : ((c :: r).length : Int) ≤ 12
    · rw [if_pos h12, if_pos (by rw [List.length_cons]; omega), extract_one]
      have hl : r.length < 12 := by rw [List.length_cons] at h12; omega
      have hc : strings_Contains.f (⟨#[97, 98, 99, 100, 101, 102, 103, 104, 105, 106, 107, 108, 109, 110, 111, 112, 113, 114, 115, 116, 117, 118, 119, 120, 121, 122]⟩ : ByteArray) ⟨[c].toArray⟩ = some (small c) := by
        rw [← small_eq c]; rfl
      rw [hc]
      simp only [Option.bind_some]
      cases hsm : small c with
      | false => rw [if_neg (by decide)]; simp [idB, hsm]
      | true =>
        rw [if_pos rfl]
        have ht : strings_Trim.f ⟨(c :: r).toArray⟩ (⟨#[97, 98, 99, 100, 101, 102, 103, 104, 105, 106, 107, 108, 109, 110, 111, 112, 113, 114, 115, 116, 117, 118, 119, 120, 121, 122, 48, 49, 50, 51, 52, 53, 54, 55, 56, 57, 45]⟩ : ByteArray) = some ⟨(trimS (c :: r) oks).toArray⟩ := by
          unfold strings_Trim.f
          rw [if_pos ⟨by rw [sized]; exact hs, by decide, by decide⟩, data_of]; rfl
        rw [ht]
        simp only [Option.bind_some]
        congr 1
        rw [toList_mk]
        have hok := small_ok hsm
        have hall : (c :: r).all okc = r.all okc := by rw [List.all_cons, hok, Bool.true_and]
        simp only [idB, hsm, Bool.true_and, hl, decide_true, Bool.and_true]
        cases hr : r.all okc with
        | true => rw [(trim_nil _).2 (by rw [hall, hr])]; rfl
        | false =>
          rw [beq_eq_false_iff_ne]
          intro z
          have := (trim_nil _).1 z
          rw [hall, hr] at this; cases this
    · rw [if_neg h12]
      have hl : ¬ r.length < 12 := by rw [List.length_cons] at h12; omega
      simp [idB, hl]
theorem ident_l0 (l : List UInt8) (hl : l.length ≤ 140737488351232) (d : Nat) : ∀ (i : Nat), 1 ≤ i → i ≤ l.length → l.length - i = d →
    Ev (fun k => tollbarref06_Ident.l0 k ⟨l.toArray⟩ i) ((l.drop i).all okc && decide (l.length ≤ 12)) := by
  induction d with
  | zero =>
    intro i h1 hi hd
    have c1 : ¬ ((i : Int) < ((⟨l.toArray⟩ : ByteArray).size : Int)) := by rw [sized]; omega
    have c2 : ¬ (⟨l.toArray⟩ : ByteArray).toList = ([] : List UInt8) := by rw [toList_mk]; rintro rfl; simp at hi; omega
    refine Ev.step (f := fun _ => some (decide (((⟨l.toArray⟩ : ByteArray).size : Int) ≤ 12))) (fun k => by simp only [tollbarref06_Ident.l0]; rw [if_neg c1, if_neg c2]) ?_
    have e : decide (((⟨l.toArray⟩ : ByteArray).size : Int) ≤ 12) = ((l.drop i).all okc && decide (l.length ≤ 12)) := by
      rw [List.drop_of_length_le (by omega), sized]
      simp only [List.all_nil, Bool.true_and, decide_eq_decide]; omega
    rw [e]; exact Ev.now _
  | succ d ih =>
    intro i h1 hi hd
    have hil : i < l.length := by omega
    have c1 : (i : Int) < ((⟨l.toArray⟩ : ByteArray).size : Int) := by rw [sized]; omega
    have c2 : 0 ≤ (i : Int) := by omega
    have c3 : ¬ (i : Int) = 0 := by omega
    have hw : wrap64 ((i : Int) + 1) = ((i + 1 : Nat) : Int) := by unfold wrap64; omega
    have hb : bt ⟨l.toArray⟩ (i : Int) = (l[i].toNat : Int) := bt_list l i hil
    have hdr : l.drop i = l[i] :: l.drop (i + 1) := List.drop_eq_getElem_cons hil
    have next := ih (i + 1) (by omega) (by omega) (by omega)
    rw [hdr, List.all_cons]
    generalize l[i] = c at hb
    by_cases hok : okc c = true
    · rw [hok, Bool.true_and]
      refine Ev.step (f := fun k => tollbarref06_Ident.l0 k ⟨l.toArray⟩ ((i + 1 : Nat) : Int)) (fun k => ?_) next
      simp only [tollbarref06_Ident.l0]
      unfold okc at hok
      simp only [decide_eq_true_eq] at hok
      rw [if_pos c1, if_pos c2, hb, hw, if_neg c3]
      by_cases k1 : (c.toNat : Int) ≥ 97
      · rw [if_pos k1, if_pos (by omega)]
      · rw [if_neg k1]
        by_cases k2 : (c.toNat : Int) = 45
        · rw [if_pos k2]
        · rw [if_neg k2, if_neg (by omega), if_neg (by omega)]
    · rw [Bool.eq_false_iff.2 hok, Bool.false_and]
      refine Ev.step (f := fun _ => some false) (fun k => ?_) (Ev.now _)
      simp only [tollbarref06_Ident.l0]
      unfold okc at hok
      simp only [decide_eq_true_eq] at hok
      rw [if_pos c1, if_pos c2, hb, hw, if_neg c3, if_neg (show ¬ (c.toNat : Int) = 45 by omega)]
      by_cases k1 : (c.toNat : Int) ≥ 97
      · rw [if_pos k1, if_neg (by omega), if_neg (by omega), if_pos (by omega)]
      · rw [if_neg k1]
        by_cases k3 : (c.toNat : Int) < 48
        · rw [if_pos k3]
        · rw [if_neg k3, if_pos (by omega)]
theorem ref_ident (s : ByteArray) (hs : s.size ≤ 140737488351232) : Ev (fun k => tollbarref06_Ident.f k s) (idB s.data.toList) := by
  obtain ⟨l, rfl⟩ := as_list s
  rw [data_of]
  rw [sized] at hs
  cases l with
  | nil =>
    refine Ev.step (f := fun _ => some false) (fun k => ?_) (Ev.now _)
    show tollbarref06_Ident.l0 (k + 1) _ 0 = _
    simp only [tollbarref06_Ident.l0]
    rw [if_neg (by rw [sized]; simp), if_pos (toList_mk _)]
  | cons c r =>
    have c1 : (0 : Int) < ((⟨(c :: r).toArray⟩ : ByteArray).size : Int) := by rw [sized, List.length_cons]; omega
    have hw : wrap64 ((0 : Int) + 1) = ((1 : Nat) : Int) := by unfold wrap64; omega
    have hb : bt ⟨(c :: r).toArray⟩ (0 : Int) = (c.toNat : Int) := bt_list (c :: r) 0 (by simp)
    by_cases hsm : small c = true
    · have h := ident_l0 (c :: r) hs _ 1 (by omega) (by simp) rfl
      have e : ((List.drop 1 (c :: r)).all okc && decide ((c :: r).length ≤ 12)) = idB (c :: r) := by
        simp only [idB, hsm, Bool.true_and, List.drop_succ_cons, List.drop_zero, List.length_cons]; rfl
      rw [e] at h
      refine Ev.step (fun k => ?_) h
      show tollbarref06_Ident.l0 (k + 1) _ 0 = _
      simp only [tollbarref06_Ident.l0]
      unfold small at hsm
      simp only [decide_eq_true_eq] at hsm
      rw [if_pos c1, if_pos (by omega), hb, hw, if_pos (by omega), if_pos (by omega)]
    · have e : idB (c :: r) = false := by simp only [idB, Bool.eq_false_iff.2 hsm, Bool.false_and]
      rw [e]
      refine Ev.step (f := fun _ => some false) (fun k => ?_) (Ev.now _)
      show tollbarref06_Ident.l0 (k + 1) _ 0 = _
      simp only [tollbarref06_Ident.l0]
      unfold small at hsm
      simp only [decide_eq_true_eq] at hsm
      rw [if_pos c1, if_pos (by omega), hb, hw]
      simp only [if_true]
      by_cases k1 : (c.toNat : Int) ≥ 97
      · rw [if_pos k1, if_neg (by omega)]
      · rw [if_neg k1]
end Sc
end Go.Proofs.YtbbkchclefkikaaDoor.Pure
