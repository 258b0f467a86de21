import Derived.Test.YthmohmmbhjpbcaaGreatDoorEvPlain
import Derived.Lib.SlTrimSet
import Derived.Lib.ItoaLen
set_option linter.unusedVariables false
set_option linter.unusedSimpArgs false
set_option maxHeartbeats 1000000
namespace Go.Proofs.YthmohmmbhjpbcaaGreatDoor.Va8
open Go Ev Ev.Seat

theorem bif_t {α : Type} (a b : α) : (bif true then a else b) = a := rfl
theorem bif_f {α : Type} (a b : α) : (bif false then a else b) = b := rfl
theorem wrap_in (n : Int) (h0 : -9223372036854775808 ≤ n) (h1 : n ≤ 9223372036854775807) : IntKind.wrap IntKind.i64 n = n := by
  unfold IntKind.wrap
  simp [IntKind.bits, IntKind.signed]
  omega
abbrev B0 : ByteArray := ByteArray.mk (List.toArray [])
theorem seq_self (s : ByteArray) : seq s s = true := by simp [seq]

def idn (s : ByteArray) : Bool := (scalar_Ident 0 s).getD false
theorem ident_eq (κ : Nat) (s : ByteArray) : scalar_Ident κ s = some (idn s) ∧ (idn s = true → s.size ≤ 12 ∧ seq s B0 = false) := by
  have hk : scalar_Ident κ s = scalar_Ident 0 s := rfl
  rw [hk]
  suffices h : ∃ b, scalar_Ident 0 s = some b ∧ (b = true → s.size ≤ 12 ∧ seq s B0 = false) by
    obtain ⟨b, h1, h2⟩ := h
    have : idn s = b := by unfold idn; rw [h1]; rfl
    rw [this]; exact ⟨h1, h2⟩
  unfold scalar_Ident scalar_Ident.v0
  cases h0 : seq s (ByteArray.mk (List.toArray []))
  · simp only [Bool.not_false, bif_t]
    by_cases h1 : ((s.size : Nat) : Int) ≤ 12
    · simp only [h1, decide_true, bif_t]
      have hpos : (1 : Int) ≤ ((s.size : Nat) : Int) := by
        rcases Nat.eq_zero_or_pos s.size with h | h
        · exfalso
          have : s = ByteArray.mk (List.toArray []) := by
            cases s with
            | mk d => cases d with
              | mk l => cases l with
                | nil => rfl
                | cons a t => simp [ByteArray.size] at h
          rw [this] at h0
          simp [seq] at h0
        · omega
      simp only [hpos, decide_true, Int.le_refl, show (0 : Int) ≤ 1 from by decide, Bool.and_self, bif_t]
      generalize Lib.contains _ _ = c
      cases c
      · exact ⟨false, rfl, fun h => by cases h⟩
      · simp only [bif_t]
        unfold strings_Trim
        rw [show asciiB _ = true from by decide +kernel]
        have hsz : Nat.ble s.size maxI = true := Nat.ble_eq_true_of_le (by unfold maxI; omega)
        rw [hsz]
        refine ⟨_, rfl, fun _ => ⟨by omega, by first | exact h0 | trivial⟩⟩
    · simp only [h1, decide_false, bif_f]
      exact ⟨false, rfl, fun h => by cases h⟩
  · exact ⟨false, rfl, fun h => by cases h⟩
theorem ident (κ : Nat) (s : ByteArray) : scalar_Ident κ s = some (idn s) := (ident_eq κ s).1
theorem idn_size {s : ByteArray} (h : idn s = true) : s.size ≤ 12 := ((ident_eq 0 s).2 h).1
theorem idn_ne {s : ByteArray} (h : idn s = true) : seq s B0 = false := ((ident_eq 0 s).2 h).2

def fndL (n : ByteArray) : List SpecSpec → Nat → Option Nat
  | [], _ => none
  | x :: l, i => bif seq x.name n then some i else fndL n l (i + 1)
theorem fnd_some {n : ByteArray} : ∀ {l : List SpecSpec} {i j : Nat}, fndL n l i = some j → i ≤ j ∧ ∃ t, l[j - i]? = some t ∧ seq t.name n = true
  | [], _, _, h => by cases h
  | x :: l, i, j, h => by
    unfold fndL at h
    cases hs : seq x.name n
    · rw [hs] at h
      obtain ⟨h1, t, h2, h3⟩ := fnd_some h
      refine ⟨by omega, t, ?_, h3⟩
      have : j - i = (j - (i + 1)) + 1 := by omega
      rw [this]; simpa using h2
    · rw [hs] at h; cases h
      exact ⟨Nat.le_refl _, x, by simp, hs⟩

theorem idx_loop (κ : Nat) (n : ByteArray) (l : List SpecSpec) (hl : l.length < 1000000) : ∀ (d i K : Nat), l.length = i + d → d < K →
    slices_IndexFunc.l0 κ K (l, ((l.length : Nat) : Int), (i : Int), n) = some (match fndL n (l.drop i) i with | some j => .inr ((j : Int), n) | none => .inl n)
  | d, i, 0, _, h => by omega
  | 0, i, K + 1, hd, _ => by
    have hn : l.drop i = [] := List.drop_eq_nil_of_le (by omega)
    rw [hn]
    unfold slices_IndexFunc.l0 slices_IndexFunc.w0
    rw [show decide ((i : Int) < ((l.length : Nat) : Int)) = false from by simp; omega]
    rfl
  | d + 1, i, K + 1, hd, hk => by
    have hlt : i < l.length := by omega
    unfold slices_IndexFunc.l0 slices_IndexFunc.w0
    rw [show decide ((i : Int) < ((l.length : Nat) : Int)) = true from by simp; omega, show decide ((0 : Int) ≤ (i : Int)) = true from by simp]
    simp only [bif_t, Int.toNat_natCast, List.getElem?_eq_getElem hlt, Option.bind_some]
    rw [List.drop_eq_getElem_cons hlt]
    unfold fndL
    cases hs : seq l[i].name n
    · simp only [bif_f]
      rw [wrap_in _ (by omega) (by omega), show ((i : Int) + 1) = ((i + 1 : Nat) : Int) from by omega]
      exact idx_loop κ n l hl d (i + 1) K (by omega) (by omega)
    · rfl

theorem find_eq (κ : Nat) (n : ByteArray) (l : List SpecSpec) (hl : l.length < 1000000) (hκ : l.length < κ) (a0 : ByteArray) (a1 a2 a3 a4 : Int) (a5 : List ByteArray) (a6 : Bool) (a7 : Int) :
    spec_Find κ a0 a1 a2 a3 a4 a5 a6 a7 l n = some (match fndL n l 0 with | some j => (j : Int) | none => -1) := by
  have h := idx_loop κ n l hl l.length 0 κ (by omega) hκ
  simp only [List.drop_zero, Int.natCast_zero] at h
  unfold spec_Find slices_IndexFunc
  rw [h]
  cases fndL n l 0 <;> rfl
end Go.Proofs.YthmohmmbhjpbcaaGreatDoor.Va8


namespace Go.Proofs.YthmohmmbhjpbcaaGreatDoor.Va8
open Go Ev Ev.Seat

def lev0 : List SpecSpec := [specRoot1, specRoot2, specRoot3]
def kidsAll (l : List SpecSpec) : List SpecSpec := l.flatMap SpecSpec.kids
def lev1 : List SpecSpec := kidsAll lev0
def lev2 : List SpecSpec := kidsAll lev1
def lev3 : List SpecSpec := kidsAll lev2
/-- All that stands in a table, and nothing. -/
def subs : List SpecSpec := specZero :: (lev0 ++ (lev1 ++ (lev2 ++ lev3)))
theorem lev3_end : lev3.all (fun s => s.kids.isEmpty) = true := by kernel_rfl
theorem sub_kid {s t : SpecSpec} (hs : s ∈ subs) (ht : t ∈ s.kids) : t ∈ subs := by
  unfold subs at hs ⊢
  simp only [List.mem_cons, List.mem_append] at hs ⊢
  rcases hs with rfl | h | h | h | h
  · cases ht
  · exact .inr (.inr (.inl (List.mem_flatMap.2 ⟨s, h, ht⟩)))
  · exact .inr (.inr (.inr (.inl (List.mem_flatMap.2 ⟨s, h, ht⟩))))
  · exact .inr (.inr (.inr (.inr (List.mem_flatMap.2 ⟨s, h, ht⟩))))
  · have h1 := List.all_eq_true.1 lev3_end s h
    simp only [List.isEmpty_iff] at h1
    rw [h1] at ht; cases ht
theorem subs_few : subs.all (fun s => Nat.ble s.kids.length 10) = true := by kernel_rfl
theorem sub_few {s : SpecSpec} (hs : s ∈ subs) : s.kids.length ≤ 10 := Nat.le_of_ble_eq_true (List.all_eq_true.1 subs_few s hs)

def rootOf (v : Int) : Option SpecSpec := if v = 1 then some specRoot1 else if v = 2 then some specRoot2 else if v = 3 then some specRoot3 else none
theorem root_eq (v : Int) : spec_Root v = match rootOf v with | some s => some (s, 0) | none => some (specZero, 28) := by
  unfold spec_Root rootOf
  split
  · rfl
  · split
    · rfl
    · split <;> rfl
theorem rootOf_sub {v : Int} {s : SpecSpec} (h : rootOf v = some s) : s ∈ subs := by
  unfold rootOf at h
  unfold subs lev0
  split at h
  · cases h; simp
  · split at h
    · cases h; simp
    · split at h
      · cases h; simp
      · cases h

def atN (s : SpecSpec) : List ByteArray → Option SpecSpec
  | [] => some s
  | n :: r => match (fndL n s.kids 0).bind fun j => s.kids[j]? with
    | none => none
    | some t => atN t r
theorem fnd_kid {s : SpecSpec} {n : ByteArray} {j : Nat} (h : fndL n s.kids 0 = some j) : ∃ t, s.kids[j]? = some t ∧ t ∈ s.kids := by
  obtain ⟨_, t, h2, _⟩ := fnd_some h
  exact ⟨t, h2, List.mem_of_getElem? h2⟩
theorem atN_sub : ∀ {l : List ByteArray} {s t : SpecSpec}, s ∈ subs → atN s l = some t → t ∈ subs
  | [], s, t, hs, h => by cases h; exact hs
  | y :: l, s, t, hs, h => by
    simp only [atN] at h
    split at h
    · cases h
    · rename_i u hu
      obtain ⟨j, hj, hk⟩ := Option.bind_eq_some_iff.1 hu
      exact atN_sub (sub_kid hs (List.mem_of_getElem? hk)) h

def flds (s : SpecSpec) : ByteArray × Int × Int × Int × Int × List ByteArray × Bool × Int × List SpecSpec := (s.name, s.kind, s.type_, s.min, s.max, s.names, s.must, s.most, s.kids)

theorem at_loop (κ : Nat) (hκ : 20 ≤ κ) (w : List ByteArray) (hw : w.length < 1000000) (z0 : ByteArray) (z1 z2 z3 z4 : Int) (z5 : Bool) (z6 : Int) : ∀ (d i K : Nat) (s : SpecSpec), s ∈ subs → w.length = i + d → d < K →
    spec_At.l0 κ K (w, ((w.length : Nat) : Int), (i : Int), z0, z1, z2, z3, z4, z5, z6, flds s) =
      some (match atN s (w.drop i) with | some t => .inl (z0, z1, z2, z3, z4, z5, z6, flds t) | none => .inr (22, B0, 0, 0, 0, 0, false, 0))
  | d, i, 0, s, _, _, h => by omega
  | 0, i, K + 1, s, hs, hd, _ => by
    have hn : w.drop i = [] := List.drop_eq_nil_of_le (by omega)
    rw [hn]
    unfold flds spec_At.l0 spec_At.w0
    rw [show decide ((i : Int) < ((w.length : Nat) : Int)) = false from by simp; omega]
    rfl
  | d + 1, i, K + 1, s, hs, hd, hk => by
    have hlt : i < w.length := by omega
    unfold flds spec_At.l0 spec_At.w0
    rw [show decide ((i : Int) < ((w.length : Nat) : Int)) = true from by simp; omega, show decide ((0 : Int) ≤ (i : Int)) = true from by simp]
    have hfew := sub_few hs
    simp only [bif_t, Int.toNat_natCast, List.getElem?_eq_getElem hlt, Option.bind_some, find_eq κ _ s.kids (by omega) (by omega)]
    rw [List.drop_eq_getElem_cons hlt]
    simp only [atN]
    cases hf : fndL w[i] s.kids 0 with
    | none => rfl
    | some j =>
      obtain ⟨t, ht, hm⟩ := fnd_kid hf
      simp only [Option.bind_some, ht, show decide (((j : Nat) : Int) < 0) = false from by simp, show decide ((0 : Int) ≤ ((j : Nat) : Int)) = true from by simp, bif_t, bif_f, Int.toNat_natCast]
      rw [wrap_in _ (by omega) (by omega), show ((i : Int) + 1) = ((i + 1 : Nat) : Int) from by omega]
      exact at_loop κ hκ w hw z0 z1 z2 z3 z4 z5 z6 d (i + 1) K t (sub_kid hs hm) (by omega) (by omega)

/-- What spec.At tells. -/
def atV (v : Int) (w : List ByteArray) : SpecSpec × Int := match rootOf v with
  | none => (specZero, 28)
  | some r => match atN r w with | some t => (t, 0) | none => (specZero, 22)
def tup (x : SpecSpec × Int) : ByteArray × Int × Int × Int × Int × List ByteArray × Bool × Int × List SpecSpec × Int := (x.1.name, x.1.kind, x.1.type_, x.1.min, x.1.max, x.1.names, x.1.must, x.1.most, x.1.kids, x.2)
theorem at_eq (κ : Nat) (hκ : 20 ≤ κ) (v : Int) (w : List ByteArray) (hw : w.length < κ) (hw' : w.length < 1000000) : spec_At κ v w = some (tup (atV v w)) := by
  unfold spec_At atV
  rw [root_eq]
  cases hr : rootOf v with
  | none => rfl
  | some r =>
    simp only [Option.bind_some, show ((0 : Int) != 0) = false from rfl, bif_f]
    have h := at_loop κ hκ w hw' B0 0 0 0 0 false 0 w.length 0 κ r (rootOf_sub hr) (by omega) hw
    simp only [List.drop_zero, Int.natCast_zero] at h
    unfold flds at h
    rw [h]
    cases atN r w with
    | some t => rfl
    | none => rfl
theorem atV_sub (v : Int) (w : List ByteArray) : (atV v w).1 ∈ subs := by
  unfold atV
  split
  · exact List.mem_cons_self ..
  · rename_i r hr
    split
    · rename_i t ht; exact atN_sub (rootOf_sub hr) ht
    · exact List.mem_cons_self ..

mutual
def toS : SpecSpec → Tollbarref07S
  | ⟨n, k, t, mi, ma, ns, mu, mo, ks⟩ => ⟨n, k, t, mi, ma, ns, mu, mo, toL ks⟩
def toL : List SpecSpec → List Tollbarref07S
  | [] => []
  | s :: l => toS s :: toL l
end
def fldS (s : Tollbarref07S) : ByteArray × Int × Int × Int × Int × List ByteArray × Bool × Int × List Tollbarref07S := (s.name, s.kind, s.type_, s.min, s.max, s.names, s.must, s.most, s.kids)
theorem toS_name (s : SpecSpec) : (toS s).name = s.name := by cases s; rfl
theorem toS_kids (s : SpecSpec) : (toS s).kids = toL s.kids := by cases s; rfl
theorem toL_get : ∀ (l : List SpecSpec) (i : Nat), (toL l)[i]? = (l[i]?).map toS
  | [], i => by simp [toL]
  | s :: l, 0 => by simp [toL]
  | s :: l, i + 1 => by simp only [toL, List.getElem?_cons_succ]; exact toL_get l i
theorem toL_len : ∀ (l : List SpecSpec), (toL l).length = l.length
  | [] => rfl
  | s :: l => by simp only [toL, List.length_cons, toL_len l]

theorem find2_loop (κ : Nat) (n : ByteArray) (l : List SpecSpec) (hl : l.length < 1000000) (b0 : ByteArray) (b1 b2 b3 b4 : Int) (b5 : List ByteArray) (b6 : Bool) (b7 : Int) : ∀ (d i K : Nat), l.length = i + d → d < K →
    r07_Find_2.l0 κ K (n, (i : Int), b0, b1, b2, b3, b4, b5, b6, b7, toL l) = some (match fndL n (l.drop i) i with | some j => .inr (j : Int) | none => .inl ())
  | d, i, 0, _, h => by omega
  | 0, i, K + 1, hd, _ => by
    have hn : l.drop i = [] := List.drop_eq_nil_of_le (by omega)
    rw [hn]
    unfold r07_Find_2.l0 r07_Find_2.w0
    rw [toL_len, show decide ((i : Int) < ((l.length : Nat) : Int)) = false from decide_eq_false (by omega)]
    rfl
  | d + 1, i, K + 1, hd, hk => by
    have hlt : i < l.length := by omega
    unfold r07_Find_2.l0 r07_Find_2.w0
    rw [toL_len, show decide ((i : Int) < ((l.length : Nat) : Int)) = true from decide_eq_true (by omega), show decide ((0 : Int) ≤ (i : Int)) = true from decide_eq_true (by omega)]
    simp only [bif_t, Int.toNat_natCast, toL_get, List.getElem?_eq_getElem hlt, Option.map_some, Option.bind_some, toS_name]
    rw [List.drop_eq_getElem_cons hlt]
    unfold fndL
    cases hs : seq l[i].name n
    · simp only [bif_f]
      rw [wrap_in _ (by omega) (by omega), show ((i : Int) + 1) = ((i + 1 : Nat) : Int) from by omega]
      exact find2_loop κ n l hl b0 b1 b2 b3 b4 b5 b6 b7 d (i + 1) K (by omega) (by omega)
    · rfl
theorem find2_eq (κ : Nat) (n : ByteArray) (l : List SpecSpec) (hl : l.length < 1000000) (hκ : l.length < κ) (b0 : ByteArray) (b1 b2 b3 b4 : Int) (b5 : List ByteArray) (b6 : Bool) (b7 : Int) :
    r07_Find_2 κ b0 b1 b2 b3 b4 b5 b6 b7 (toL l) n = some (match fndL n l 0 with | some j => (j : Int) | none => -1) := by
  have h := find2_loop κ n l hl b0 b1 b2 b3 b4 b5 b6 b7 l.length 0 κ (by omega) hκ
  simp only [List.drop_zero, Int.natCast_zero] at h
  unfold r07_Find_2
  rw [h]
  cases fndL n l 0 <;> rfl


theorem refAt_loop (κ : Nat) (hκ : 20 ≤ κ) (w : List ByteArray) (hw : w.length < 1000000) (z0 : ByteArray) (z1 z2 z3 z4 : Int) (z5 : Bool) (z6 : Int) : ∀ (d i K : Nat) (s : SpecSpec), s ∈ subs → w.length = i + d → d < K →
    r07_At.l4 κ K (w, (0 : Int), (i : Int), z0, z1, z2, z3, z4, z5, z6, fldS (toS s)) =
      some (match atN s (w.drop i) with | some t => .inl (0, z0, z1, z2, z3, z4, z5, z6, fldS (toS t)) | none => .inr (22, B0, 0, 0, 0, 0, false, 0))
  | d, i, 0, s, _, _, h => by omega
  | 0, i, K + 1, s, hs, hd, _ => by
    have hn : w.drop i = [] := List.drop_eq_nil_of_le (by omega)
    rw [hn]
    unfold fldS r07_At.l4 r07_At.w4 r07_At.v5
    rw [show decide ((i : Int) < ((w.length : Nat) : Int)) = false from decide_eq_false (by omega)]
    rfl
  | d + 1, i, K + 1, s, hs, hd, hk => by
    have hlt : i < w.length := by omega
    have hx : w[i]? = some w[i] := List.getElem?_eq_getElem hlt
    have hfew := sub_few hs
    unfold fldS r07_At.l4 r07_At.w4 r07_At.v5
    rw [show decide ((i : Int) < ((w.length : Nat) : Int)) = true from decide_eq_true (by omega)]
    simp only [bif_t, show ((0 : Int) == 0) = true from rfl, Option.bind_some, show decide ((0 : Int) ≤ (i : Int)) = true from decide_eq_true (by omega), Int.toNat_natCast, hx, toS_kids,
      find2_eq κ _ s.kids (by omega) (by omega)]
    rw [List.drop_eq_getElem_cons hlt]
    simp only [atN]
    cases hfd : fndL w[i] s.kids 0 with
    | none => rfl
    | some j =>
      obtain ⟨t, ht, hm⟩ := fnd_kid hfd
      simp only [Option.bind_some, ht, show decide (((j : Nat) : Int) < 0) = false from decide_eq_false (by omega), show decide ((0 : Int) ≤ ((j : Nat) : Int)) = true from decide_eq_true (by omega), bif_t, bif_f, Int.toNat_natCast, toL_get, Option.map_some]
      rw [wrap_in _ (by omega) (by omega), show ((i : Int) + 1) = ((i + 1 : Nat) : Int) from by omega]
      have ih := refAt_loop κ hκ w hw z0 z1 z2 z3 z4 z5 z6 d (i + 1) K t (sub_kid hs hm) (by omega) (by omega)
      simp only [fldS, toS_kids] at ih ⊢
      exact ih
def rootT (v : Int) : ByteArray × Int × Int × Int × Int × Bool × Int × Int × List Tollbarref07S := match rootOf v with
  | some r => (B0, 2, 0, 0, 0, false, 0, 0, toL r.kids)
  | none => (B0, 0, 0, 0, 0, false, 0, 28, [])
theorem refRoot1 (κ : Nat) : r07_Root κ 1 = some (rootT 1) := by kernel_rfl
theorem refRoot2 (κ : Nat) : r07_Root κ 2 = some (rootT 2) := by kernel_rfl
theorem refRoot3 (κ : Nat) : r07_Root κ 3 = some (rootT 3) := by kernel_rfl
theorem refRoot_eq (κ : Nat) (v : Int) : r07_Root κ v = some (rootT v) := by
  by_cases h1 : v = 1
  · subst h1; exact refRoot1 κ
  · by_cases h2 : v = 2
    · subst h2; exact refRoot2 κ
    · by_cases h3 : v = 3
      · subst h3; exact refRoot3 κ
      · have : rootT v = (B0, 0, 0, 0, 0, false, 0, 28, []) := by unfold rootT rootOf; rw [if_neg h1, if_neg h2, if_neg h3]
        rw [this]
        unfold r07_Root r07_Root.v0
        by_cases h4 : v < 1
        · simp only [h4, decide_true, bif_t, Option.bind_some]
        · have h5 : v > 3 := by omega
          simp only [h4, h5, decide_true, decide_false, bif_f, bif_t, Option.bind_some]
theorem root_flds {v : Int} {r : SpecSpec} (h : rootOf v = some r) : fldS (toS r) = (B0, 2, 0, 0, 0, [], false, 0, toL r.kids) := by
  unfold rootOf at h
  split at h
  · cases h; rfl
  · split at h
    · cases h; rfl
    · split at h
      · cases h; rfl
      · cases h


def tupS (x : SpecSpec × Int) : ByteArray × Int × Int × Int × Int × List ByteArray × Bool × Int × List Tollbarref07S × Int := ((toS x.1).name, (toS x.1).kind, (toS x.1).type_, (toS x.1).min, (toS x.1).max, (toS x.1).names, (toS x.1).must, (toS x.1).most, (toS x.1).kids, x.2)
theorem refAt_eq (κ : Nat) (hκ : 20 ≤ κ) (v : Int) (w : List ByteArray) (hw : w.length < κ) (hw' : w.length < 1000000) : r07_At κ v w = some (tupS (atV v w)) := by
  unfold r07_At
  rw [refRoot_eq]
  unfold rootT atV
  cases hr : rootOf v with
  | none =>
    obtain ⟨k, hk⟩ : ∃ k, κ = k + 1 := ⟨κ - 1, by omega⟩
    simp only [Option.bind_some]
    conv => lhs; arg 1; arg 2; rw [hk]
    unfold r07_At.l4 r07_At.w4 r07_At.v5
    cases decide ((0 : Int) < ((w.length : Nat) : Int)) <;> rfl
  | some r =>
    simp only [Option.bind_some]
    have h := refAt_loop κ hκ w hw' B0 0 0 0 0 false 0 w.length 0 κ r (rootOf_sub hr) (by omega) hw
    rw [root_flds hr] at h
    simp only [List.drop_zero, Int.natCast_zero] at h
    rw [h]
    cases atN r w with
    | some t => rfl
    | none => rfl
/-- What law 08 looks at: a part of the tables, and the reference's of it. -/
theorem both_eq (κ : Nat) (hκ : 30 ≤ κ) (v : Int) (w : List ByteArray) : ∃ s ∈ subs, ∃ is, l08_both κ v w = some (s.name, s.kind, s.type_, s.min, s.max, s.names, s.must, s.most, s.kids, (toS s).name, (toS s).kind, (toS s).type_, (toS s).min, (toS s).max, (toS s).names, (toS s).must, (toS s).most, (toS s).kids, is) := by
  unfold l08_both
  by_cases h : ((w.length : Nat) : Int) > 20
  · rw [show decide (((w.length : Nat) : Int) > 20) = true from decide_eq_true h]
    exact ⟨specZero, List.mem_cons_self .., false, rfl⟩
  · rw [show decide (((w.length : Nat) : Int) > 20) = false from decide_eq_false h]
    simp only [bif_f, at_eq κ (by omega) v w (by omega) (by omega), refAt_eq κ (by omega) v w (by omega) (by omega), Option.bind_some, tup, tupS]
    refine ⟨(atV v w).1, atV_sub v w, ?_⟩
    unfold l08_both.v0
    cases (atV v w).2 == 0
    · exact ⟨false, rfl⟩
    · exact ⟨_, rfl⟩
end Go.Proofs.YthmohmmbhjpbcaaGreatDoor.Va8


namespace Go.Proofs.YthmohmmbhjpbcaaGreatDoor.Va8
open Go Ev Ev.Seat

theorem seq_iff {a b : ByteArray} : seq a b = true ↔ a = b := by
  constructor
  · intro h
    have h' : a.data.toList = b.data.toList := by simpa [seq] using h
    cases a with
    | mk a => cases b with
      | mk b => cases a with
        | mk a => cases b with
          | mk b => exact congrArg (fun l => (⟨⟨l⟩⟩ : ByteArray)) h'
  · rintro rfl; exact seq_self a
def ixL (x : ByteArray) : List ByteArray → Nat → Option Nat
  | [], _ => none
  | y :: l, i => bif seq x y then some i else ixL x l (i + 1)
theorem ixL_some {x : ByteArray} : ∀ {l : List ByteArray} {i j : Nat}, ixL x l i = some j → i ≤ j ∧ l[j - i]? = some x
  | [], _, _, h => by cases h
  | y :: l, i, j, h => by
    unfold ixL at h
    cases hs : seq x y
    · rw [hs] at h
      obtain ⟨h1, h2⟩ := ixL_some h
      refine ⟨by omega, ?_⟩
      have : j - i = (j - (i + 1)) + 1 := by omega
      rw [this]; simpa using h2
    · rw [hs] at h; cases h
      exact ⟨Nat.le_refl _, by simp [seq_iff.1 hs]⟩
def ixI (x : ByteArray) (l : List ByteArray) : Int := match ixL x l 0 with | some j => (j : Int) | none => -1
theorem ix_loop (κ : Nat) (x : ByteArray) (l : List ByteArray) (hl : l.length < 1000000) : ∀ (d i K : Nat), l.length = i + d → d < K →
    slices_Index.l0 κ K (l, x, ((l.length : Nat) : Int), (i : Int)) = some (match ixL x (l.drop i) i with | some j => .inr (j : Int) | none => .inl ())
  | d, i, 0, _, h => by omega
  | 0, i, K + 1, hd, _ => by
    have hn : l.drop i = [] := List.drop_eq_nil_of_le (by omega)
    rw [hn]
    unfold slices_Index.l0 slices_Index.w0
    rw [show decide ((i : Int) < ((l.length : Nat) : Int)) = false from decide_eq_false (by omega)]
    rfl
  | d + 1, i, K + 1, hd, hk => by
    have hlt : i < l.length := by omega
    unfold slices_Index.l0 slices_Index.w0
    rw [show decide ((i : Int) < ((l.length : Nat) : Int)) = true from decide_eq_true (by omega), show decide ((0 : Int) ≤ (i : Int)) = true from decide_eq_true (by omega)]
    simp only [bif_t, Int.toNat_natCast, List.getElem?_eq_getElem hlt, Option.bind_some]
    rw [List.drop_eq_getElem_cons hlt]
    unfold ixL
    cases hs : seq x l[i]
    · simp only [bif_f]
      rw [wrap_in _ (by omega) (by omega), show ((i : Int) + 1) = ((i + 1 : Nat) : Int) from by omega]
      exact ix_loop κ x l hl d (i + 1) K (by omega) (by omega)
    · rfl
theorem index_eq (κ : Nat) (x : ByteArray) (l : List ByteArray) (hl : l.length < 1000000) (hκ : l.length < κ) : slices_Index κ l x = some (ixI x l) := by
  have h := ix_loop κ x l hl l.length 0 κ (by omega) hκ
  simp only [List.drop_zero, Int.natCast_zero] at h
  unfold slices_Index ixI
  rw [h]
  cases ixL x l 0 <;> rfl
def rgt (kd ty mi ma : Int) (ns : List ByteArray) (k n : Int) (t : ByteArray) : Bool :=
  kd == 1 && (k == ty && (bif ty == 1 || ty == 2 then decide (n ≥ mi) && (decide (n ≤ ma) && seq t B0)
    else bif ty == 3 then decide (n ≤ 1) && seq t B0
    else bif ty == 4 then decide (ixI t ns ≥ 0) && n == 0
    else bif ty == 5 || ty == 6 then idn t && n == 0 else false))
theorem right_eq (κ : Nat) (nm : ByteArray) (kd ty mi ma : Int) (ns : List ByteArray) (mu : Bool) (mo : Int) (ks : List SpecSpec) (k n : Int) (t : ByteArray) (hl : ns.length < 1000) (hκ : 1000 ≤ κ) :
    value_Right κ nm kd ty mi ma ns mu mo ks k n t = some (rgt kd ty mi ma ns k n t) := by
  unfold value_Right value_of rgt
  by_cases h : ¬ kd = 1
  · rw [show (kd != 1) = true from by simp [h], show (kd == 1) = false from by simp [h]]; rfl
  have h : kd = 1 := by simpa using h
  subst h
  by_cases h1 : ty = 1
  · subst h1
    unfold value_Right.v5 value_number_right_2 value_number_right_2.v0
    cases k == (1 : Int)
    · rfl
    · cases h2 : decide (n ≥ mi)
      · rfl
      · cases h3 : decide (n ≤ ma)
        · rfl
        · rfl
  by_cases h2 : ty = 2
  · subst h2
    unfold value_Right.v4 value_number_right value_number_right.v0
    cases k == (2 : Int)
    · rfl
    · cases h2 : decide (n ≥ mi)
      · rfl
      · cases h3 : decide (n ≤ ma)
        · rfl
        · rfl
  by_cases h3 : ty = 3
  · subst h3
    unfold value_Right.v3 value_truth_right value_truth_right.v0
    cases k == (3 : Int)
    · rfl
    · cases h2 : decide (n ≤ 1)
      · rfl
      · rfl
  by_cases h4 : ty = 4
  · subst h4
    unfold value_Right.v2 value_choice_right value_choice_right.v0 slices_Contains
    rw [index_eq κ t ns (by omega) (by omega)]
    cases k == (4 : Int)
    · rfl
    · simp only [Option.bind_some]
      cases h2 : decide (ixI t ns ≥ 0)
      · rfl
      · rfl
  have e1 : (ty == 1) = false := by simp [h1]
  have e2 : (ty == 2) = false := by simp [h2]
  have e3 : (ty == 3) = false := by simp [h3]
  have e4 : (ty == 4) = false := by simp [h4]
  rw [e1, e2, e3, e4]
  unfold value_of.v0
  by_cases h5 : ty = 5
  · subst h5
    unfold value_Right.v1 value_name_right value_name_right.v0
    rw [ident]
    cases k == (5 : Int)
    · rfl
    · simp only [Option.bind_some]
      cases idn t <;> rfl
  by_cases h6 : ty = 6
  · subst h6
    unfold value_Right.v1 value_name_right value_name_right.v0
    rw [ident]
    cases k == (6 : Int)
    · rfl
    · simp only [Option.bind_some]
      cases idn t <;> rfl
  have e5 : (ty == 5) = false := by simp [h5]
  have e6 : (ty == 6) = false := by simp [h6]
  rw [e5, e6]
  cases k == ty <;> rfl

def distinctB : List ByteArray → Bool
  | [] => true
  | x :: l => l.all (fun y => !(seq x y)) && distinctB l
def leafOk (s : SpecSpec) : Bool :=
  Nat.ble s.names.length 100 && s.names.all (fun x => !(seq x B0) && Nat.ble x.size 100) && distinctB s.names &&
  decide (0 ≤ s.min) && decide (s.min ≤ s.max) && decide (s.max ≤ 100000000)
theorem leaf_all : subs.all leafOk = true := by kernel_rfl
structure LeafOk (s : SpecSpec) : Prop where
  few : s.names.length ≤ 100
  nice : ∀ x ∈ s.names, seq x B0 = false ∧ x.size ≤ 100
  dist : distinctB s.names = true
  min0 : 0 ≤ s.min
  mm : s.min ≤ s.max
  max0 : s.max ≤ 100000000
theorem leaf_ok {s : SpecSpec} (h : s ∈ subs) : LeafOk s := by
  have := List.all_eq_true.1 leaf_all s h
  unfold leafOk at this
  simp only [Bool.and_eq_true, decide_eq_true_eq] at this
  obtain ⟨⟨⟨⟨⟨h1, h2⟩, h3⟩, h4⟩, h5⟩, h6⟩ := this
  refine ⟨Nat.le_of_ble_eq_true h1, fun x hx => ?_, h3, h4, h5, h6⟩
  have := List.all_eq_true.1 h2 x hx
  simp only [Bool.and_eq_true, Bool.not_eq_true'] at this
  exact ⟨this.1, Nat.le_of_ble_eq_true this.2⟩
theorem awake_at (k : Nat) : l08_awake (k + 2000) = some true := by kernel_rfl
end Go.Proofs.YthmohmmbhjpbcaaGreatDoor.Va8


namespace Go.Proofs.YthmohmmbhjpbcaaGreatDoor.Va8
open Go Ev Ev.Seat Go.Lib

theorem mk_data (s : ByteArray) : (⟨s.data.toList.toArray⟩ : ByteArray) = s := by simp
theorem data_of (l : List UInt8) : (⟨l.toArray⟩ : ByteArray).data.toList = l := by simp
theorem sized (l : List UInt8) : (⟨l.toArray⟩ : ByteArray).size = l.length := by show l.toArray.size = _; simp
theorem bs_inj {a b : List UInt8} : (⟨a.toArray⟩ : ByteArray) = ⟨b.toArray⟩ ↔ a = b := by
  constructor
  · intro h
    have := congrArg (fun s : ByteArray => s.data.toList) h
    simpa using this
  · rintro rfl; rfl
theorem seq_mk (a b : List UInt8) : seq ⟨a.toArray⟩ ⟨b.toArray⟩ = decide (a = b) := by
  unfold seq
  rw [data_of, data_of]; exact Bool.eq_iff_iff.2 (by simp)
theorem seq_B0 (a : List UInt8) : seq ⟨a.toArray⟩ B0 = decide (a = []) := seq_mk a []
def small (c : UInt8) : Bool := decide (97 ≤ c.toNat ∧ c.toNat ≤ 122)
def okc (c : UInt8) : Bool := decide ((97 ≤ c.toNat ∧ c.toNat ≤ 122) ∨ c.toNat = 45 ∨ (48 ≤ c.toNat ∧ c.toNat ≤ 57))
def idB : List UInt8 → Bool
  | [] => false
  | c :: r => small c && r.all okc && decide (r.length < 12)
end Go.Proofs.YthmohmmbhjpbcaaGreatDoor.Va8


namespace Go.Proofs.YthmohmmbhjpbcaaGreatDoor.Va8
open Go Ev Ev.Seat Go.Lib
/-- The number of a text that is one. -/
def uintV (s : ByteArray) : Option Nat := match Lib.parseUintB 64 s.data.toList with
  | .ok u => if s = ⟨(Lib.decDigits u).toArray⟩ then some u else none
  | _ => none
theorem mk_append (a b : List UInt8) : (⟨a.toArray⟩ : ByteArray) ++ (⟨b.toArray⟩ : ByteArray) = ⟨(a ++ b).toArray⟩ := by rw [ByteArray.mk_append_mk]
theorem dec_small {u : Nat} (h : u < 10) : decDigits u = [UInt8.ofNat (48 + u)] := by rw [decDigits, dif_pos h]
theorem dec_big {u : Nat} (h : ¬ u < 10) : decDigits u = decDigits (u / 10) ++ [UInt8.ofNat (48 + u % 10)] := by rw [decDigits, dif_neg h]
theorem dec_ne (u : Nat) : decDigits u ≠ [] := by
  by_cases h : u < 10
  · rw [dec_small h]; simp
  · rw [dec_big h]; simp
theorem byte_nat {n : Nat} (h : n < 256) : (UInt8.ofNat n).toNat = n := by
  simp [UInt8.toNat_ofNat']; omega
theorem parse_snoc (M : Nat) (c : UInt8) : ∀ (l : List UInt8) (acc v : Nat), parseUintM M acc l = .ok v → 48 ≤ c.toNat → c.toNat ≤ 57 → v < 1844674407370955162 → v * 10 + (c.toNat - 48) ≤ M → parseUintM M acc (l ++ [c]) = .ok (v * 10 + (c.toNat - 48))
  | [], acc, v, h, h1, h2, h3, h4 => by
    simp only [parseUintM] at h
    cases h
    simp only [List.nil_append, parseUintM]
    rw [if_pos ⟨h1, h2⟩, if_neg (by omega), if_neg (by omega)]
  | b :: l, acc, v, h, h1, h2, h3, h4 => by
    simp only [parseUintM] at h
    simp only [List.cons_append, parseUintM]
    split at h
    · rename_i hb
      rw [if_pos hb]
      split at h
      · cases h
      · rename_i hr
        rw [if_neg hr]
        split at h
        · cases h
        · rename_i hq
          rw [if_neg hq]
          exact parse_snoc M c l _ v h h1 h2 h3 h4
    · cases h
theorem parse_dec (u : Nat) (hu : u ≤ 18446744073709551615) : parseUintM 18446744073709551615 0 (decDigits u) = .ok u := by
  induction u using Nat.strongRecOn with
  | _ u ih =>
    by_cases h : u < 10
    · rw [dec_small h]
      have hb := byte_nat (n := 48 + u) (by omega)
      simp only [parseUintM, hb]
      rw [if_pos (by omega), if_neg (by omega), if_neg (by omega)]
      congr 1; omega
    · rw [dec_big h]
      have hb := byte_nat (n := 48 + u % 10) (by omega)
      have := parse_snoc 18446744073709551615 (UInt8.ofNat (48 + u % 10)) (decDigits (u / 10)) 0 (u / 10) (ih (u / 10) (by omega) (by omega)) (by omega) (by omega) (by omega) (by omega)
      rw [this, hb]
      congr 1; omega
theorem uintV_dec (u : Nat) (hu : u < 18446744073709551616) : uintV ⟨(decDigits u).toArray⟩ = some u := by
  have hp : parseUintB 64 (⟨(decDigits u).toArray⟩ : ByteArray).data.toList = .ok u := by
    show parseUintB 64 (decDigits u) = .ok u
    unfold parseUintB
    rw [if_neg (dec_ne u)]
    exact parse_dec u (by omega)
  unfold uintV
  rw [hp]
  simp
/-- Each byte of a numeral is a digit. -/
theorem dec_digits (u : Nat) : ∀ c ∈ decDigits u, 48 ≤ c.toNat ∧ c.toNat ≤ 57 := by
  induction u using Nat.strongRecOn with
  | _ u ih =>
    by_cases h : u < 10
    · rw [dec_small h]
      intro c hc
      rw [List.mem_singleton.1 hc, byte_nat (by omega)]; omega
    · rw [dec_big h]
      intro c hc
      rcases List.mem_append.1 hc with hc | hc
      · exact ih (u / 10) (by omega) c hc
      · rw [List.mem_singleton.1 hc, byte_nat (by omega)]; omega
theorem len_le {u : Nat} (hu : u < 18446744073709551616) : nDigits u ≤ 20 := by
  rcases Nat.eq_zero_or_pos u with rfl | h1
  · rw [nDigits_small (by omega)]; omega
  · have := numDigits_eq u h1 hu; split at this <;> omega
/-- A rate's text without its unit, and how many times its number is told. -/
def rateCut (s : ByteArray) : ByteArray × Nat := if Lib.hasSuffix s.data.toList [109] = true then (⟨(Lib.trimSuffix s.data.toList [109]).toArray⟩, 1000000) else if Lib.hasSuffix s.data.toList [107] = true then (⟨(Lib.trimSuffix s.data.toList [107]).toArray⟩, 1000) else (s, 1)
def rateV (s : ByteArray) : Option Nat := match uintV (rateCut s).1 with | some u => if u * (rateCut s).2 < 18446744073709551616 then some (u * (rateCut s).2) else none | none => none
def showRateV (u : Nat) : ByteArray := if 0 < u ∧ u % 1000000 = 0 then ⟨(Lib.decDigits (u / 1000000)).toArray⟩ ++ ⟨#[109]⟩ else if 0 < u ∧ u % 1000 = 0 then ⟨(Lib.decDigits (u / 1000)).toArray⟩ ++ ⟨#[107]⟩ else ⟨(Lib.decDigits u).toArray⟩
theorem suffix_snoc (m : List UInt8) (c d : UInt8) : hasSuffix (m ++ [c]) [d] = (d == c) := by
  unfold hasSuffix List.isSuffixOf
  simp [List.isPrefixOf]
theorem trim_snoc (m : List UInt8) (c : UInt8) : trimSuffix (m ++ [c]) [c] = m := by
  unfold trimSuffix
  rw [suffix_snoc, if_pos (by simp)]
  simp
def rateT (r : ByteArray) (t : Nat) : Option Nat := match uintV r with | some u => if u * t < 18446744073709551616 then some (u * t) else none | none => none
theorem rateV_m (m : List UInt8) : rateV ⟨(m ++ [109]).toArray⟩ = rateT ⟨m.toArray⟩ 1000000 := by
  unfold rateV rateCut rateT
  rw [data_of, suffix_snoc, trim_snoc]; rfl
theorem rateV_k (m : List UInt8) : rateV ⟨(m ++ [107]).toArray⟩ = rateT ⟨m.toArray⟩ 1000 := by
  unfold rateV rateCut rateT
  rw [data_of, suffix_snoc, suffix_snoc, trim_snoc]; rfl
theorem rateV_n (m : List UInt8) (c : UInt8) (h1 : c ≠ 109) (h2 : c ≠ 107) : rateV ⟨(m ++ [c]).toArray⟩ = rateT ⟨(m ++ [c]).toArray⟩ 1 := by
  unfold rateV rateCut rateT
  have e1 : ((109 : UInt8) == c) = false := by simpa using fun e => h1 e.symm
  have e2 : ((107 : UInt8) == c) = false := by simpa using fun e => h2 e.symm
  rw [data_of, suffix_snoc, suffix_snoc, e1, e2]; rfl
theorem last_digit (u : Nat) : ∃ m c, decDigits u = m ++ [c] ∧ c ≠ 109 ∧ c ≠ 107 := by
  rcases List.eq_nil_or_concat (decDigits u) with h | ⟨m, c, h⟩
  · exact absurd h (dec_ne u)
  · rw [List.concat_eq_append] at h
    have hc := dec_digits u c (by rw [h]; simp)
    refine ⟨m, c, h, ?_, ?_⟩
    · rintro rfl; exact absurd hc.2 (by decide)
    · rintro rfl; exact absurd hc.2 (by decide)
theorem rateT_dec (u t : Nat) (hu : u < 18446744073709551616) : rateT ⟨(decDigits u).toArray⟩ t = if u * t < 18446744073709551616 then some (u * t) else none := by
  unfold rateT; rw [uintV_dec u hu]
theorem rate_plain (u : Nat) (hu : u < 18446744073709551616) : rateV ⟨(decDigits u).toArray⟩ = some u := by
  obtain ⟨m, c, h, h1, h2⟩ := last_digit u
  have e := rateV_n m c h1 h2
  rw [← h] at e
  rw [e, rateT_dec u 1 hu, if_pos (by omega), Nat.mul_one]
theorem rate_k (u : Nat) (hu : u < 18446744073709551616) : rateV (⟨(decDigits u).toArray⟩ ++ ⟨#[107]⟩) = if u * 1000 < 18446744073709551616 then some (u * 1000) else none := by
  have e : (⟨(decDigits u).toArray⟩ : ByteArray) ++ ⟨#[107]⟩ = ⟨(decDigits u ++ [107]).toArray⟩ := mk_append _ [107]
  rw [e, rateV_k, rateT_dec u 1000 hu]
theorem rate_m (u : Nat) (hu : u < 18446744073709551616) : rateV (⟨(decDigits u).toArray⟩ ++ ⟨#[109]⟩) = if u * 1000000 < 18446744073709551616 then some (u * 1000000) else none := by
  have e : (⟨(decDigits u).toArray⟩ : ByteArray) ++ ⟨#[109]⟩ = ⟨(decDigits u ++ [109]).toArray⟩ := mk_append _ [109]
  rw [e, rateV_m, rateT_dec u 1000000 hu]
theorem show_rate (u : Nat) (hu : u < 18446744073709551616) : rateV (showRateV u) = some u := by
  unfold showRateV
  split
  · rename_i h
    have e : u / 1000000 * 1000000 = u := by omega
    rw [rate_m _ (by omega), e, if_pos hu]
  · split
    · rename_i h
      have e : u / 1000 * 1000 = u := by omega
      rw [rate_k _ (by omega), e, if_pos hu]
    · exact rate_plain u hu
theorem size_app (a b : ByteArray) : (a ++ b).size = a.size + b.size := ByteArray.size_append
theorem my_show (κ : Nat) (u : Nat) (h : u < 18446744073709551616) : scalShow κ (u : Int) = some ⟨(decDigits u).toArray⟩ := by
  unfold scalShow showOf
  rw [show decide ((0 : Int) ≤ (u : Int)) = true from decide_eq_true (by omega), show decide ((u : Int) < 18446744073709551616) = true from decide_eq_true (by omega)]
  rfl
end Go.Proofs.YthmohmmbhjpbcaaGreatDoor.Va8


namespace Go.Proofs.YthmohmmbhjpbcaaGreatDoor.Va8
open Go Ev Ev.Seat Go.Lib

theorem wrapu {x : Int} (h0 : 0 ≤ x) (h1 : x ≤ 18446744073709551615) : IntKind.wrap IntKind.u64 x = x := by rw [IntKind.wrap_u64]; omega
theorem wrap8 {x : Int} (h0 : 0 ≤ x) (h1 : x ≤ 255) : IntKind.wrap IntKind.u8 x = x := by rw [IntKind.wrap_u8]; omega
theorem div_wrap (u t : Nat) (ht : 0 < t) (h : u < 18446744073709551616) : IntKind.wrap IntKind.u64 (Int.tdiv (u : Int) (t : Int)) = ((u / t : Nat) : Int) := by
  have h1 : u / t ≤ u := Nat.div_le_self u t
  rw [Int.tdiv_eq_ediv_of_nonneg (by omega), ← Int.natCast_ediv]
  generalize u / t = q at h1 ⊢
  exact wrapu (by omega) (by omega)
theorem mod_zero (u t : Nat) : ((Int.tmod (u : Int) (t : Int)) == (0 : Int)) = decide (u % t = 0) := by
  rw [Int.tmod_eq_emod_of_nonneg (by omega), ← Int.natCast_emod]
  by_cases h : u % t = 0
  · rw [h]; rfl
  · rw [decide_eq_false h]; exact beq_eq_false_iff_ne.2 (by omega)
theorem ble_small (d : ByteArray) (b : UInt8) (h : d.size ≤ 40) : Nat.ble (d.size + ByteArray.size (ByteArray.mk (List.toArray (b :: [])))) maxI = true :=
  Nat.ble_eq_true_of_le (by
    have : ByteArray.size (ByteArray.mk (List.toArray (b :: []))) = 1 := rfl
    rw [this]; unfold maxI; omega)
theorem dec_sz (u : Nat) (h : u < 18446744073709551616) : (⟨(decDigits u).toArray⟩ : ByteArray).size ≤ 40 := by
  have := len_le h
  rw [sized, decDigits_length]; omega
theorem my_showRate (κ : Nat) (u : Nat) (h : u < 18446744073709551616) : scalar_ShowRate κ (u : Int) = some (showRateV u) := by
  unfold scalar_ShowRate showRateV
  have m6 : ((Int.tmod (u : Int) (1000000 : Int)) == (0 : Int)) = decide (u % 1000000 = 0) := mod_zero u 1000000
  have m3 : ((Int.tmod (u : Int) (1000 : Int)) == (0 : Int)) = decide (u % 1000 = 0) := mod_zero u 1000
  have d6 : IntKind.wrap IntKind.u64 (Int.tdiv (u : Int) (1000000 : Int)) = ((u / 1000000 : Nat) : Int) := div_wrap u 1000000 (by omega) h
  have d3 : IntKind.wrap IntKind.u64 (Int.tdiv (u : Int) (1000 : Int)) = ((u / 1000 : Nat) : Int) := div_wrap u 1000 (by omega) h
  by_cases h0 : 0 < u
  · rw [show decide (((u : Nat) : Int) > 0) = true from decide_eq_true (by omega), m6, m3, d6, d3, my_show κ _ (by omega), my_show κ _ (by omega), my_show κ u h]
    simp only [bif_t, Option.bind_some, ble_small _ _ (dec_sz (u / 1000000) (by omega)), ble_small _ _ (dec_sz (u / 1000) (by omega))]
    by_cases h6 : u % 1000000 = 0
    · rw [decide_eq_true h6, if_pos ⟨h0, h6⟩]; rfl
    · rw [decide_eq_false h6, if_neg (fun z => h6 z.2)]
      by_cases h3 : u % 1000 = 0
      · rw [decide_eq_true h3, if_pos ⟨h0, h3⟩]; rfl
      · rw [decide_eq_false h3, if_neg (fun z => h3 z.2)]; rfl
  · rw [show decide (((u : Nat) : Int) > 0) = false from decide_eq_false (by omega), my_show κ u h, if_neg (fun z => h0 z.1), if_neg (fun z => h0 z.1)]
    rfl
end Go.Proofs.YthmohmmbhjpbcaaGreatDoor.Va8


namespace Go.Proofs.YthmohmmbhjpbcaaGreatDoor.Va8
open Go Ev Ev.Seat Go.Lib

end Go.Proofs.YthmohmmbhjpbcaaGreatDoor.Va8


namespace Go.Proofs.YthmohmmbhjpbcaaGreatDoor.Va8
open Go Ev Ev.Seat Go.Lib

/-- The last k digits of a number, of base 256. -/
def dgB (x : Nat) : Nat → List UInt8
  | 0 => []
  | k + 1 => UInt8.ofNat (x / 256 ^ k % 256) :: dgB x k
theorem dgB_snoc (x : Nat) : ∀ k, dgB x (k + 1) = dgB (x / 256) k ++ [UInt8.ofNat (x % 256)]
  | 0 => by simp [dgB]
  | k + 1 => by
    have ih := dgB_snoc x k
    rw [dgB, ih]
    have : x / 256 ^ (k + 1) = x / 256 / 256 ^ k := by rw [Nat.div_div_eq_div_mul, Nat.pow_succ, Nat.mul_comm]
    rw [this]; rfl
def vl (l : List UInt8) : Nat := l.foldl (fun a c => 256 * a + c.toNat) 0
theorem vl_snoc (l : List UInt8) (c : UInt8) : vl (l ++ [c]) = 256 * vl l + c.toNat := by unfold vl; rw [List.foldl_append]; rfl
theorem vl_dgB : ∀ (k x : Nat), x < 256 ^ k → vl (dgB x k) = x
  | 0, x, h => by
    have : x = 0 := by simpa using h
    rw [this]; rfl
  | k + 1, x, h => by
    rw [dgB_snoc, vl_snoc, vl_dgB k (x / 256) (by rw [Nat.pow_succ] at h; omega), byte_nat (Nat.mod_lt _ (by omega))]
    omega
def blen (x : Nat) : Nat := if x = 0 then 0 else blen (x / 256) + 1
theorem blen0 : blen 0 = 0 := by rw [blen]; rfl
theorem blen_pos {x : Nat} (h : x ≠ 0) : blen x = blen (x / 256) + 1 := by rw [blen, if_neg h]
theorem blen_pow (x : Nat) : x < 256 ^ blen x := by
  induction x using Nat.strongRecOn with
  | _ x ih =>
    by_cases h : x = 0
    · rw [h, blen0]; omega
    · rw [blen_pos h, Nat.pow_succ]
      have := ih (x / 256) (by omega)
      omega
theorem blen_le : ∀ (k x : Nat), x < 256 ^ k → blen x ≤ k
  | 0, x, h => by
    have : x = 0 := by simpa using h
    rw [this, blen0]; omega
  | k + 1, x, h => by
    by_cases h0 : x = 0
    · rw [h0, blen0]; omega
    · rw [blen_pos h0]
      have := blen_le k (x / 256) (by rw [Nat.pow_succ] at h; omega)
      omega
theorem blen8 {x : Nat} (h : x < 18446744073709551616) : blen x ≤ 8 := blen_le 8 x (by omega)
/-- A number in as few bytes as can be. -/
def lst (x : Nat) : List UInt8 := dgB x (blen x)
theorem vl_lst (x : Nat) : vl (lst x) = x := vl_dgB _ x (blen_pow x)
theorem lst_inj {x y : Nat} (h : lst x = lst y) : x = y := by rw [← vl_lst x, h, vl_lst]
/-- Bytes as numbers. -/
def nums (l : List UInt8) : List Int := l.map fun c => ((c.toNat : Nat) : Int)
theorem nums_app (a b : List UInt8) : nums (a ++ b) = nums a ++ nums b := by unfold nums; rw [List.map_append]
theorem nums_len (l : List UInt8) : (nums l).length = l.length := by unfold nums; rw [List.length_map]
theorem back (l : List UInt8) : List.map (fun x => (UInt8.ofNat (Int.toNat x))) (nums l) = l := by
  unfold nums
  rw [List.map_map]
  conv => rhs; rw [← List.map_id l]
  refine List.map_congr_left fun c _ => ?_
  simp
theorem fdiv256 (y : Nat) : Int.fdiv (y : Int) ((2 : Int) ^ (Min.min (Int.toNat (8 : Int)) (IntKind.bits IntKind.u64))) = ((y / 256 : Nat) : Int) := by
  have : ((2 : Int) ^ (Min.min (Int.toNat (8 : Int)) (IntKind.bits IntKind.u64))) = 256 := by decide
  rw [this, Int.fdiv_eq_ediv_of_nonneg _ (by omega)]
  omega
theorem least_loop (κ : Nat) (a : Int) : ∀ (K y : Nat) (c : Nat), y < 18446744073709551616 → blen y < K → c + blen y ≤ 1000 →
    octet_Least.l0 κ K (a, (c : Int), (y : Int)) = some (a, ((c + blen y : Nat) : Int))
  | 0, y, c, _, h, _ => by omega
  | K + 1, y, c, hy, hK, hc => by
    unfold octet_Least.l0 octet_Least.w0
    by_cases h : y = 0
    · subst h
      rw [show decide (((0 : Nat) : Int) > 0) = false from rfl, blen0]; rfl
    · have hb := blen_pos h
      rw [show decide (((y : Nat) : Int) > 0) = true from decide_eq_true (by omega), fdiv256]
      simp only [bif_t]
      rw [wrap_in _ (by omega) (by omega), show ((c : Int) + 1) = ((c + 1 : Nat) : Int) from by omega, least_loop κ a K (y / 256) (c + 1) (by omega) (by omega) (by omega)]
      congr 3
      omega
theorem shr (x k : Nat) (hk : k ≤ 7) : IntKind.wrap IntKind.u8 (Int.fdiv (x : Int) ((2 : Int) ^ (Min.min (Int.toNat (IntKind.wrap IntKind.i64 ((8 : Int) * (k : Int)))) (IntKind.bits IntKind.u64)))) = (((UInt8.ofNat (x / 256 ^ k % 256)).toNat : Nat) : Int) := by
  rw [wrap_in _ (by omega) (by omega)]
  have h1 : Int.toNat ((8 : Int) * (k : Int)) = 8 * k := by omega
  have h2 : Min.min (8 * k) (IntKind.bits IntKind.u64) = 8 * k := Nat.min_eq_left (by show 8 * k ≤ 64; omega)
  have h3 : ((2 : Int) ^ (8 * k)) = ((256 ^ k : Nat) : Int) := by
    have : (256 ^ k : Nat) = 2 ^ (8 * k) := by rw [Nat.pow_mul]
    rw [this]; simp
  rw [h1, h2, h3, Int.fdiv_eq_ediv_of_nonneg _ (Int.natCast_nonneg _), ← Int.natCast_ediv, byte_nat (Nat.mod_lt _ (by omega)), IntKind.wrap_u8]
  generalize x / 256 ^ k = q
  omega
theorem big_loop (κ : Nat) (x : Nat) : ∀ (j K : Nat) (l : List UInt8), j ≤ 8 → j < K → l.length + j ≤ 100 →
    octet_Big.l2 κ K ((x : Int), (j : Int) - 1, nums l) = some (nums (l ++ dgB x j))
  | j, 0, l, _, h, _ => by omega
  | 0, K + 1, l, _, _, _ => by
    unfold octet_Big.l2 octet_Big.w2
    rw [show decide (((0 : Nat) : Int) - 1 ≥ 0) = false from rfl]
    rw [show dgB x 0 = [] from rfl, List.append_nil]; rfl
  | j + 1, K + 1, l, h8, hK, hl => by
    have e : ((j + 1 : Nat) : Int) - 1 = (j : Int) := by omega
    unfold octet_Big.l2 octet_Big.w2
    rw [e, show decide ((j : Int) ≥ 0) = true from decide_eq_true (by omega), shr x j (by omega)]
    have hw : decide (IntKind.wrap IntKind.i64 ((8 : Int) * (j : Int)) < 0) = false := decide_eq_false (by rw [wrap_in _ (by omega) (by omega)]; omega)
    have hr : Nat.ble ((nums l).length + ((((UInt8.ofNat (x / 256 ^ j % 256)).toNat : Nat) : Int) :: []).length) (room (0 + 1)) = true := Nat.ble_eq_true_of_le (by rw [nums_len]; unfold room; simp; omega)
    rw [hw, hr]
    simp only [bif_t, bif_f]
    rw [wrap_in _ (by omega) (by omega)]
    have hn : nums l ++ [(((UInt8.ofNat (x / 256 ^ j % 256)).toNat : Nat) : Int)] = nums (l ++ [UInt8.ofNat (x / 256 ^ j % 256)]) := by rw [nums_app]; rfl
    rw [hn, big_loop κ x j K _ (by omega) (by omega) (by rw [List.length_append, List.length_singleton]; omega), List.append_assoc]
    rfl
theorem least_eq (κ : Nat) (hκ : 30 ≤ κ) (x : Nat) (h : x < 18446744073709551616) : octet_Least κ (x : Int) = some (nums (lst x)) := by
  have hb := blen8 h
  have h1 := least_loop κ (x : Int) κ x 0 h (by omega) (by omega)
  unfold octet_Least
  have h1 : octet_Least.l0 κ κ ((x : Int), (0 : Int), (x : Int)) = some ((x : Int), ((0 + blen x : Nat) : Int)) := h1
  rw [h1, Nat.zero_add]
  simp only [Option.bind_some]
  unfold octet_Big octet_Big.v0 lst
  by_cases h0 : blen x = 0
  · rw [h0]; rfl
  · rw [show decide (((blen x : Nat) : Int) < 1) = false from decide_eq_false (by omega), show decide (((blen x : Nat) : Int) > 8) = false from decide_eq_false (by omega)]
    simp only [bif_f, Option.bind_some]
    rw [wrap_in _ (by omega) (by omega)]
    have := big_loop κ x (blen x) κ [] (by omega) (by omega) (by simp; omega)
    have e : nums ([] : List UInt8) = [] := rfl
    rw [e] at this
    rw [this]; rfl
end Go.Proofs.YthmohmmbhjpbcaaGreatDoor.Va8


namespace Go.Proofs.YthmohmmbhjpbcaaGreatDoor.Va8
open Go Ev Ev.Seat Go.Lib

theorem rgt_cases {kd ty mi ma : Int} {ns : List ByteArray} {k n : Int} {t : ByteArray} (h : rgt kd ty mi ma ns k n t = true) :
    kd = 1 ∧ k = ty ∧ (((ty = 1 ∨ ty = 2) ∧ mi ≤ n ∧ n ≤ ma ∧ t = B0) ∨ (ty = 3 ∧ n ≤ 1 ∧ t = B0) ∨ (ty = 4 ∧ 0 ≤ ixI t ns ∧ n = 0) ∨ ((ty = 5 ∨ ty = 6) ∧ idn t = true ∧ n = 0)) := by
  unfold rgt at h
  simp only [Bool.and_eq_true, beq_iff_eq] at h
  obtain ⟨h1, h2, h3⟩ := h
  refine ⟨h1, h2, ?_⟩
  by_cases t12 : ty = 1 ∨ ty = 2
  · have : (ty == 1 || ty == 2) = true := by simpa using t12
    rw [this] at h3
    simp only [bif_t, Bool.and_eq_true, decide_eq_true_eq] at h3
    exact .inl ⟨t12, h3.1, h3.2.1, seq_iff.1 h3.2.2⟩
  · have : (ty == 1 || ty == 2) = false := by simpa using t12
    rw [this] at h3
    simp only [bif_f] at h3
    by_cases t3 : ty = 3
    · rw [show (ty == 3) = true from by simp [t3]] at h3
      simp only [bif_t, Bool.and_eq_true, decide_eq_true_eq] at h3
      exact .inr (.inl ⟨t3, h3.1, seq_iff.1 h3.2⟩)
    · rw [show (ty == 3) = false from by simp [t3]] at h3
      simp only [bif_f] at h3
      by_cases t4 : ty = 4
      · rw [show (ty == 4) = true from by simp [t4]] at h3
        simp only [bif_t, Bool.and_eq_true, decide_eq_true_eq, beq_iff_eq] at h3
        exact .inr (.inr (.inl ⟨t4, h3.1, h3.2⟩))
      · rw [show (ty == 4) = false from by simp [t4]] at h3
        simp only [bif_f] at h3
        by_cases t5 : ty = 5 ∨ ty = 6
        · have : (ty == 5 || ty == 6) = true := by simpa using t5
          rw [this] at h3
          simp only [bif_t, Bool.and_eq_true, beq_iff_eq] at h3
          exact .inr (.inr (.inr ⟨t5, h3.1, h3.2⟩))
        · have : (ty == 5 || ty == 6) = false := by simpa using t5
          rw [this] at h3
          cases h3

abbrev BT : ByteArray := ByteArray.mk (List.toArray ((116 : UInt8) :: ((114 : UInt8) :: ((117 : UInt8) :: ((101 : UInt8) :: [])))))
abbrev BF : ByteArray := ByteArray.mk (List.toArray ((102 : UInt8) :: ((97 : UInt8) :: ((108 : UInt8) :: ((115 : UInt8) :: ((101 : UInt8) :: []))))))
/-- A value as text. -/
def txt (ty n : Int) (t : ByteArray) : ByteArray :=
  bif ty == 1 then ⟨(decDigits n.toNat).toArray⟩ else bif ty == 2 then showRateV n.toNat else bif ty == 3 then (bif n == 1 then BT else BF) else t
theorem text_eq (κ : Nat) (nm : ByteArray) (kd ty mi ma : Int) (ns : List ByteArray) (mu : Bool) (mo : Int) (ks : List SpecSpec) (k n : Int) (t : ByteArray) (hl : ns.length < 1000) (hκ : 1000 ≤ κ) (h0 : 0 ≤ n) (h1 : n < 18446744073709551616) :
    value_Text κ nm kd ty mi ma ns mu mo ks k n t = some (bif rgt kd ty mi ma ns k n t then txt ty n t else B0) := by
  unfold value_Text
  rw [right_eq κ nm kd ty mi ma ns mu mo ks k n t hl hκ]
  cases hr : rgt kd ty mi ma ns k n t
  · rfl
  obtain ⟨u, rfl⟩ := Int.eq_ofNat_of_zero_le h0
  obtain ⟨rfl, rfl, h⟩ := rgt_cases hr
  simp only [Option.bind_some, Bool.not_true, bif_f, bif_t]
  unfold value_of txt
  rcases h with ⟨ht | ht, _⟩ | ⟨ht, hn, _⟩ | ⟨ht, _⟩ | ⟨ht | ht, _⟩
  · subst ht
    unfold value_number_text_2
    rw [my_show κ u (by omega)]
    rfl
  · subst ht
    unfold value_number_text
    rw [my_showRate κ u (by omega)]
    rfl
  · subst ht
    have : u = 0 ∨ u = 1 := by omega
    rcases this with rfl | rfl <;> rfl
  · subst ht; rfl
  · subst ht; rfl
  · subst ht; rfl
/-- A value as bytes. -/
def dat (ty n : Int) (t : ByteArray) (ns : List ByteArray) : List UInt8 :=
  bif ty == 1 || ty == 2 then lst n.toNat else bif ty == 3 then [UInt8.ofNat n.toNat] else bif ty == 4 then [UInt8.ofNat (ixI t ns).toNat] else t.data.toList
theorem ixI_lt (t : ByteArray) (ns : List ByteArray) : ixI t ns < (ns.length : Int) ∧ -1 ≤ ixI t ns := by
  unfold ixI
  cases h : ixL t ns 0 with
  | none => exact ⟨by simp only; omega, by simp only; omega⟩
  | some j =>
    obtain ⟨_, h2⟩ := ixL_some h
    have := (List.getElem?_eq_some_iff.1 h2).1
    exact ⟨by simp only; omega, by simp only; omega⟩
theorem name_bytes (κ : Nat) (nm : ByteArray) (kd ty mi ma : Int) (ns : List ByteArray) (mu : Bool) (mo : Int) (ks : List SpecSpec) (k n : Int) (t : ByteArray) (h : t.size ≤ 1000) :
    value_name_data κ nm kd ty mi ma ns mu mo ks k n t = some (nums t.data.toList) := by
  unfold value_name_data
  rw [Nat.ble_eq_true_of_le (by unfold maxI; omega)]; rfl
theorem choice_bytes (κ : Nat) (nm : ByteArray) (kd ty mi ma : Int) (ns : List ByteArray) (mu : Bool) (mo : Int) (ks : List SpecSpec) (k n : Int) (t : ByteArray) (hl : ns.length ≤ 100) (hκ : 1000 ≤ κ) (h0 : 0 ≤ ixI t ns) :
    value_choice_data κ nm kd ty mi ma ns mu mo ks k n t = some (nums [UInt8.ofNat (ixI t ns).toNat]) := by
  have hlt := (ixI_lt t ns).1
  unfold value_choice_data
  rw [index_eq κ t ns (by omega) (by omega)]
  simp only [Option.bind_some]
  obtain ⟨u, hu⟩ := Int.eq_ofNat_of_zero_le h0
  rw [hu] at hlt ⊢
  rw [wrap8 (by omega) (by omega)]
  unfold nums
  simp only [List.map_cons, List.map_nil, Int.toNat_natCast]
  rw [byte_nat (by omega)]
theorem data_eq (κ : Nat) (nm : ByteArray) (kd ty mi ma : Int) (ns : List ByteArray) (mu : Bool) (mo : Int) (ks : List SpecSpec) (k n : Int) (t : ByteArray) (hl : ns.length ≤ 100) (hκ : 1000 ≤ κ) (h0 : 0 ≤ n) (h1 : n < 18446744073709551616) :
    value_Data κ nm kd ty mi ma ns mu mo ks k n t = some (nums (bif rgt kd ty mi ma ns k n t then dat ty n t ns else [])) := by
  unfold value_Data
  rw [right_eq κ nm kd ty mi ma ns mu mo ks k n t (by omega) hκ]
  cases hr : rgt kd ty mi ma ns k n t
  · rfl
  obtain ⟨u, rfl⟩ := Int.eq_ofNat_of_zero_le h0
  obtain ⟨rfl, rfl, h⟩ := rgt_cases hr
  simp only [Option.bind_some, Bool.not_true, bif_f, bif_t]
  unfold value_of dat
  rcases h with ⟨ht | ht, _⟩ | ⟨ht, hn, _⟩ | ⟨ht, hx, _⟩ | ⟨ht | ht, hi, _⟩
  · subst ht
    unfold value_number_data_2
    rw [least_eq κ (by omega) u (by omega)]
    rfl
  · subst ht
    unfold value_number_data
    rw [least_eq κ (by omega) u (by omega)]
    rfl
  · subst ht
    have : u = 0 ∨ u = 1 := by omega
    rcases this with rfl | rfl <;> rfl
  · subst ht
    rw [choice_bytes κ nm 1 4 mi ma ns mu mo ks 4 (u : Int) t hl hκ hx]
    rfl
  · subst ht
    have := idn_size hi
    rw [name_bytes κ nm 1 5 mi ma ns mu mo ks 5 (u : Int) t (by omega)]
    rfl
  · subst ht
    have := idn_size hi
    rw [name_bytes κ nm 1 6 mi ma ns mu mo ks 6 (u : Int) t (by omega)]
    rfl
end Go.Proofs.YthmohmmbhjpbcaaGreatDoor.Va8


namespace Go.Proofs.YthmohmmbhjpbcaaGreatDoor.Va8
open Go Ev Ev.Seat Go.Lib

theorem dec_inj {u v : Nat} (hu : u < 18446744073709551616) (hv : v < 18446744073709551616) (h : decDigits u = decDigits v) : u = v := by
  have h1 := uintV_dec u hu
  rw [h, uintV_dec v hv] at h1
  exact (Option.some.inj h1).symm
theorem rate_inj {u v : Nat} (hu : u < 18446744073709551616) (hv : v < 18446744073709551616) (h : showRateV u = showRateV v) : u = v := by
  have h1 := show_rate u hu
  rw [h, show_rate v hv] at h1
  exact (Option.some.inj h1).symm
theorem rate_ne (u : Nat) : showRateV u ≠ B0 := by
  have hp : ∀ v, 1 ≤ (decDigits v).length := fun v => by
    rcases h : decDigits v with _ | ⟨a, l⟩
    · exact absurd h (dec_ne v)
    · simp
  intro h
  have hs : (showRateV u).size = 0 := by rw [h]; rfl
  unfold showRateV at hs
  have h0 := hp u
  have h3 := hp (u / 1000)
  have h6 := hp (u / 1000000)
  split at hs
  · rw [size_app, sized] at hs; omega
  · split at hs
    · rw [size_app, sized] at hs; omega
    · rw [sized] at hs; omega
theorem ixI_mem {t : ByteArray} {ns : List ByteArray} (h : 0 ≤ ixI t ns) : ∃ j : Nat, ixI t ns = (j : Int) ∧ ns[j]? = some t := by
  unfold ixI at h ⊢
  cases hj : ixL t ns 0 with
  | none => rw [hj] at h; simp at h
  | some j => exact ⟨j, rfl, by have := (ixL_some hj).2; simpa using this⟩
/-- What a leaf may have is told apart by its text, and by its bytes. -/
theorem apart {s : SpecSpec} (ok : LeafOk s) {k n k' n' : Int} {t t' : ByteArray} (h0 : 0 ≤ n) (h1 : n < 18446744073709551616) (h0' : 0 ≤ n') (h1' : n' < 18446744073709551616)
    (hr : rgt s.kind s.type_ s.min s.max s.names k n t = true) (hr' : rgt s.kind s.type_ s.min s.max s.names k' n' t' = true) :
    (seq (txt s.type_ n t) (txt s.type_ n' t') = ((k == k') && ((n == n') && seq t t'))) ∧
    (seq (⟨(dat s.type_ n t s.names).toArray⟩ : ByteArray) ⟨(dat s.type_ n' t' s.names).toArray⟩ = ((k == k') && ((n == n') && seq t t'))) ∧ seq (txt s.type_ n t) B0 = false := by
  obtain ⟨hk, rfl, h⟩ := rgt_cases hr
  obtain ⟨_, rfl, h'⟩ := rgt_cases hr'
  obtain ⟨u, rfl⟩ := Int.eq_ofNat_of_zero_le h0
  obtain ⟨v, rfl⟩ := Int.eq_ofNat_of_zero_le h0'
  have key : ∀ (a b : ByteArray), (a = b ↔ (u = v ∧ t = t')) → seq a b = ((s.type_ == s.type_) && ((((u : Nat) : Int) == ((v : Nat) : Int)) && seq t t')) := by
    intro a b hab
    rw [Bool.eq_iff_iff, seq_iff, hab]
    simp only [BEq.rfl, Bool.true_and, Bool.and_eq_true, beq_iff_eq, seq_iff]
    exact ⟨fun ⟨a, b⟩ => ⟨by omega, b⟩, fun ⟨a, b⟩ => ⟨by omega, b⟩⟩
  have keyB : ∀ (a b : List UInt8), (a = b ↔ (u = v ∧ t = t')) → seq (⟨a.toArray⟩ : ByteArray) ⟨b.toArray⟩ = ((s.type_ == s.type_) && ((((u : Nat) : Int) == ((v : Nat) : Int)) && seq t t')) := fun a b hab => key _ _ (bs_inj.trans hab)
  rcases h with ⟨ht | ht, _, _, e⟩ | ⟨ht, hn, e⟩ | ⟨ht, hx, hz⟩ | ⟨ht, hi, hz⟩
  · have e' : t' = B0 := by
      rcases h' with ⟨_, _, _, e⟩ | ⟨h, _⟩ | ⟨h, _⟩ | ⟨h, _⟩ <;> first | exact e | omega
    refine ⟨key _ _ ?_, keyB _ _ ?_, ?_⟩
    · rw [ht]; unfold txt
      show (⟨(decDigits u).toArray⟩ : ByteArray) = ⟨(decDigits v).toArray⟩ ↔ _
      rw [bs_inj]
      exact ⟨fun h => ⟨dec_inj (by omega) (by omega) h, by rw [e, e']⟩, fun h => by rw [h.1]⟩
    · rw [ht]; unfold dat
      show lst u = lst v ↔ _
      exact ⟨fun h => ⟨lst_inj h, by rw [e, e']⟩, fun h => by rw [h.1]⟩
    · rw [ht]; unfold txt
      show seq (⟨(decDigits u).toArray⟩ : ByteArray) B0 = false
      rw [seq_B0]; exact decide_eq_false (dec_ne u)
  · have e' : t' = B0 := by
      rcases h' with ⟨_, _, _, e⟩ | ⟨h, _⟩ | ⟨h, _⟩ | ⟨h, _⟩ <;> first | exact e | omega
    refine ⟨key _ _ ?_, keyB _ _ ?_, ?_⟩
    · rw [ht]; unfold txt
      show showRateV u = showRateV v ↔ _
      exact ⟨fun h => ⟨rate_inj (by omega) (by omega) h, by rw [e, e']⟩, fun h => by rw [h.1]⟩
    · rw [ht]; unfold dat
      show lst u = lst v ↔ _
      exact ⟨fun h => ⟨lst_inj h, by rw [e, e']⟩, fun h => by rw [h.1]⟩
    · rw [ht]; unfold txt
      show seq (showRateV u) B0 = false
      exact Bool.eq_false_iff.2 fun h => rate_ne u (seq_iff.1 h)
  · obtain ⟨e', hn'⟩ : t' = B0 ∧ v ≤ 1 := by
      rcases h' with ⟨h, _⟩ | ⟨_, h2, e⟩ | ⟨h, _⟩ | ⟨h, _⟩ <;> first | exact ⟨e, by omega⟩ | omega
    subst e; subst e'
    have c1 : u = 0 ∨ u = 1 := by omega
    have c2 : v = 0 ∨ v = 1 := by omega
    rw [ht]
    rcases c1 with rfl | rfl <;> rcases c2 with rfl | rfl <;> exact ⟨by decide +kernel, by kernel_rfl, by decide +kernel⟩
  · obtain ⟨hx', hz'⟩ : 0 ≤ ixI t' s.names ∧ v = 0 := by
      rcases h' with ⟨h, _⟩ | ⟨h, _⟩ | ⟨_, h2, e⟩ | ⟨h, _⟩ <;> first | exact ⟨h2, by omega⟩ | omega
    have hu : u = 0 := by omega
    obtain ⟨j, hj, gj⟩ := ixI_mem hx
    obtain ⟨j', hj', gj'⟩ := ixI_mem hx'
    have l1 := (ixI_lt t s.names).1
    have l2 := (ixI_lt t' s.names).1
    have hf := ok.few
    refine ⟨key _ _ ?_, keyB _ _ ?_, ?_⟩
    · rw [ht]; unfold txt
      show t = t' ↔ _
      exact ⟨fun h => ⟨by omega, h⟩, fun h => h.2⟩
    · rw [ht]; unfold dat
      show [UInt8.ofNat (ixI t s.names).toNat] = [UInt8.ofNat (ixI t' s.names).toNat] ↔ _
      constructor
      · intro h
        refine ⟨by omega, ?_⟩
        have h2 := (List.cons.inj h).1
        have h3 := congrArg UInt8.toNat h2
        rw [byte_nat (by omega), byte_nat (by omega), hj, hj'] at h3
        have : j = j' := by omega
        rw [this] at gj
        rw [gj] at gj'
        exact Option.some.inj gj'
      · intro h; rw [h.2]
    · rw [ht]; unfold txt
      show seq t B0 = false
      exact (ok.nice t (List.mem_of_getElem? gj)).1
  · obtain ⟨hi', hz'⟩ : idn t' = true ∧ v = 0 := by
      rcases h' with ⟨h, _⟩ | ⟨h, _⟩ | ⟨h, _⟩ | ⟨_, h2, e⟩ <;> first | exact ⟨h2, by omega⟩ | omega
    have htx : ∀ n x, txt s.type_ n x = x := fun n x => by
      unfold txt
      rcases ht with h | h <;> rw [h] <;> rfl
    have hda : ∀ n x, dat s.type_ n x s.names = x.data.toList := fun n x => by
      unfold dat
      rcases ht with h | h <;> rw [h] <;> rfl
    refine ⟨key _ _ ?_, keyB _ _ ?_, ?_⟩
    · rw [htx, htx]
      exact ⟨fun h => ⟨by omega, h⟩, fun h => h.2⟩
    · rw [hda, hda]
      refine ⟨fun h => ⟨by omega, ?_⟩, fun h => by rw [h.2]⟩
      rw [← mk_data t, h, mk_data]
    · rw [htx]
      exact idn_ne hi
theorem ValueApart_eq (κ : Nat) (hκ : 2000 ≤ κ) (v : Int) (w : List ByteArray) (k n : Int) (t : ByteArray) (k' n' : Int) (t' : ByteArray) (h0 : 0 ≤ n) (h1 : n < 18446744073709551616) (h0' : 0 ≤ n') (h1' : n' < 18446744073709551616) :
    l08_ValueApart κ v w k n t k' n' t' = some true := by
  obtain ⟨q, rfl⟩ : ∃ q, κ = q + 2000 := ⟨κ - 2000, by omega⟩
  obtain ⟨s, hs, is, hb⟩ := both_eq (q + 2000) (by omega) v w
  have ok := leaf_ok hs
  unfold l08_ValueApart
  rw [awake_at, hb]
  have hf := ok.few
  have hr : ∀ a n t, value_Right (q + 2000) s.name s.kind s.type_ s.min s.max s.names s.must s.most s.kids a n t = some (rgt s.kind s.type_ s.min s.max s.names a n t) :=
    fun a n t => right_eq _ _ _ _ _ _ _ _ _ _ a n t (by omega) (by omega)
  simp only [Option.bind_some, Bool.not_true, bif_f]
  unfold l08_ValueApart.v0
  cases is
  · rfl
  simp only [Bool.not_true, bif_f, hr, Option.bind_some]
  cases r1 : rgt s.kind s.type_ s.min s.max s.names k n t
  · rfl
  simp only [Bool.not_true, bif_f, Option.bind_some]
  cases r2 : rgt s.kind s.type_ s.min s.max s.names k' n' t'
  · rfl
  simp only [Bool.not_true, bif_f, Option.bind_some]
  obtain ⟨e1, e2, e3⟩ := apart ok h0 h1 h0' h1' r1 r2
  unfold l08_ValueApart.v2
  rw [text_eq _ _ _ _ _ _ _ _ _ _ k n t (by omega) (by omega) h0 h1, text_eq _ _ _ _ _ _ _ _ _ _ k' n' t' (by omega) (by omega) h0' h1',
    data_eq _ _ _ _ _ _ _ _ _ _ k n t (by omega) (by omega) h0 h1, data_eq _ _ _ _ _ _ _ _ _ _ k' n' t' (by omega) (by omega) h0' h1', r1, r2]
  simp only [Option.bind_some, bif_t]
  rw [e1, back, back, e2, e3]
  simp
theorem u64_of {a : Int} (w : (Lit.int .u64 a).wf = true) : 0 ≤ a ∧ a < 18446744073709551616 := by
  have : 0 ≤ a ∧ a ≤ 18446744073709551615 := by simpa [Lit.wf, IntKind.min, IntKind.max, IntKind.signed, IntKind.bits] using w
  omega
theorem ValueApart_row (x : Tollbarlaw08Place) {Q : Prop} (w : Q) (v : ApiVal) (wv : ((Lit.int .i64 v.kind).wf = true) ∧ ((Lit.int .u64 v.num).wf = true) ∧ (v.text.size ≤ 140737488351232)) (v' : ApiVal) (wv' : ((Lit.int .i64 v'.kind).wf = true) ∧ ((Lit.int .u64 v'.num).wf = true) ∧ (v'.text.size ≤ 140737488351232)) :
    l08_ValueApart 2000 x.version x.names v.kind v.num v.text v'.kind v'.num v'.text = some true :=
  ValueApart_eq 2000 (Nat.le_refl _) x.version x.names v.kind v.num v.text v'.kind v'.num v'.text (u64_of wv.2.1).1 (u64_of wv.2.1).2 (u64_of wv'.2.1).1 (u64_of wv'.2.1).2
end Go.Proofs.YthmohmmbhjpbcaaGreatDoor.Va8

