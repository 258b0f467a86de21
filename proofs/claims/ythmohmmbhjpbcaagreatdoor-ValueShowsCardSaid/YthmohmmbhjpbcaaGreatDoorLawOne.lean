import Derived.Test.YthmohmmbhjpbcaaGreatDoorEvPlain
import Derived.Lib.SlTrimSet
import Derived.Lib.ItoaLen
set_option linter.unusedVariables false
set_option linter.unusedSimpArgs false
set_option maxHeartbeats 1000000
namespace Go.Proofs.YthmohmmbhjpbcaaGreatDoor.Va8
open Go Ev Ev.Seat

theorem bif_t {α : Type} (a b : α) : (bif true then a else b) = a := rfl
theorem bif_f {α : Type} (a b : α) : (bif false then a else b) = b := rfl
theorem wrap_in (n : Int) (h0 : -9223372036854775808 ≤ n) (h1 : n ≤ 9223372036854775807) : IntKind.wrap IntKind.i64 n = n := by
  unfold IntKind.wrap
  simp [IntKind.bits, IntKind.signed]
  omega
abbrev B0 : ByteArray := ByteArray.mk (List.toArray [])
theorem seq_self (s : ByteArray) : seq s s = true := by simp [seq]

def idn (s : ByteArray) : Bool := (scalar_Ident 0 s).getD false
theorem ident_eq (κ : Nat) (s : ByteArray) : scalar_Ident κ s = some (idn s) ∧ (idn s = true → s.size ≤ 12 ∧ seq s B0 = false) := by
  have hk : scalar_Ident κ s = scalar_Ident 0 s := rfl
  rw [hk]
  suffices h : ∃ b, scalar_Ident 0 s = some b ∧ (b = true → s.size ≤ 12 ∧ seq s B0 = false) by
    obtain ⟨b, h1, h2⟩ := h
    have : idn s = b := by unfold idn; rw [h1]; rfl
    rw [this]; exact ⟨h1, h2⟩
  unfold scalar_Ident scalar_Ident.v0
  cases h0 : seq s (ByteArray.mk (List.toArray []))
  · simp only [Bool.not_false, bif_t]
    by_cases h1 : ((s.size : Nat) : Int) ≤ 12
    · simp only [h1, decide_true, bif_t]
      have hpos : (1 : Int) ≤ ((s.size : Nat) : Int) := by
        rcases Nat.eq_zero_or_pos s.size with h | h
        · exfalso
          have : s = ByteArray.mk (List.toArray []) := by
            cases s with
            | mk d => cases d with
              | mk l => cases l with
                | nil => rfl
                | cons a t => simp [ByteArray.size] at h
          rw [this] at h0
          simp [seq] at h0
        · omega
      simp only [hpos, decide_true, Int.le_refl, show (0 : Int) ≤ 1 from by decide, Bool.and_self, bif_t]
      generalize Lib.contains _ _ = c
      cases c
      · exact ⟨false, rfl, fun h => by cases h⟩
      · simp only [bif_t]
        unfold strings_Trim
        rw [show asciiB _ = true from by decide +kernel]
        have hsz : Nat.ble s.size maxI = true := Nat.ble_eq_true_of_le (by unfold maxI; omega)
        rw [hsz]
        refine ⟨_, rfl, fun _ => ⟨by omega, by first | exact h0 | trivial⟩⟩
    · simp only [h1, decide_false, bif_f]
      exact ⟨false, rfl, fun h => by cases h⟩
  · exact ⟨false, rfl, fun h => by cases h⟩
theorem ident (κ : Nat) (s : ByteArray) : scalar_Ident κ s = some (idn s) := (ident_eq κ s).1
theorem idn_size {s : ByteArray} (h : idn s = true) : s.size ≤ 12 := ((ident_eq 0 s).2 h).1
theorem idn_ne {s : ByteArray} (h : idn s = true) : seq s B0 = false := ((ident_eq 0 s).2 h).2

def fndL (n : ByteArray) : List SpecSpec → Nat → Option Nat
  | [], _ => none
  | x :: l, i => bif seq x.name n then some i else fndL n l (i + 1)
theorem fnd_some {n : ByteArray} : ∀ {l : List SpecSpec} {i j : Nat}, fndL n l i = some j → i ≤ j ∧ ∃ t, l[j - i]? = some t ∧ seq t.name n = true
  | [], _, _, h => by cases h
  | x :: l, i, j, h => by
    unfold fndL at h
    cases hs : seq x.name n
    · rw [hs] at h
      obtain ⟨h1, t, h2, h3⟩ := fnd_some h
      refine ⟨by omega, t, ?_, h3⟩
      have : j - i = (j - (i + 1)) + 1 := by omega
      rw [this]; simpa using h2
    · rw [hs] at h; cases h
      exact ⟨Nat.le_refl _, x, by simp, hs⟩

theorem idx_loop (κ : Nat) (n : ByteArray) (l : List SpecSpec) (hl : l.length < 1000000) : ∀ (d i K : Nat), l.length = i + d → d < K →
    slices_IndexFunc.l0 κ K (l, ((l.length : Nat) : Int), (i : Int), n) = some (match fndL n (l.drop i) i with | some j => .inr ((j : Int), n) | none => .inl n)
  | d, i, 0, _, h => by omega
  | 0, i, K + 1, hd, _ => by
    have hn : l.drop i = [] := List.drop_eq_nil_of_le (by omega)
    rw [hn]
    unfold slices_IndexFunc.l0 slices_IndexFunc.w0
    rw [show decide ((i : Int) < ((l.length : Nat) : Int)) = false from by simp; omega]
    rfl
  | d + 1, i, K + 1, hd, hk => by
    have hlt : i < l.length := by omega
    unfold slices_IndexFunc.l0 slices_IndexFunc.w0
    rw [show decide ((i : Int) < ((l.length : Nat) : Int)) = true from by simp; omega, show decide ((0 : Int) ≤ (i : Int)) = true from by simp]
    simp only [bif_t, Int.toNat_natCast, List.getElem?_eq_getElem hlt, Option.bind_some]
    rw [List.drop_eq_getElem_cons hlt]
    unfold fndL
    cases hs : seq l[i].name n
    · simp only [bif_f]
      rw [wrap_in _ (by omega) (by omega), show ((i : Int) + 1) = ((i + 1 : Nat) : Int) from by omega]
      exact idx_loop κ n l hl d (i + 1) K (by omega) (by omega)
    · rfl

theorem find_eq (κ : Nat) (n : ByteArray) (l : List SpecSpec) (hl : l.length < 1000000) (hκ : l.length < κ) (a0 : ByteArray) (a1 a2 a3 a4 : Int) (a5 : List ByteArray) (a6 : Bool) (a7 : Int) :
    spec_Find κ a0 a1 a2 a3 a4 a5 a6 a7 l n = some (match fndL n l 0 with | some j => (j : Int) | none => -1) := by
  have h := idx_loop κ n l hl l.length 0 κ (by omega) hκ
  simp only [List.drop_zero, Int.natCast_zero] at h
  unfold spec_Find slices_IndexFunc
  rw [h]
  cases fndL n l 0 <;> rfl
end Go.Proofs.YthmohmmbhjpbcaaGreatDoor.Va8


namespace Go.Proofs.YthmohmmbhjpbcaaGreatDoor.Va8
open Go Ev Ev.Seat

def lev0 : List SpecSpec := [specRoot1, specRoot2, specRoot3]
def kidsAll (l : List SpecSpec) : List SpecSpec := l.flatMap SpecSpec.kids
def lev1 : List SpecSpec := kidsAll lev0
def lev2 : List SpecSpec := kidsAll lev1
def lev3 : List SpecSpec := kidsAll lev2
/-- All that stands in a table, and nothing. -/
def subs : List SpecSpec := specZero :: (lev0 ++ (lev1 ++ (lev2 ++ lev3)))
theorem lev3_end : lev3.all (fun s => s.kids.isEmpty) = true := by kernel_rfl
theorem sub_kid {s t : SpecSpec} (hs : s ∈ subs) (ht : t ∈ s.kids) : t ∈ subs := by
  unfold subs at hs ⊢
  simp only [List.mem_cons, List.mem_append] at hs ⊢
  rcases hs with rfl | h | h | h | h
  · cases ht
  · exact .inr (.inr (.inl (List.mem_flatMap.2 ⟨s, h, ht⟩)))
  · exact .inr (.inr (.inr (.inl (List.mem_flatMap.2 ⟨s, h, ht⟩))))
  · exact .inr (.inr (.inr (.inr (List.mem_flatMap.2 ⟨s, h, ht⟩))))
  · have h1 := List.all_eq_true.1 lev3_end s h
    simp only [List.isEmpty_iff] at h1
    rw [h1] at ht; cases ht
theorem subs_few : subs.all (fun s => Nat.ble s.kids.length 10) = true := by kernel_rfl
theorem sub_few {s : SpecSpec} (hs : s ∈ subs) : s.kids.length ≤ 10 := Nat.le_of_ble_eq_true (List.all_eq_true.1 subs_few s hs)

def rootOf (v : Int) : Option SpecSpec := if v = 1 then some specRoot1 else if v = 2 then some specRoot2 else if v = 3 then some specRoot3 else none
theorem root_eq (v : Int) : spec_Root v = match rootOf v with | some s => some (s, 0) | none => some (specZero, 28) := by
  unfold spec_Root rootOf
  split
  · rfl
  · split
    · rfl
    · split <;> rfl
theorem rootOf_sub {v : Int} {s : SpecSpec} (h : rootOf v = some s) : s ∈ subs := by
  unfold rootOf at h
  unfold subs lev0
  split at h
  · cases h; simp
  · split at h
    · cases h; simp
    · split at h
      · cases h; simp
      · cases h

def atN (s : SpecSpec) : List ByteArray → Option SpecSpec
  | [] => some s
  | n :: r => match (fndL n s.kids 0).bind fun j => s.kids[j]? with
    | none => none
    | some t => atN t r
theorem fnd_kid {s : SpecSpec} {n : ByteArray} {j : Nat} (h : fndL n s.kids 0 = some j) : ∃ t, s.kids[j]? = some t ∧ t ∈ s.kids := by
  obtain ⟨_, t, h2, _⟩ := fnd_some h
  exact ⟨t, h2, List.mem_of_getElem? h2⟩
theorem atN_sub : ∀ {l : List ByteArray} {s t : SpecSpec}, s ∈ subs → atN s l = some t → t ∈ subs
  | [], s, t, hs, h => by cases h; exact hs
  | y :: l, s, t, hs, h => by
    simp only [atN] at h
    split at h
    · cases h
    · rename_i u hu
      obtain ⟨j, hj, hk⟩ := Option.bind_eq_some_iff.1 hu
      exact atN_sub (sub_kid hs (List.mem_of_getElem? hk)) h

def flds (s : SpecSpec) : ByteArray × Int × Int × Int × Int × List ByteArray × Bool × Int × List SpecSpec := (s.name, s.kind, s.type_, s.min, s.max, s.names, s.must, s.most, s.kids)

theorem at_loop (κ : Nat) (hκ : 20 ≤ κ) (w : List ByteArray) (hw : w.length < 1000000) (z0 : ByteArray) (z1 z2 z3 z4 : Int) (z5 : Bool) (z6 : Int) : ∀ (d i K : Nat) (s : SpecSpec), s ∈ subs → w.length = i + d → d < K →
    spec_At.l0 κ K (w, ((w.length : Nat) : Int), (i : Int), z0, z1, z2, z3, z4, z5, z6, flds s) =
      some (match atN s (w.drop i) with | some t => .inl (z0, z1, z2, z3, z4, z5, z6, flds t) | none => .inr (22, B0, 0, 0, 0, 0, false, 0))
  | d, i, 0, s, _, _, h => by omega
  | 0, i, K + 1, s, hs, hd, _ => by
    have hn : w.drop i = [] := List.drop_eq_nil_of_le (by omega)
    rw [hn]
    unfold flds spec_At.l0 spec_At.w0
    rw [show decide ((i : Int) < ((w.length : Nat) : Int)) = false from by simp; omega]
    rfl
  | d + 1, i, K + 1, s, hs, hd, hk => by
    have hlt : i < w.length := by omega
    unfold flds spec_At.l0 spec_At.w0
    rw [show decide ((i : Int) < ((w.length : Nat) : Int)) = true from by simp; omega, show decide ((0 : Int) ≤ (i : Int)) = true from by simp]
    have hfew := sub_few hs
    simp only [bif_t, Int.toNat_natCast, List.getElem?_eq_getElem hlt, Option.bind_some, find_eq κ _ s.kids (by omega) (by omega)]
    rw [List.drop_eq_getElem_cons hlt]
    simp only [atN]
    cases hf : fndL w[i] s.kids 0 with
    | none => rfl
    | some j =>
      obtain ⟨t, ht, hm⟩ := fnd_kid hf
      simp only [Option.bind_some, ht, show decide (((j : Nat) : Int) < 0) = false from by simp, show decide ((0 : Int) ≤ ((j : Nat) : Int)) = true from by simp, bif_t, bif_f, Int.toNat_natCast]
      rw [wrap_in _ (by omega) (by omega), show ((i : Int) + 1) = ((i + 1 : Nat) : Int) from by omega]
      exact at_loop κ hκ w hw z0 z1 z2 z3 z4 z5 z6 d (i + 1) K t (sub_kid hs hm) (by omega) (by omega)

/-- What spec.At tells. -/
def atV (v : Int) (w : List ByteArray) : SpecSpec × Int := match rootOf v with
  | none => (specZero, 28)
  | some r => match atN r w with | some t => (t, 0) | none => (specZero, 22)
def tup (x : SpecSpec × Int) : ByteArray × Int × Int × Int × Int × List ByteArray × Bool × Int × List SpecSpec × Int := (x.1.name, x.1.kind, x.1.type_, x.1.min, x.1.max, x.1.names, x.1.must, x.1.most, x.1.kids, x.2)
theorem at_eq (κ : Nat) (hκ : 20 ≤ κ) (v : Int) (w : List ByteArray) (hw : w.length < κ) (hw' : w.length < 1000000) : spec_At κ v w = some (tup (atV v w)) := by
  unfold spec_At atV
  rw [root_eq]
  cases hr : rootOf v with
  | none => rfl
  | some r =>
    simp only [Option.bind_some, show ((0 : Int) != 0) = false from rfl, bif_f]
    have h := at_loop κ hκ w hw' B0 0 0 0 0 false 0 w.length 0 κ r (rootOf_sub hr) (by omega) hw
    simp only [List.drop_zero, Int.natCast_zero] at h
    unfold flds at h
    rw [h]
    cases atN r w with
    | some t => rfl
    | none => rfl
theorem atV_sub (v : Int) (w : List ByteArray) : (atV v w).1 ∈ subs := by
  unfold atV
  split
  · exact List.mem_cons_self ..
  · rename_i r hr
    split
    · rename_i t ht; exact atN_sub (rootOf_sub hr) ht
    · exact List.mem_cons_self ..

mutual
def toS : SpecSpec → Tollbarref07S
  | ⟨n, k, t, mi, ma, ns, mu, mo, ks⟩ => ⟨n, k, t, mi, ma, ns, mu, mo, toL ks⟩
def toL : List SpecSpec → List Tollbarref07S
  | [] => []
  | s :: l => toS s :: toL l
end
def fldS (s : Tollbarref07S) : ByteArray × Int × Int × Int × Int × List ByteArray × Bool × Int × List Tollbarref07S := (s.name, s.kind, s.type_, s.min, s.max, s.names, s.must, s.most, s.kids)
theorem toS_name (s : SpecSpec) : (toS s).name = s.name := by cases s; rfl
theorem toS_kids (s : SpecSpec) : (toS s).kids = toL s.kids := by cases s; rfl
theorem toL_get : ∀ (l : List SpecSpec) (i : Nat), (toL l)[i]? = (l[i]?).map toS
  | [], i => by simp [toL]
  | s :: l, 0 => by simp [toL]
  | s :: l, i + 1 => by simp only [toL, List.getElem?_cons_succ]; exact toL_get l i
theorem toL_len : ∀ (l : List SpecSpec), (toL l).length = l.length
  | [] => rfl
  | s :: l => by simp only [toL, List.length_cons, toL_len l]

theorem find2_loop (κ : Nat) (n : ByteArray) (l : List SpecSpec) (hl : l.length < 1000000) (b0 : ByteArray) (b1 b2 b3 b4 : Int) (b5 : List ByteArray) (b6 : Bool) (b7 : Int) : ∀ (d i K : Nat), l.length = i + d → d < K →
    r07_Find_2.l0 κ K (n, (i : Int), b0, b1, b2, b3, b4, b5, b6, b7, toL l) = some (match fndL n (l.drop i) i with | some j => .inr (j : Int) | none => .inl ())
  | d, i, 0, _, h => by omega
  | 0, i, K + 1, hd, _ => by
    have hn : l.drop i = [] := List.drop_eq_nil_of_le (by omega)
    rw [hn]
    unfold r07_Find_2.l0 r07_Find_2.w0
    rw [toL_len, show decide ((i : Int) < ((l.length : Nat) : Int)) = false from decide_eq_false (by omega)]
    rfl
  | d + 1, i, K + 1, hd, hk => by
    have hlt : i < l.length := by omega
    unfold r07_Find_2.l0 r07_Find_2.w0
    rw [toL_len, show decide ((i : Int) < ((l.length : Nat) : Int)) = true from decide_eq_true (by omega), show decide ((0 : Int) ≤ (i : Int)) = true from decide_eq_true (by omega)]
    simp only [bif_t, Int.toNat_natCast, toL_get, List.getElem?_eq_getElem hlt, Option.map_some, Option.bind_some, toS_name]
    rw [List.drop_eq_getElem_cons hlt]
    unfold fndL
    cases hs : seq l[i].name n
    · simp only [bif_f]
      rw [wrap_in _ (by omega) (by omega), show ((i : Int) + 1) = ((i + 1 : Nat) : Int) from by omega]
      exact find2_loop κ n l hl b0 b1 b2 b3 b4 b5 b6 b7 d (i + 1) K (by omega) (by omega)
    · rfl
theorem find2_eq (κ : Nat) (n : ByteArray) (l : List SpecSpec) (hl : l.length < 1000000) (hκ : l.length < κ) (b0 : ByteArray) (b1 b2 b3 b4 : Int) (b5 : List ByteArray) (b6 : Bool) (b7 : Int) :
    r07_Find_2 κ b0 b1 b2 b3 b4 b5 b6 b7 (toL l) n = some (match fndL n l 0 with | some j => (j : Int) | none => -1) := by
  have h := find2_loop κ n l hl b0 b1 b2 b3 b4 b5 b6 b7 l.length 0 κ (by omega) hκ
  simp only [List.drop_zero, Int.natCast_zero] at h
  unfold r07_Find_2
  rw [h]
  cases fndL n l 0 <;> rfl


theorem refAt_loop (κ : Nat) (hκ : 20 ≤ κ) (w : List ByteArray) (hw : w.length < 1000000) (z0 : ByteArray) (z1 z2 z3 z4 : Int) (z5 : Bool) (z6 : Int) : ∀ (d i K : Nat) (s : SpecSpec), s ∈ subs → w.length = i + d → d < K →
    r07_At.l4 κ K (w, (0 : Int), (i : Int), z0, z1, z2, z3, z4, z5, z6, fldS (toS s)) =
      some (match atN s (w.drop i) with | some t => .inl (0, z0, z1, z2, z3, z4, z5, z6, fldS (toS t)) | none => .inr (22, B0, 0, 0, 0, 0, false, 0))
  | d, i, 0, s, _, _, h => by omega
  | 0, i, K + 1, s, hs, hd, _ => by
    have hn : w.drop i = [] := List.drop_eq_nil_of_le (by omega)
    rw [hn]
    unfold fldS r07_At.l4 r07_At.w4 r07_At.v5
    rw [show decide ((i : Int) < ((w.length : Nat) : Int)) = false from decide_eq_false (by omega)]
    rfl
  | d + 1, i, K + 1, s, hs, hd, hk => by
    have hlt : i < w.length := by omega
    have hx : w[i]? = some w[i] := List.getElem?_eq_getElem hlt
    have hfew := sub_few hs
    unfold fldS r07_At.l4 r07_At.w4 r07_At.v5
    rw [show decide ((i : Int) < ((w.length : Nat) : Int)) = true from decide_eq_true (by omega)]
    simp only [bif_t, show ((0 : Int) == 0) = true from rfl, Option.bind_some, show decide ((0 : Int) ≤ (i : Int)) = true from decide_eq_true (by omega), Int.toNat_natCast, hx, toS_kids,
      find2_eq κ _ s.kids (by omega) (by omega)]
    rw [List.drop_eq_getElem_cons hlt]
    simp only [atN]
    cases hfd : fndL w[i] s.kids 0 with
    | none => rfl
    | some j =>
      obtain ⟨t, ht, hm⟩ := fnd_kid hfd
      simp only [Option.bind_some, ht, show decide (((j : Nat) : Int) < 0) = false from decide_eq_false (by omega), show decide ((0 : Int) ≤ ((j : Nat) : Int)) = true from decide_eq_true (by omega), bif_t, bif_f, Int.toNat_natCast, toL_get, Option.map_some]
      rw [wrap_in _ (by omega) (by omega), show ((i : Int) + 1) = ((i + 1 : Nat) : Int) from by omega]
      have ih := refAt_loop κ hκ w hw z0 z1 z2 z3 z4 z5 z6 d (i + 1) K t (sub_kid hs hm) (by omega) (by omega)
      simp only [fldS, toS_kids] at ih ⊢
      exact ih
def rootT (v : Int) : ByteArray × Int × Int × Int × Int × Bool × Int × Int × List Tollbarref07S := match rootOf v with
  | some r => (B0, 2, 0, 0, 0, false, 0, 0, toL r.kids)
  | none => (B0, 0, 0, 0, 0, false, 0, 28, [])
theorem refRoot1 (κ : Nat) : r07_Root κ 1 = some (rootT 1) := by kernel_rfl
theorem refRoot2 (κ : Nat) : r07_Root κ 2 = some (rootT 2) := by kernel_rfl
theorem refRoot3 (κ : Nat) : r07_Root κ 3 = some (rootT 3) := by kernel_rfl
theorem refRoot_eq (κ : Nat) (v : Int) : r07_Root κ v = some (rootT v) := by
  by_cases h1 : v = 1
  · subst h1; exact refRoot1 κ
  · by_cases h2 : v = 2
    · subst h2; exact refRoot2 κ
    · by_cases h3 : v = 3
      · subst h3; exact refRoot3 κ
      · have : rootT v = (B0, 0, 0, 0, 0, false, 0, 28, []) := by unfold rootT rootOf; rw [if_neg h1, if_neg h2, if_neg h3]
        rw [this]
        unfold r07_Root r07_Root.v0
        by_cases h4 : v < 1
        · simp only [h4, decide_true, bif_t, Option.bind_some]
        · have h5 : v > 3 := by omega
          simp only [h4, h5, decide_true, decide_false, bif_f, bif_t, Option.bind_some]
theorem root_flds {v : Int} {r : SpecSpec} (h : rootOf v = some r) : fldS (toS r) = (B0, 2, 0, 0, 0, [], false, 0, toL r.kids) := by
  unfold rootOf at h
  split at h
  · cases h; rfl
  · split at h
    · cases h; rfl
    · split at h
      · cases h; rfl
      · cases h


def tupS (x : SpecSpec × Int) : ByteArray × Int × Int × Int × Int × List ByteArray × Bool × Int × List Tollbarref07S × Int := ((toS x.1).name, (toS x.1).kind, (toS x.1).type_, (toS x.1).min, (toS x.1).max, (toS x.1).names, (toS x.1).must, (toS x.1).most, (toS x.1).kids, x.2)
theorem refAt_eq (κ : Nat) (hκ : 20 ≤ κ) (v : Int) (w : List ByteArray) (hw : w.length < κ) (hw' : w.length < 1000000) : r07_At κ v w = some (tupS (atV v w)) := by
  unfold r07_At
  rw [refRoot_eq]
  unfold rootT atV
  cases hr : rootOf v with
  | none =>
    obtain ⟨k, hk⟩ : ∃ k, κ = k + 1 := ⟨κ - 1, by omega⟩
    simp only [Option.bind_some]
    conv => lhs; arg 1; arg 2; rw [hk]
    unfold r07_At.l4 r07_At.w4 r07_At.v5
    cases decide ((0 : Int) < ((w.length : Nat) : Int)) <;> rfl
  | some r =>
    simp only [Option.bind_some]
    have h := refAt_loop κ hκ w hw' B0 0 0 0 0 false 0 w.length 0 κ r (rootOf_sub hr) (by omega) hw
    rw [root_flds hr] at h
    simp only [List.drop_zero, Int.natCast_zero] at h
    rw [h]
    cases atN r w with
    | some t => rfl
    | none => rfl
/-- What law 08 looks at: a part of the tables, and the reference's of it. -/
theorem both_eq (κ : Nat) (hκ : 30 ≤ κ) (v : Int) (w : List ByteArray) : ∃ s ∈ subs, ∃ is, l08_both κ v w = some (s.name, s.kind, s.type_, s.min, s.max, s.names, s.must, s.most, s.kids, (toS s).name, (toS s).kind, (toS s).type_, (toS s).min, (toS s).max, (toS s).names, (toS s).must, (toS s).most, (toS s).kids, is) := by
  unfold l08_both
  by_cases h : ((w.length : Nat) : Int) > 20
  · rw [show decide (((w.length : Nat) : Int) > 20) = true from decide_eq_true h]
    exact ⟨specZero, List.mem_cons_self .., false, rfl⟩
  · rw [show decide (((w.length : Nat) : Int) > 20) = false from decide_eq_false h]
    simp only [bif_f, at_eq κ (by omega) v w (by omega) (by omega), refAt_eq κ (by omega) v w (by omega) (by omega), Option.bind_some, tup, tupS]
    refine ⟨(atV v w).1, atV_sub v w, ?_⟩
    unfold l08_both.v0
    cases (atV v w).2 == 0
    · exact ⟨false, rfl⟩
    · exact ⟨_, rfl⟩
end Go.Proofs.YthmohmmbhjpbcaaGreatDoor.Va8


namespace Go.Proofs.YthmohmmbhjpbcaaGreatDoor.Va8
open Go Ev Ev.Seat

theorem seq_iff {a b : ByteArray} : seq a b = true ↔ a = b := by
  constructor
  · intro h
    have h' : a.data.toList = b.data.toList := by simpa [seq] using h
    cases a with
    | mk a => cases b with
      | mk b => cases a with
        | mk a => cases b with
          | mk b => exact congrArg (fun l => (⟨⟨l⟩⟩ : ByteArray)) h'
  · rintro rfl; exact seq_self a
theorem seq_comm (a b : ByteArray) : seq a b = seq b a := by
  cases h : seq a b
  · cases h' : seq b a
    · rfl
    · rw [seq_iff.1 h'] at h; rw [seq_self] at h; cases h
  · rw [seq_iff.1 h, seq_self]
def ixL (x : ByteArray) : List ByteArray → Nat → Option Nat
  | [], _ => none
  | y :: l, i => bif seq x y then some i else ixL x l (i + 1)
theorem ixL_some {x : ByteArray} : ∀ {l : List ByteArray} {i j : Nat}, ixL x l i = some j → i ≤ j ∧ l[j - i]? = some x
  | [], _, _, h => by cases h
  | y :: l, i, j, h => by
    unfold ixL at h
    cases hs : seq x y
    · rw [hs] at h
      obtain ⟨h1, h2⟩ := ixL_some h
      refine ⟨by omega, ?_⟩
      have : j - i = (j - (i + 1)) + 1 := by omega
      rw [this]; simpa using h2
    · rw [hs] at h; cases h
      exact ⟨Nat.le_refl _, by simp [seq_iff.1 hs]⟩
def ixI (x : ByteArray) (l : List ByteArray) : Int := match ixL x l 0 with | some j => (j : Int) | none => -1
theorem ix_loop (κ : Nat) (x : ByteArray) (l : List ByteArray) (hl : l.length < 1000000) : ∀ (d i K : Nat), l.length = i + d → d < K →
    slices_Index.l0 κ K (l, x, ((l.length : Nat) : Int), (i : Int)) = some (match ixL x (l.drop i) i with | some j => .inr (j : Int) | none => .inl ())
  | d, i, 0, _, h => by omega
  | 0, i, K + 1, hd, _ => by
    have hn : l.drop i = [] := List.drop_eq_nil_of_le (by omega)
    rw [hn]
    unfold slices_Index.l0 slices_Index.w0
    rw [show decide ((i : Int) < ((l.length : Nat) : Int)) = false from decide_eq_false (by omega)]
    rfl
  | d + 1, i, K + 1, hd, hk => by
    have hlt : i < l.length := by omega
    unfold slices_Index.l0 slices_Index.w0
    rw [show decide ((i : Int) < ((l.length : Nat) : Int)) = true from decide_eq_true (by omega), show decide ((0 : Int) ≤ (i : Int)) = true from decide_eq_true (by omega)]
    simp only [bif_t, Int.toNat_natCast, List.getElem?_eq_getElem hlt, Option.bind_some]
    rw [List.drop_eq_getElem_cons hlt]
    unfold ixL
    cases hs : seq x l[i]
    · simp only [bif_f]
      rw [wrap_in _ (by omega) (by omega), show ((i : Int) + 1) = ((i + 1 : Nat) : Int) from by omega]
      exact ix_loop κ x l hl d (i + 1) K (by omega) (by omega)
    · rfl
theorem index_eq (κ : Nat) (x : ByteArray) (l : List ByteArray) (hl : l.length < 1000000) (hκ : l.length < κ) : slices_Index κ l x = some (ixI x l) := by
  have h := ix_loop κ x l hl l.length 0 κ (by omega) hκ
  simp only [List.drop_zero, Int.natCast_zero] at h
  unfold slices_Index ixI
  rw [h]
  cases ixL x l 0 <;> rfl
theorem which_loop (κ : Nat) (x : ByteArray) (l : List ByteArray) (hl : l.length < 1000000) : ∀ (d i K : Nat), l.length = i + d → d < K →
    r08_which.l0 κ K (l, x, (i : Int)) = some (match ixL x (l.drop i) i with | some j => .inr (j : Int) | none => .inl ())
  | d, i, 0, _, h => by omega
  | 0, i, K + 1, hd, _ => by
    have hn : l.drop i = [] := List.drop_eq_nil_of_le (by omega)
    rw [hn]
    unfold r08_which.l0 r08_which.w0
    rw [show decide ((i : Int) < ((l.length : Nat) : Int)) = false from decide_eq_false (by omega)]
    rfl
  | d + 1, i, K + 1, hd, hk => by
    have hlt : i < l.length := by omega
    unfold r08_which.l0 r08_which.w0
    rw [show decide ((i : Int) < ((l.length : Nat) : Int)) = true from decide_eq_true (by omega), show decide ((0 : Int) ≤ (i : Int)) = true from decide_eq_true (by omega)]
    simp only [bif_t, Int.toNat_natCast, List.getElem?_eq_getElem hlt, Option.bind_some]
    rw [List.drop_eq_getElem_cons hlt]
    unfold ixL
    rw [seq_comm x l[i]]
    cases hs : seq l[i] x
    · simp only [bif_f]
      rw [wrap_in _ (by omega) (by omega), show ((i : Int) + 1) = ((i + 1 : Nat) : Int) from by omega]
      exact which_loop κ x l hl d (i + 1) K (by omega) (by omega)
    · rfl
theorem which_eq (κ : Nat) (x : ByteArray) (l : List ByteArray) (hl : l.length < 1000000) (hκ : l.length < κ) : r08_which κ l x = some (ixI x l) := by
  have h := which_loop κ x l hl l.length 0 κ (by omega) hκ
  simp only [List.drop_zero, Int.natCast_zero] at h
  unfold r08_which ixI
  rw [h]
  cases ixL x l 0 <;> rfl

def rgt (kd ty mi ma : Int) (ns : List ByteArray) (k n : Int) (t : ByteArray) : Bool :=
  kd == 1 && (k == ty && (bif ty == 1 || ty == 2 then decide (n ≥ mi) && (decide (n ≤ ma) && seq t B0)
    else bif ty == 3 then decide (n ≤ 1) && seq t B0
    else bif ty == 4 then decide (ixI t ns ≥ 0) && n == 0
    else bif ty == 5 || ty == 6 then idn t && n == 0 else false))
theorem right_eq (κ : Nat) (nm : ByteArray) (kd ty mi ma : Int) (ns : List ByteArray) (mu : Bool) (mo : Int) (ks : List SpecSpec) (k n : Int) (t : ByteArray) (hl : ns.length < 1000) (hκ : 1000 ≤ κ) :
    value_Right κ nm kd ty mi ma ns mu mo ks k n t = some (rgt kd ty mi ma ns k n t) := by
  unfold value_Right value_of rgt
  by_cases h : ¬ kd = 1
  · rw [show (kd != 1) = true from by simp [h], show (kd == 1) = false from by simp [h]]; rfl
  have h : kd = 1 := by simpa using h
  subst h
  by_cases h1 : ty = 1
  · subst h1
    unfold value_Right.v5 value_number_right_2 value_number_right_2.v0
    cases k == (1 : Int)
    · rfl
    · cases h2 : decide (n ≥ mi)
      · rfl
      · cases h3 : decide (n ≤ ma)
        · rfl
        · rfl
  by_cases h2 : ty = 2
  · subst h2
    unfold value_Right.v4 value_number_right value_number_right.v0
    cases k == (2 : Int)
    · rfl
    · cases h2 : decide (n ≥ mi)
      · rfl
      · cases h3 : decide (n ≤ ma)
        · rfl
        · rfl
  by_cases h3 : ty = 3
  · subst h3
    unfold value_Right.v3 value_truth_right value_truth_right.v0
    cases k == (3 : Int)
    · rfl
    · cases h2 : decide (n ≤ 1)
      · rfl
      · rfl
  by_cases h4 : ty = 4
  · subst h4
    unfold value_Right.v2 value_choice_right value_choice_right.v0 slices_Contains
    rw [index_eq κ t ns (by omega) (by omega)]
    cases k == (4 : Int)
    · rfl
    · simp only [Option.bind_some]
      cases h2 : decide (ixI t ns ≥ 0)
      · rfl
      · rfl
  have e1 : (ty == 1) = false := by simp [h1]
  have e2 : (ty == 2) = false := by simp [h2]
  have e3 : (ty == 3) = false := by simp [h3]
  have e4 : (ty == 4) = false := by simp [h4]
  rw [e1, e2, e3, e4]
  unfold value_of.v0
  by_cases h5 : ty = 5
  · subst h5
    unfold value_Right.v1 value_name_right value_name_right.v0
    rw [ident]
    cases k == (5 : Int)
    · rfl
    · simp only [Option.bind_some]
      cases idn t <;> rfl
  by_cases h6 : ty = 6
  · subst h6
    unfold value_Right.v1 value_name_right value_name_right.v0
    rw [ident]
    cases k == (6 : Int)
    · rfl
    · simp only [Option.bind_some]
      cases idn t <;> rfl
  have e5 : (ty == 5) = false := by simp [h5]
  have e6 : (ty == 6) = false := by simp [h6]
  rw [e5, e6]
  cases k == ty <;> rfl

def distinctB : List ByteArray → Bool
  | [] => true
  | x :: l => l.all (fun y => !(seq x y)) && distinctB l
def leafOk (s : SpecSpec) : Bool :=
  Nat.ble s.names.length 100 && s.names.all (fun x => !(seq x B0) && Nat.ble x.size 100) && distinctB s.names &&
  decide (0 ≤ s.min) && decide (s.min ≤ s.max) && decide (s.max ≤ 100000000)
theorem leaf_all : subs.all leafOk = true := by kernel_rfl
structure LeafOk (s : SpecSpec) : Prop where
  few : s.names.length ≤ 100
  nice : ∀ x ∈ s.names, seq x B0 = false ∧ x.size ≤ 100
  dist : distinctB s.names = true
  min0 : 0 ≤ s.min
  mm : s.min ≤ s.max
  max0 : s.max ≤ 100000000
theorem leaf_ok {s : SpecSpec} (h : s ∈ subs) : LeafOk s := by
  have := List.all_eq_true.1 leaf_all s h
  unfold leafOk at this
  simp only [Bool.and_eq_true, decide_eq_true_eq] at this
  obtain ⟨⟨⟨⟨⟨h1, h2⟩, h3⟩, h4⟩, h5⟩, h6⟩ := this
  refine ⟨Nat.le_of_ble_eq_true h1, fun x hx => ?_, h3, h4, h5, h6⟩
  have := List.all_eq_true.1 h2 x hx
  simp only [Bool.and_eq_true, Bool.not_eq_true'] at this
  exact ⟨this.1, Nat.le_of_ble_eq_true this.2⟩
theorem awake_at (k : Nat) : l08_awake (k + 2000) = some true := by kernel_rfl
end Go.Proofs.YthmohmmbhjpbcaaGreatDoor.Va8


namespace Go.Proofs.YthmohmmbhjpbcaaGreatDoor.Va8
open Go Ev Ev.Seat Go.Lib

theorem mk_data (s : ByteArray) : (⟨s.data.toList.toArray⟩ : ByteArray) = s := by simp
theorem as_list (s : ByteArray) : ∃ l : List UInt8, s = ⟨l.toArray⟩ := ⟨s.data.toList, (mk_data s).symm⟩
theorem data_of (l : List UInt8) : (⟨l.toArray⟩ : ByteArray).data.toList = l := by simp
theorem sized (l : List UInt8) : (⟨l.toArray⟩ : ByteArray).size = l.length := by show l.toArray.size = _; simp
theorem bs_inj {a b : List UInt8} : (⟨a.toArray⟩ : ByteArray) = ⟨b.toArray⟩ ↔ a = b := by
  constructor
  · intro h
    have := congrArg (fun s : ByteArray => s.data.toList) h
    simpa using this
  · rintro rfl; rfl
theorem seq_mk (a b : List UInt8) : seq ⟨a.toArray⟩ ⟨b.toArray⟩ = decide (a = b) := by
  unfold seq
  rw [data_of, data_of]; exact Bool.eq_iff_iff.2 (by simp)
theorem seq_B0 (a : List UInt8) : seq ⟨a.toArray⟩ B0 = decide (a = []) := seq_mk a []
theorem ext_mid (l : List UInt8) (a b : Nat) : (⟨l.toArray⟩ : ByteArray).extract a b = ⟨((l.drop a).take (b - a)).toArray⟩ := by
  rw [← mk_data ((⟨l.toArray⟩ : ByteArray).extract a b)]
  congr 2
  rw [← Lib.toList_data, Lib.extract_toList]

def small (c : UInt8) : Bool := decide (97 ≤ c.toNat ∧ c.toNat ≤ 122)
def okc (c : UInt8) : Bool := decide ((97 ≤ c.toNat ∧ c.toNat ≤ 122) ∨ c.toNat = 45 ∨ (48 ≤ c.toNat ∧ c.toNat ≤ 57))
def idB : List UInt8 → Bool
  | [] => false
  | c :: r => small c && r.all okc && decide (r.length < 12)
def smalls : List UInt8 := [97, 98, 99, 100, 101, 102, 103, 104, 105, 106, 107, 108, 109, 110, 111, 112, 113, 114, 115, 116, 117, 118, 119, 120, 121, 122]
def oks : List UInt8 := [97, 98, 99, 100, 101, 102, 103, 104, 105, 106, 107, 108, 109, 110, 111, 112, 113, 114, 115, 116, 117, 118, 119, 120, 121, 122, 48, 49, 50, 51, 52, 53, 54, 55, 56, 57, 45]
theorem ok_all : ∀ n : Fin 256, oks.contains (UInt8.ofNat n.val) = okc (UInt8.ofNat n.val) := by decide +kernel
theorem of_nat (c : UInt8) : UInt8.ofNat c.toNat = c := by simp
theorem ok_eq (c : UInt8) : oks.contains c = okc c := by
  have := ok_all ⟨c.toNat, c.toNat_lt⟩
  simpa only [of_nat] using this
theorem dropWhile_nil {p : UInt8 → Bool} : ∀ (l : List UInt8), (l.dropWhile p = []) ↔ l.all p = true
  | [] => by simp
  | c :: l => by
    rw [List.dropWhile_cons, List.all_cons]
    cases hc : p c
    · simp
    · simpa using dropWhile_nil l
theorem trim_nil (l : List UInt8) : (trimS l oks = []) ↔ l.all okc = true := by
  have e : (fun c => oks.contains c) = okc := funext ok_eq
  unfold trimS trimLeftS trimRightS
  rw [e, dropWhile_nil]
  constructor
  · intro h
    by_cases ha : l.all okc = true
    · exact ha
    · exfalso
      have h1 : l.reverse.dropWhile okc ≠ [] := fun z => ha (by have := (dropWhile_nil _).1 z; rwa [List.all_reverse] at this)
      obtain ⟨c, r, hcr⟩ := List.exists_cons_of_ne_nil h1
      have h2 : okc c = false := by
        have := List.head?_dropWhile_not okc l.reverse
        rw [hcr] at this
        simpa using this
      rw [hcr] at h
      simp [h2] at h
  · intro h
    have : l.reverse.dropWhile okc = [] := (dropWhile_nil _).2 (by rwa [List.all_reverse])
    rw [this]; rfl
theorem small_ok {c : UInt8} (h : small c = true) : okc c = true := by
  unfold small at h; unfold okc
  simp only [decide_eq_true_eq] at h ⊢
  exact .inl h
theorem con_all : ∀ n : Fin 256, Lib.contains smalls [UInt8.ofNat n.val] = small (UInt8.ofNat n.val) := by decide +kernel
theorem con_one (c : UInt8) : Lib.contains smalls [c] = small c := by
  have := con_all ⟨c.toNat, c.toNat_lt⟩
  simpa only [of_nat] using this
theorem idn_eq (l : List UInt8) : idn ⟨l.toArray⟩ = idB l := by
  have h := ident 0 ⟨l.toArray⟩
  unfold scalar_Ident scalar_Ident.v0 at h
  rw [show seq (⟨l.toArray⟩ : ByteArray) (ByteArray.mk (List.toArray [])) = decide (l = []) from seq_mk l []] at h
  cases l with
  | nil =>
    simp only [decide_true, Bool.not_true, bif_f, Option.bind_some] at h
    exact (Option.some.inj h).symm
  | cons c r =>
    simp only [reduceCtorEq, decide_false, Bool.not_false, bif_t, sized] at h
    by_cases h12 : (((c :: r).length : Nat) : Int) ≤ 12
    · have hl : r.length < 12 := by rw [List.length_cons] at h12; omega
      have h1 : (1 : Int) ≤ (((c :: r).length : Nat) : Int) := by rw [List.length_cons]; omega
      simp only [h12, h1, decide_true, bif_t, Int.le_refl, show (0 : Int) ≤ 1 from by decide, Bool.and_self, Int.toNat_zero, show (1 : Int).toNat = 1 from rfl] at h
      rw [ext_mid, data_of] at h
      simp only [List.drop_zero, Nat.sub_zero, List.take_succ_cons, List.take_zero] at h
      have hcon := con_one c
      have h : (bif Lib.contains smalls [c] then (strings_Trim 0 ⟨(c :: r).toArray⟩ ⟨oks.toArray⟩).bind (fun x0 => some (seq x0 B0)) else some false).bind (fun x0 => some x0) = some (idn ⟨(c :: r).toArray⟩) := h
      rw [hcon] at h
      show idn ⟨(c :: r).toArray⟩ = (small c && r.all okc && decide (r.length < 12))
      cases hs : small c
      · rw [hs] at h
        simp only [bif_f, Option.bind_some] at h
        rw [← Option.some.inj h]; rfl
      · rw [hs] at h
        simp only [bif_t] at h
        unfold strings_Trim at h
        rw [show asciiB _ = true from by decide +kernel] at h
        have hsz : Nat.ble (⟨(c :: r).toArray⟩ : ByteArray).size maxI = true := Nat.ble_eq_true_of_le (by rw [sized, List.length_cons]; unfold maxI; omega)
        rw [hsz] at h
        have h : some (seq (⟨(trimS (c :: r) oks).toArray⟩ : ByteArray) B0) = some (idn ⟨(c :: r).toArray⟩) := h
        rw [← Option.some.inj h, seq_B0]
        have hok := small_ok hs
        have hall : (c :: r).all okc = r.all okc := by rw [List.all_cons, hok, Bool.true_and]
        have hd : decide (r.length < 12) = true := by simp [hl]
        rw [hd, Bool.true_and, Bool.and_true]
        cases hr : r.all okc with
        | true => rw [(trim_nil _).2 (by rw [hall, hr])]; rfl
        | false =>
          refine decide_eq_false fun z => ?_
          have := (trim_nil _).1 z
          rw [hall, hr] at this; cases this
    · simp only [h12, decide_false, bif_f, Option.bind_some] at h
      rw [← Option.some.inj h]
      have hl : ¬ r.length < 12 := by rw [List.length_cons] at h12; omega
      unfold idB; simp [hl]

theorem v5_eq (κ : Nat) (l : List UInt8) (i : Nat) (c : UInt8) (h : l[i]? = some c) : r06_Ident.v5 κ ⟨l.toArray⟩ (i : Int) = some (⟨l.toArray⟩, (i : Int), small c) := by
  unfold r06_Ident.v5 small
  rw [show decide ((0 : Int) ≤ (i : Int)) = true from decide_eq_true (by omega)]
  simp only [bif_t, data_of, Int.toNat_natCast, h, Option.bind_some]
  by_cases h1 : ((c.toNat : Nat) : Int) ≥ 97
  · have : decide (97 ≤ c.toNat ∧ c.toNat ≤ 122) = decide (((c.toNat : Nat) : Int) ≤ 122) := by rw [decide_eq_decide]; omega
    simp only [h1, decide_true, bif_t, this]
  · have : decide (97 ≤ c.toNat ∧ c.toNat ≤ 122) = false := decide_eq_false (by omega)
    simp only [h1, decide_false, bif_f, this]
theorem v7_eq (κ : Nat) (l : List UInt8) (i : Nat) (c : UInt8) (h : l[i]? = some c) (b : Bool) : r06_Ident.v7 κ ⟨l.toArray⟩ (i : Int) b = some (⟨l.toArray⟩, (i : Int), !b && (decide (i = 0) || !(decide (c.toNat = 45 ∨ (48 ≤ c.toNat ∧ c.toNat ≤ 57))))) := by
  unfold r06_Ident.v7
  cases b
  · simp only [Bool.not_false, bif_t, Bool.true_and]
    by_cases h0 : i = 0
    · subst h0; rfl
    · rw [show ((i : Int) == 0) = false from beq_eq_false_iff_ne.2 (by omega), show decide (i = 0) = false from decide_eq_false h0, show decide ((0 : Int) ≤ (i : Int)) = true from decide_eq_true (by omega)]
      simp only [bif_t, bif_f, data_of, Int.toNat_natCast, h, Option.bind_some, Bool.false_or]
      by_cases h1 : ((c.toNat : Nat) : Int) = 45
      · rw [show (((c.toNat : Nat) : Int) != 45) = false from by simp [h1], show decide (c.toNat = 45 ∨ (48 ≤ c.toNat ∧ c.toNat ≤ 57)) = true from decide_eq_true (by omega)]
        rfl
      · rw [show (((c.toNat : Nat) : Int) != 45) = true from by simpa using h1]
        simp only [bif_t]
        by_cases h2 : ((c.toNat : Nat) : Int) < 48
        · rw [show decide (c.toNat = 45 ∨ (48 ≤ c.toNat ∧ c.toNat ≤ 57)) = false from decide_eq_false (by omega)]
          simp only [h2, decide_true, bif_t]; rfl
        · simp only [h2, decide_false, bif_f]
          congr 3
          by_cases h3 : ((c.toNat : Nat) : Int) > 57
          · rw [decide_eq_true h3, show decide (c.toNat = 45 ∨ (48 ≤ c.toNat ∧ c.toNat ≤ 57)) = false from decide_eq_false (by omega)]; rfl
          · rw [decide_eq_false h3, show decide (c.toNat = 45 ∨ (48 ≤ c.toNat ∧ c.toNat ≤ 57)) = true from decide_eq_true (by omega)]; rfl
  · rfl
theorem ref_loop (κ : Nat) (l : List UInt8) (hl : l.length ≤ 140737488351232) : ∀ (d i K : Nat), 1 ≤ i → l.length = i + d → d < K →
    r06_Ident.l4 κ K (⟨l.toArray⟩, (i : Int)) = some (bif (l.drop i).all okc then .inl ⟨l.toArray⟩ else .inr false)
  | d, i, 0, _, _, h => by omega
  | 0, i, K + 1, _, hd, _ => by
    have hn : l.drop i = [] := List.drop_eq_nil_of_le (by omega)
    rw [hn]
    unfold r06_Ident.l4 r06_Ident.w4
    rw [sized, show decide ((i : Int) < ((l.length : Nat) : Int)) = false from decide_eq_false (by omega)]
    rfl
  | d + 1, i, K + 1, hi, hd, hk => by
    have hlt : i < l.length := by omega
    have hx : l[i]? = some l[i] := List.getElem?_eq_getElem hlt
    unfold r06_Ident.l4 r06_Ident.w4
    rw [sized, show decide ((i : Int) < ((l.length : Nat) : Int)) = true from decide_eq_true (by omega)]
    simp only [bif_t, v5_eq κ l i _ hx, v7_eq κ l i _ hx, Option.bind_some]
    rw [List.drop_eq_getElem_cons hlt, List.all_cons]
    have hok : (!small l[i] && (decide (i = 0) || !(decide (l[i].toNat = 45 ∨ (48 ≤ l[i].toNat ∧ l[i].toNat ≤ 57))))) = !okc l[i] := by
      rw [show decide (i = 0) = false from decide_eq_false (by omega), Bool.false_or]
      unfold small okc
      by_cases h1 : 97 ≤ l[i].toNat ∧ l[i].toNat ≤ 122 <;> by_cases h2 : l[i].toNat = 45 ∨ (48 ≤ l[i].toNat ∧ l[i].toNat ≤ 57) <;> simp [h1, h2]
    rw [hok]
    cases okc l[i]
    · rfl
    · simp only [Bool.not_true, bif_f, Bool.true_and]
      rw [wrap_in _ (by omega) (by omega), show ((i : Int) + 1) = ((i + 1 : Nat) : Int) from by omega]
      exact ref_loop κ l hl d (i + 1) K (by omega) (by omega) (by omega)
theorem refIdent_eq (κ : Nat) (s : ByteArray) (hs : s.size ≤ 140737488351232) (hκ : s.size + 1 < κ) : r06_Ident κ s = some (idn s) := by
  obtain ⟨l, rfl⟩ := as_list s
  rw [idn_eq]
  rw [sized] at hs hκ
  unfold r06_Ident
  cases l with
  | nil =>
    obtain ⟨k, rfl⟩ : ∃ k, κ = k + 1 := ⟨κ - 1, by omega⟩
    rfl
  | cons c r =>
    obtain ⟨k, hk⟩ : ∃ k, κ = k + 1 := ⟨κ - 1, by omega⟩
    have hx : (c :: r)[0]? = some c := rfl
    have first : r06_Ident.l4 κ κ (⟨(c :: r).toArray⟩, (0 : Int)) = some (bif small c && r.all okc then .inl ⟨(c :: r).toArray⟩ else .inr false) := by
      conv => lhs; arg 2; rw [hk]
      unfold r06_Ident.l4 r06_Ident.w4
      rw [sized, show decide ((0 : Int) < (((c :: r).length : Nat) : Int)) = true from decide_eq_true (by rw [List.length_cons]; omega)]
      have e5 := v5_eq κ (c :: r) 0 c hx
      have e7 := v7_eq κ (c :: r) 0 c hx (small c)
      simp only [Int.natCast_zero] at e5 e7
      simp only [bif_t, e5, e7, Option.bind_some, decide_true, Bool.true_or, Bool.and_true]
      cases small c
      · rfl
      · simp only [Bool.not_true, bif_f, Bool.true_and]
        rw [wrap_in _ (by omega) (by omega), show ((0 : Int) + 1) = ((1 : Nat) : Int) from rfl, ref_loop κ (c :: r) hs r.length 1 k (by omega) (by rw [List.length_cons]; omega) (by rw [List.length_cons] at hκ; omega)]
        rfl
    rw [first]
    show _ = some (small c && r.all okc && decide (r.length < 12))
    cases hb : small c && r.all okc
    · rfl
    · simp only [bif_t, Option.bind_some, r06_Ident.v10]
      rw [show seq (⟨(c :: r).toArray⟩ : ByteArray) (ByteArray.mk (List.toArray [])) = decide ((c :: r) = []) from seq_mk _ []]
      simp only [reduceCtorEq, decide_false, Bool.not_false, bif_t, sized, Option.bind_some, Bool.true_and]
      congr 1
      rw [decide_eq_decide, List.length_cons]; omega
end Go.Proofs.YthmohmmbhjpbcaaGreatDoor.Va8


namespace Go.Proofs.YthmohmmbhjpbcaaGreatDoor.Va8
open Go Ev Ev.Seat Go.Lib
/-- The number of a text that is one. -/
def uintV (s : ByteArray) : Option Nat := match Lib.parseUintB 64 s.data.toList with
  | .ok u => if s = ⟨(Lib.decDigits u).toArray⟩ then some u else none
  | _ => none
theorem mk_append (a b : List UInt8) : (⟨a.toArray⟩ : ByteArray) ++ (⟨b.toArray⟩ : ByteArray) = ⟨(a ++ b).toArray⟩ := by rw [ByteArray.mk_append_mk]
theorem uintV_lt {s : ByteArray} {u : Nat} (h : uintV s = some u) : u < 18446744073709551616 := by
  unfold uintV at h
  split at h
  · rename_i v hv
    split at h
    · cases h; exact parse_lt hv
    · cases h
  · cases h
theorem dec_small {u : Nat} (h : u < 10) : decDigits u = [UInt8.ofNat (48 + u)] := by rw [decDigits, dif_pos h]
theorem dec_big {u : Nat} (h : ¬ u < 10) : decDigits u = decDigits (u / 10) ++ [UInt8.ofNat (48 + u % 10)] := by rw [decDigits, dif_neg h]
theorem dec_ne (u : Nat) : decDigits u ≠ [] := by
  by_cases h : u < 10
  · rw [dec_small h]; simp
  · rw [dec_big h]; simp
theorem byte_nat {n : Nat} (h : n < 256) : (UInt8.ofNat n).toNat = n := by
  simp [UInt8.toNat_ofNat']; omega
theorem parse_snoc (M : Nat) (c : UInt8) : ∀ (l : List UInt8) (acc v : Nat), parseUintM M acc l = .ok v → 48 ≤ c.toNat → c.toNat ≤ 57 → v < 1844674407370955162 → v * 10 + (c.toNat - 48) ≤ M → parseUintM M acc (l ++ [c]) = .ok (v * 10 + (c.toNat - 48))
  | [], acc, v, h, h1, h2, h3, h4 => by
    simp only [parseUintM] at h
    cases h
    simp only [List.nil_append, parseUintM]
    rw [if_pos ⟨h1, h2⟩, if_neg (by omega), if_neg (by omega)]
  | b :: l, acc, v, h, h1, h2, h3, h4 => by
    simp only [parseUintM] at h
    simp only [List.cons_append, parseUintM]
    split at h
    · rename_i hb
      rw [if_pos hb]
      split at h
      · cases h
      · rename_i hr
        rw [if_neg hr]
        split at h
        · cases h
        · rename_i hq
          rw [if_neg hq]
          exact parse_snoc M c l _ v h h1 h2 h3 h4
    · cases h
theorem parse_dec (u : Nat) (hu : u ≤ 18446744073709551615) : parseUintM 18446744073709551615 0 (decDigits u) = .ok u := by
  induction u using Nat.strongRecOn with
  | _ u ih =>
    by_cases h : u < 10
    · rw [dec_small h]
      have hb := byte_nat (n := 48 + u) (by omega)
      simp only [parseUintM, hb]
      rw [if_pos (by omega), if_neg (by omega), if_neg (by omega)]
      congr 1; omega
    · rw [dec_big h]
      have hb := byte_nat (n := 48 + u % 10) (by omega)
      have := parse_snoc 18446744073709551615 (UInt8.ofNat (48 + u % 10)) (decDigits (u / 10)) 0 (u / 10) (ih (u / 10) (by omega) (by omega)) (by omega) (by omega) (by omega) (by omega)
      rw [this, hb]
      congr 1; omega
theorem uintV_dec (u : Nat) (hu : u < 18446744073709551616) : uintV ⟨(decDigits u).toArray⟩ = some u := by
  have hp : parseUintB 64 (⟨(decDigits u).toArray⟩ : ByteArray).data.toList = .ok u := by
    show parseUintB 64 (decDigits u) = .ok u
    unfold parseUintB
    rw [if_neg (dec_ne u)]
    exact parse_dec u (by omega)
  unfold uintV
  rw [hp]
  simp
/-- Each byte of a numeral is a digit. -/
theorem dec_digits (u : Nat) : ∀ c ∈ decDigits u, 48 ≤ c.toNat ∧ c.toNat ≤ 57 := by
  induction u using Nat.strongRecOn with
  | _ u ih =>
    by_cases h : u < 10
    · rw [dec_small h]
      intro c hc
      rw [List.mem_singleton.1 hc, byte_nat (by omega)]; omega
    · rw [dec_big h]
      intro c hc
      rcases List.mem_append.1 hc with hc | hc
      · exact ih (u / 10) (by omega) c hc
      · rw [List.mem_singleton.1 hc, byte_nat (by omega)]; omega
theorem len_le {u : Nat} (hu : u < 18446744073709551616) : nDigits u ≤ 20 := by
  rcases Nat.eq_zero_or_pos u with rfl | h1
  · rw [nDigits_small (by omega)]; omega
  · have := numDigits_eq u h1 hu; split at this <;> omega
/-- A rate's text without its unit, and how many times its number is told. -/
def rateCut (s : ByteArray) : ByteArray × Nat := if Lib.hasSuffix s.data.toList [109] = true then (⟨(Lib.trimSuffix s.data.toList [109]).toArray⟩, 1000000) else if Lib.hasSuffix s.data.toList [107] = true then (⟨(Lib.trimSuffix s.data.toList [107]).toArray⟩, 1000) else (s, 1)
def rateV (s : ByteArray) : Option Nat := match uintV (rateCut s).1 with | some u => if u * (rateCut s).2 < 18446744073709551616 then some (u * (rateCut s).2) else none | none => none
def showRateV (u : Nat) : ByteArray := if 0 < u ∧ u % 1000000 = 0 then ⟨(Lib.decDigits (u / 1000000)).toArray⟩ ++ ⟨#[109]⟩ else if 0 < u ∧ u % 1000 = 0 then ⟨(Lib.decDigits (u / 1000)).toArray⟩ ++ ⟨#[107]⟩ else ⟨(Lib.decDigits u).toArray⟩
theorem suffix_snoc (m : List UInt8) (c d : UInt8) : hasSuffix (m ++ [c]) [d] = (d == c) := by
  unfold hasSuffix List.isSuffixOf
  simp [List.isPrefixOf]
theorem suffix_nil (d : UInt8) : hasSuffix [] [d] = false := by
  unfold hasSuffix List.isSuffixOf
  simp [List.isPrefixOf]
theorem trim_snoc (m : List UInt8) (c : UInt8) : trimSuffix (m ++ [c]) [c] = m := by
  unfold trimSuffix
  rw [suffix_snoc, if_pos (by simp)]
  simp
def rateT (r : ByteArray) (t : Nat) : Option Nat := match uintV r with | some u => if u * t < 18446744073709551616 then some (u * t) else none | none => none
theorem rateV_nil : rateV ⟨([] : List UInt8).toArray⟩ = rateT ⟨([] : List UInt8).toArray⟩ 1 := by
  unfold rateV rateCut rateT
  rw [data_of, suffix_nil, suffix_nil]; rfl
theorem rateV_m (m : List UInt8) : rateV ⟨(m ++ [109]).toArray⟩ = rateT ⟨m.toArray⟩ 1000000 := by
  unfold rateV rateCut rateT
  rw [data_of, suffix_snoc, trim_snoc]; rfl
theorem rateV_k (m : List UInt8) : rateV ⟨(m ++ [107]).toArray⟩ = rateT ⟨m.toArray⟩ 1000 := by
  unfold rateV rateCut rateT
  rw [data_of, suffix_snoc, suffix_snoc, trim_snoc]; rfl
theorem rateV_n (m : List UInt8) (c : UInt8) (h1 : c ≠ 109) (h2 : c ≠ 107) : rateV ⟨(m ++ [c]).toArray⟩ = rateT ⟨(m ++ [c]).toArray⟩ 1 := by
  unfold rateV rateCut rateT
  have e1 : ((109 : UInt8) == c) = false := by simpa using fun e => h1 e.symm
  have e2 : ((107 : UInt8) == c) = false := by simpa using fun e => h2 e.symm
  rw [data_of, suffix_snoc, suffix_snoc, e1, e2]; rfl
def rateR (s : ByteArray) : Int × Bool := match rateV s with | some u => ((u : Int), true) | none => (0, false)
theorem last_digit (u : Nat) : ∃ m c, decDigits u = m ++ [c] ∧ c ≠ 109 ∧ c ≠ 107 := by
  rcases List.eq_nil_or_concat (decDigits u) with h | ⟨m, c, h⟩
  · exact absurd h (dec_ne u)
  · rw [List.concat_eq_append] at h
    have hc := dec_digits u c (by rw [h]; simp)
    refine ⟨m, c, h, ?_, ?_⟩
    · rintro rfl; exact absurd hc.2 (by decide)
    · rintro rfl; exact absurd hc.2 (by decide)
theorem rateT_dec (u t : Nat) (hu : u < 18446744073709551616) : rateT ⟨(decDigits u).toArray⟩ t = if u * t < 18446744073709551616 then some (u * t) else none := by
  unfold rateT; rw [uintV_dec u hu]
theorem rate_plain (u : Nat) (hu : u < 18446744073709551616) : rateV ⟨(decDigits u).toArray⟩ = some u := by
  obtain ⟨m, c, h, h1, h2⟩ := last_digit u
  have e := rateV_n m c h1 h2
  rw [← h] at e
  rw [e, rateT_dec u 1 hu, if_pos (by omega), Nat.mul_one]
theorem rate_k (u : Nat) (hu : u < 18446744073709551616) : rateV (⟨(decDigits u).toArray⟩ ++ ⟨#[107]⟩) = if u * 1000 < 18446744073709551616 then some (u * 1000) else none := by
  have e : (⟨(decDigits u).toArray⟩ : ByteArray) ++ ⟨#[107]⟩ = ⟨(decDigits u ++ [107]).toArray⟩ := mk_append _ [107]
  rw [e, rateV_k, rateT_dec u 1000 hu]
theorem rate_m (u : Nat) (hu : u < 18446744073709551616) : rateV (⟨(decDigits u).toArray⟩ ++ ⟨#[109]⟩) = if u * 1000000 < 18446744073709551616 then some (u * 1000000) else none := by
  have e : (⟨(decDigits u).toArray⟩ : ByteArray) ++ ⟨#[109]⟩ = ⟨(decDigits u ++ [109]).toArray⟩ := mk_append _ [109]
  rw [e, rateV_m, rateT_dec u 1000000 hu]
theorem show_rate (u : Nat) (hu : u < 18446744073709551616) : rateV (showRateV u) = some u := by
  unfold showRateV
  split
  · rename_i h
    have e : u / 1000000 * 1000000 = u := by omega
    rw [rate_m _ (by omega), e, if_pos hu]
  · split
    · rename_i h
      have e : u / 1000 * 1000 = u := by omega
      rw [rate_k _ (by omega), e, if_pos hu]
    · exact rate_plain u hu
theorem size_app (a b : ByteArray) : (a ++ b).size = a.size + b.size := ByteArray.size_append
theorem show_size (u : Nat) (hu : u < 18446744073709551616) : (showRateV u).size ≤ 40 := by
  have h0 := len_le hu
  have h6 := len_le (u := u / 1000000) (by omega)
  have h3 := len_le (u := u / 1000) (by omega)
  unfold showRateV
  split
  · rw [size_app, sized, decDigits_length]; show nDigits (u / 1000000) + 1 ≤ 40; omega
  · split
    · rw [size_app, sized, decDigits_length]; show nDigits (u / 1000) + 1 ≤ 40; omega
    · rw [sized, decDigits_length]; omega
def uintR (s : ByteArray) : Int × Bool := match uintV s with | some u => ((u : Int), true) | none => (0, false)
theorem rateR_some {s : ByteArray} {u : Nat} (h : rateV s = some u) : rateR s = ((u : Int), true) := by unfold rateR; rw [h]
theorem uintR_some {s : ByteArray} {u : Nat} (h : uintV s = some u) : uintR s = ((u : Int), true) := by unfold uintR; rw [h]
theorem uintOf_eq (s : ByteArray) : uintOf s = uintR s := by
  unfold uintOf uintR uintV
  rcases hp : Lib.parseUintB 64 s.data.toList with u | _ | _
  rotate_left
  · rfl
  · rfl
  · have hu := parse_lt hp
    have h1 : Nat.blt u 18446744073709551616 = true := by simpa [Nat.blt_eq] using hu
    simp only [h1, Bool.true_and]
    by_cases hq : s = ⟨(Lib.decDigits u).toArray⟩
    · have : sameBy (Lib.decDigits u) s.data.toList = true := by rw [hq, data_of]; exact sameBy_self _
      rw [this, if_pos hq]; rfl
    · have : sameBy (Lib.decDigits u) s.data.toList = false := by
        refine Bool.eq_false_iff.2 fun h => hq ?_
        rw [sameBy_eq h, mk_data]
      rw [this, if_neg hq]; rfl
theorem my_uint (κ : Nat) (s : ByteArray) (hs : s.size ≤ 140737488351232) : scalUint κ s = some (uintR s) := by
  unfold scalUint
  rw [Nat.ble_eq_true_of_le hs, uintOf_eq]; rfl
theorem my_show (κ : Nat) (u : Nat) (h : u < 18446744073709551616) : scalShow κ (u : Int) = some ⟨(decDigits u).toArray⟩ := by
  unfold scalShow showOf
  rw [show decide ((0 : Int) ≤ (u : Int)) = true from decide_eq_true (by omega), show decide ((u : Int) < 18446744073709551616) = true from decide_eq_true (by omega)]
  rfl
end Go.Proofs.YthmohmmbhjpbcaaGreatDoor.Va8


namespace Go.Proofs.YthmohmmbhjpbcaaGreatDoor.Va8
open Go Ev Ev.Seat Go.Lib

theorem wrapu {x : Int} (h0 : 0 ≤ x) (h1 : x ≤ 18446744073709551615) : IntKind.wrap IntKind.u64 x = x := by rw [IntKind.wrap_u64]; omega
theorem wrap8 {x : Int} (h0 : 0 ≤ x) (h1 : x ≤ 255) : IntKind.wrap IntKind.u8 x = x := by rw [IntKind.wrap_u8]; omega
theorem one_byte (n : Nat) : (ByteArray.mk (List.toArray (List.map (fun x => (UInt8.ofNat (Int.toNat x))) (((n : Nat) : Int) :: [])))) = ⟨[UInt8.ofNat n].toArray⟩ := rfl
theorem show_digit (y : Nat) (hy : y < 18446744073709551616) : IntKind.wrap IntKind.u8 (IntKind.wrap IntKind.u64 ((48 : Int) + Int.tmod (y : Int) 10)) = ((48 + y % 10 : Nat) : Int) := by
  rw [Int.tmod_eq_emod_of_nonneg (by omega), wrapu (by omega) (by omega), wrap8 (by omega) (by omega)]; omega
theorem show_loop (κ : Nat) : ∀ (K x : Nat) (l : List UInt8), x < 18446744073709551616 → nDigits x < K → l.length + nDigits x ≤ 1000 →
    r06_ShowUint.l0 κ K ((x : Int), ⟨l.toArray⟩) = some (⟨((if x < 10 then [] else decDigits (x / 10)) ++ l).toArray⟩ : ByteArray)
  | 0, x, l, _, h, _ => by omega
  | K + 1, x, l, hx, hK, hl => by
    unfold r06_ShowUint.l0 r06_ShowUint.w0
    by_cases h : x < 10
    · rw [if_pos h, show decide (((x : Nat) : Int) > 9) = false from decide_eq_false (by omega)]
      rfl
    · have hd : IntKind.wrap IntKind.u64 (Int.tdiv (x : Int) 10) = ((x / 10 : Nat) : Int) := by
        rw [Int.tdiv_eq_ediv_of_nonneg (by omega), wrapu (by omega) (by omega)]; omega
      have hb := nDigits_big h
      rw [show decide (((x : Nat) : Int) > 9) = true from decide_eq_true (by omega), hd, show_digit _ (by omega), one_byte]
      have hle : Nat.ble (ByteArray.size ⟨[UInt8.ofNat (48 + x / 10 % 10)].toArray⟩ + ByteArray.size ⟨l.toArray⟩) maxI = true := Nat.ble_eq_true_of_le (by rw [sized, sized, List.length_singleton]; unfold maxI; omega)
      rw [hle]
      simp only [bif_t]
      rw [mk_append, List.singleton_append, show_loop κ K (x / 10) (UInt8.ofNat (48 + x / 10 % 10) :: l) (by omega) (by omega) (by rw [List.length_cons]; omega), if_neg h]
      congr 3
      by_cases h2 : x / 10 < 10
      · rw [if_pos h2, dec_small h2]
        have e : x / 10 % 10 = x / 10 := by omega
        rw [e]; rfl
      · rw [if_neg h2, dec_big h2, List.append_assoc]; rfl
theorem ref_show (κ : Nat) (hκ : 30 ≤ κ) (u : Nat) (h : u < 18446744073709551616) : r06_ShowUint κ (u : Int) = some (⟨(decDigits u).toArray⟩ : ByteArray) := by
  have hlen := len_le h
  unfold r06_ShowUint
  rw [show_digit u h, one_byte, show_loop κ κ u _ h (by omega) (by rw [List.length_singleton]; omega)]
  simp only [Option.bind_some]
  congr 3
  by_cases hu : u < 10
  · rw [if_pos hu, dec_small hu]
    have e : u % 10 = u := by omega
    rw [e]; rfl
  · rw [if_neg hu, dec_big hu]
theorem div_wrap (u t : Nat) (ht : 0 < t) (h : u < 18446744073709551616) : IntKind.wrap IntKind.u64 (Int.tdiv (u : Int) (t : Int)) = ((u / t : Nat) : Int) := by
  have h1 : u / t ≤ u := Nat.div_le_self u t
  rw [Int.tdiv_eq_ediv_of_nonneg (by omega), ← Int.natCast_ediv]
  generalize u / t = q at h1 ⊢
  exact wrapu (by omega) (by omega)
theorem mod_zero (u t : Nat) : ((Int.tmod (u : Int) (t : Int)) == (0 : Int)) = decide (u % t = 0) := by
  rw [Int.tmod_eq_emod_of_nonneg (by omega), ← Int.natCast_emod]
  by_cases h : u % t = 0
  · rw [h]; rfl
  · rw [decide_eq_false h]; exact beq_eq_false_iff_ne.2 (by omega)
theorem ble_small (d : ByteArray) (b : UInt8) (h : d.size ≤ 40) : Nat.ble (d.size + ByteArray.size (ByteArray.mk (List.toArray (b :: [])))) maxI = true :=
  Nat.ble_eq_true_of_le (by
    have : ByteArray.size (ByteArray.mk (List.toArray (b :: []))) = 1 := rfl
    rw [this]; unfold maxI; omega)
theorem dec_sz (u : Nat) (h : u < 18446744073709551616) : (⟨(decDigits u).toArray⟩ : ByteArray).size ≤ 40 := by
  have := len_le h
  rw [sized, decDigits_length]; omega
theorem my_showRate (κ : Nat) (u : Nat) (h : u < 18446744073709551616) : scalar_ShowRate κ (u : Int) = some (showRateV u) := by
  unfold scalar_ShowRate showRateV
  have m6 : ((Int.tmod (u : Int) (1000000 : Int)) == (0 : Int)) = decide (u % 1000000 = 0) := mod_zero u 1000000
  have m3 : ((Int.tmod (u : Int) (1000 : Int)) == (0 : Int)) = decide (u % 1000 = 0) := mod_zero u 1000
  have d6 : IntKind.wrap IntKind.u64 (Int.tdiv (u : Int) (1000000 : Int)) = ((u / 1000000 : Nat) : Int) := div_wrap u 1000000 (by omega) h
  have d3 : IntKind.wrap IntKind.u64 (Int.tdiv (u : Int) (1000 : Int)) = ((u / 1000 : Nat) : Int) := div_wrap u 1000 (by omega) h
  by_cases h0 : 0 < u
  · rw [show decide (((u : Nat) : Int) > 0) = true from decide_eq_true (by omega), m6, m3, d6, d3, my_show κ _ (by omega), my_show κ _ (by omega), my_show κ u h]
    simp only [bif_t, Option.bind_some, ble_small _ _ (dec_sz (u / 1000000) (by omega)), ble_small _ _ (dec_sz (u / 1000) (by omega))]
    by_cases h6 : u % 1000000 = 0
    · rw [decide_eq_true h6, if_pos ⟨h0, h6⟩]; rfl
    · rw [decide_eq_false h6, if_neg (fun z => h6 z.2)]
      by_cases h3 : u % 1000 = 0
      · rw [decide_eq_true h3, if_pos ⟨h0, h3⟩]; rfl
      · rw [decide_eq_false h3, if_neg (fun z => h3 z.2)]; rfl
  · rw [show decide (((u : Nat) : Int) > 0) = false from decide_eq_false (by omega), my_show κ u h, if_neg (fun z => h0 z.1), if_neg (fun z => h0 z.1)]
    rfl
theorem ref_showRate (κ : Nat) (hκ : 30 ≤ κ) (u : Nat) (h : u < 18446744073709551616) : r06_ShowRate κ (u : Int) = some (showRateV u) := by
  unfold r06_ShowRate r06_ShowRate.v0 r06_ShowRate.v2 showRateV
  have m6 : ((Int.tmod (u : Int) (1000000 : Int)) == (0 : Int)) = decide (u % 1000000 = 0) := mod_zero u 1000000
  have m3 : ((Int.tmod (u : Int) (1000 : Int)) == (0 : Int)) = decide (u % 1000 = 0) := mod_zero u 1000
  have d6 : IntKind.wrap IntKind.u64 (Int.tdiv (u : Int) (1000000 : Int)) = ((u / 1000000 : Nat) : Int) := div_wrap u 1000000 (by omega) h
  have d3 : IntKind.wrap IntKind.u64 (Int.tdiv (u : Int) (1000 : Int)) = ((u / 1000 : Nat) : Int) := div_wrap u 1000 (by omega) h
  by_cases h0 : 0 < u
  · rw [show decide (((u : Nat) : Int) > 0) = true from decide_eq_true (by omega)]
    simp only [bif_t, Option.bind_some, m6, m3]
    by_cases h6 : u % 1000000 = 0
    · rw [decide_eq_true h6, if_pos ⟨h0, h6⟩, d6, ref_show κ hκ _ (by omega)]
      simp only [bif_t, Option.bind_some, ble_small _ _ (dec_sz (u / 1000000) (by omega))]
    · rw [decide_eq_false h6, if_neg (fun z => h6 z.2)]
      simp only [bif_f, bif_t, Option.bind_some, m3, show decide (((u : Nat) : Int) > 0) = true from decide_eq_true (by omega)]
      by_cases h3 : u % 1000 = 0
      · rw [decide_eq_true h3, if_pos ⟨h0, h3⟩, d3, ref_show κ hκ _ (by omega)]
        simp only [bif_t, Option.bind_some, ble_small _ _ (dec_sz (u / 1000) (by omega))]
      · rw [decide_eq_false h3, if_neg (fun z => h3 z.2), ref_show κ hκ u h]; rfl
  · rw [show decide (((u : Nat) : Int) > 0) = false from decide_eq_false (by omega), if_neg (fun z => h0 z.1), if_neg (fun z => h0 z.1)]
    simp only [bif_f, Option.bind_some, ref_show κ hκ u h, show decide (((u : Nat) : Int) > 0) = false from decide_eq_false (by omega)]
end Go.Proofs.YthmohmmbhjpbcaaGreatDoor.Va8


namespace Go.Proofs.YthmohmmbhjpbcaaGreatDoor.Va8
open Go Ev Ev.Seat Go.Lib

theorem snoc_wrap (m : List UInt8) (c : UInt8) (hs : m.length ≤ 140737488351232) : IntKind.wrap IntKind.i64 ((((⟨(m ++ [c]).toArray⟩ : ByteArray).size : Nat) : Int) - 1) = (m.length : Int) := by
  rw [sized, List.length_append, List.length_singleton, wrap_in _ (by omega) (by omega)]; omega
theorem cut_nil (κ : Nat) (d : UInt8) : strings_CutSuffix κ ⟨([] : List UInt8).toArray⟩ (ByteArray.mk (List.toArray (d :: []))) = some (⟨([] : List UInt8).toArray⟩, false) := rfl
theorem cut_snoc (κ : Nat) (m : List UInt8) (c d : UInt8) (hs : m.length ≤ 140737488351232) :
    strings_CutSuffix κ ⟨(m ++ [c]).toArray⟩ (ByteArray.mk (List.toArray (d :: []))) = some (if c = d then (⟨m.toArray⟩, true) else (⟨(m ++ [c]).toArray⟩, false)) := by
  have hz := snoc_wrap m c hs
  have h1 : ((ByteArray.mk (List.toArray (d :: []))).size : Int) = 1 := rfl
  have hl : (((⟨(m ++ [c]).toArray⟩ : ByteArray).size : Nat) : Int) = (m.length : Int) + 1 := by rw [sized, List.length_append, List.length_singleton]; omega
  have hex : (⟨(m ++ [c]).toArray⟩ : ByteArray).extract m.length ((m.length : Int) + 1).toNat = ⟨[c].toArray⟩ := by
    rw [ext_mid]; congr 2
    rw [List.drop_left]
    have : ((m.length : Int) + 1).toNat - m.length = 1 := by omega
    rw [this]; rfl
  have hex0 : (⟨(m ++ [c]).toArray⟩ : ByteArray).extract (Int.toNat 0) m.length = ⟨m.toArray⟩ := by
    rw [ext_mid]; congr 2
    simp
  have hs1 : internal_stringslite_HasSuffix κ ⟨(m ++ [c]).toArray⟩ (ByteArray.mk (List.toArray (d :: []))) = some (decide (c = d)) := by
    unfold internal_stringslite_HasSuffix internal_stringslite_HasSuffix.v0
    rw [h1, hz, hl]
    rw [show decide ((m.length : Int) + 1 ≥ 1) = true from decide_eq_true (by omega), show decide ((m.length : Int) + 1 ≤ (m.length : Int) + 1) = true from decide_eq_true (by omega),
      show decide ((0 : Int) ≤ (m.length : Int)) = true from decide_eq_true (by omega), show decide ((m.length : Int) ≤ (m.length : Int) + 1) = true from decide_eq_true (by omega)]
    simp only [bif_t, Bool.and_self, Int.toNat_natCast, hex, Option.bind_some]
    rw [show seq (⟨[c].toArray⟩ : ByteArray) (ByteArray.mk (List.toArray (d :: []))) = decide ([c] = [d]) from seq_mk [c] [d]]
    congr 1
    rw [decide_eq_decide]; simp
  unfold strings_CutSuffix internal_stringslite_CutSuffix
  rw [hs1]
  simp only [Option.bind_some]
  by_cases h : c = d
  · rw [decide_eq_true h, if_pos h, h1, hz, hl]
    rw [show decide ((0 : Int) ≤ (m.length : Int)) = true from decide_eq_true (by omega), show decide ((m.length : Int) ≤ (m.length : Int) + 1) = true from decide_eq_true (by omega)]
    simp only [Bool.not_true, bif_f, bif_t, Bool.and_self, Int.le_refl, decide_true, Int.toNat_natCast, hex0, Option.bind_some]
  · rw [decide_eq_false h, if_neg h]; rfl
def rateRT (r : ByteArray) (t : Nat) : Int × Bool := match rateT r t with | some u => ((u : Int), true) | none => (0, false)
theorem my_tail (κ : Nat) (r : ByteArray) (hr : r.size ≤ 140737488351232) (t : Nat) (ht : t = 1 ∨ t = 1000 ∨ t = 1000000) :
    (Option.bind (scalUint κ r) fun x => Option.bind (scalar_Rate.v1 κ (t : Int) x.fst x.snd (IntKind.wrap IntKind.u64 (x.fst * (t : Int)))) fun y => bif y.snd then some (y.fst, true) else some ((0 : Int), false)) = some (rateRT r t) := by
  rw [my_uint κ r hr]
  simp only [Option.bind_some]
  unfold rateRT uintR rateT scalar_Rate.v1
  cases hv : uintV r with
  | none => rfl
  | some u =>
    have hu := uintV_lt hv
    simp only [bif_t]
    rw [show decide ((t : Int) = 0) = false from decide_eq_false (by omega)]
    simp only [bif_f, Option.bind_some]
    by_cases hb : u * t < 18446744073709551616
    · have hw : IntKind.wrap IntKind.u64 ((u : Int) * (t : Int)) = ((u * t : Nat) : Int) := by
        rw [← Int.natCast_mul]
        generalize u * t = q at hb ⊢
        exact wrapu (by omega) (by omega)
      have hq : IntKind.wrap IntKind.u64 (Int.tdiv ((u * t : Nat) : Int) (t : Int)) = (u : Int) := by
        have := div_wrap (u * t) t (by omega) hb
        rw [this, Nat.mul_div_cancel u (by omega)]
      rw [if_pos hb, hw, hq]
      simp
    · have hw : IntKind.wrap IntKind.u64 ((u : Int) * (t : Int)) = ((u * t % 18446744073709551616 : Nat) : Int) := by
        rw [IntKind.wrap_u64, ← Int.natCast_mul]; omega
      have hlt : u * t % 18446744073709551616 < 18446744073709551616 := Nat.mod_lt _ (by omega)
      have hq : IntKind.wrap IntKind.u64 (Int.tdiv ((u * t % 18446744073709551616 : Nat) : Int) (t : Int)) = ((u * t % 18446744073709551616 / t : Nat) : Int) := div_wrap _ t (by omega) hlt
      have hne : ¬ ((u * t % 18446744073709551616 / t : Nat) : Int) = (u : Int) := by
        intro h
        have h' : u * t % 18446744073709551616 / t = u := by omega
        have := Nat.div_mul_le_self (u * t % 18446744073709551616) t
        rw [h'] at this
        omega
      rw [if_neg hb, hw, hq, show (((u * t % 18446744073709551616 / t : Nat) : Int) == (u : Int)) = false from beq_eq_false_iff_ne.2 hne]
      rfl
theorem my_rate (κ : Nat) (s : ByteArray) (hs : s.size ≤ 140737488351232) : scalar_Rate κ s = some (rateR s) := by
  obtain ⟨l, rfl⟩ := as_list s
  unfold scalar_Rate
  have t1 := fun r hr => my_tail κ r hr 1 (.inl rfl)
  have t3 := fun r hr => my_tail κ r hr 1000 (.inr (.inl rfl))
  have t6 := fun r hr => my_tail κ r hr 1000000 (.inr (.inr rfl))
  rcases List.eq_nil_or_concat l with rfl | ⟨m, c, rfl⟩
  · rw [cut_nil, cut_nil]
    simp only [Option.bind_some, bif_f]
    refine (t1 _ hs).trans ?_
    unfold rateRT rateR
    rw [rateV_nil] <;> rfl
  · rw [List.concat_eq_append] at hs ⊢
    have hm : m.length ≤ 140737488351232 := by rw [sized, List.length_append] at hs; omega
    have hms : (⟨m.toArray⟩ : ByteArray).size ≤ 140737488351232 := by rw [sized]; exact hm
    rw [cut_snoc κ m c 109 hm, cut_snoc κ m c 107 hm]
    by_cases h9 : c = 109
    · subst h9
      simp only [if_true, Option.bind_some, bif_t]
      refine (t6 _ hms).trans ?_
      unfold rateRT rateR
      rw [rateV_m] <;> rfl
    · rw [if_neg h9]
      simp only [Option.bind_some, bif_f]
      by_cases h7 : c = 107
      · subst h7
        simp only [if_true, Option.bind_some, bif_t]
        refine (t3 _ hms).trans ?_
        unfold rateRT rateR
        rw [rateV_k] <;> rfl
      · rw [if_neg h7]
        simp only [Option.bind_some, bif_f]
        refine (t1 _ hs).trans ?_
        unfold rateRT rateR
        rw [rateV_n m c h9 h7] <;> rfl

end Go.Proofs.YthmohmmbhjpbcaaGreatDoor.Va8


namespace Go.Proofs.YthmohmmbhjpbcaaGreatDoor.Va8
open Go Ev Ev.Seat Go.Lib

/-- The last k digits of a number, of base 256. -/
def dgB (x : Nat) : Nat → List UInt8
  | 0 => []
  | k + 1 => UInt8.ofNat (x / 256 ^ k % 256) :: dgB x k
theorem dgB_len (x : Nat) : ∀ k, (dgB x k).length = k
  | 0 => rfl
  | k + 1 => by simp [dgB, dgB_len x k]
theorem dgB_snoc (x : Nat) : ∀ k, dgB x (k + 1) = dgB (x / 256) k ++ [UInt8.ofNat (x % 256)]
  | 0 => by simp [dgB]
  | k + 1 => by
    have ih := dgB_snoc x k
    rw [dgB, ih]
    have : x / 256 ^ (k + 1) = x / 256 / 256 ^ k := by rw [Nat.div_div_eq_div_mul, Nat.pow_succ, Nat.mul_comm]
    rw [this]; rfl
def vl (l : List UInt8) : Nat := l.foldl (fun a c => 256 * a + c.toNat) 0
theorem vl_snoc (l : List UInt8) (c : UInt8) : vl (l ++ [c]) = 256 * vl l + c.toNat := by unfold vl; rw [List.foldl_append]; rfl
theorem vl_dgB : ∀ (k x : Nat), x < 256 ^ k → vl (dgB x k) = x
  | 0, x, h => by
    have : x = 0 := by simpa using h
    rw [this]; rfl
  | k + 1, x, h => by
    rw [dgB_snoc, vl_snoc, vl_dgB k (x / 256) (by rw [Nat.pow_succ] at h; omega), byte_nat (Nat.mod_lt _ (by omega))]
    omega
def blen (x : Nat) : Nat := if x = 0 then 0 else blen (x / 256) + 1
theorem blen0 : blen 0 = 0 := by rw [blen]; rfl
theorem blen_pos {x : Nat} (h : x ≠ 0) : blen x = blen (x / 256) + 1 := by rw [blen, if_neg h]
theorem blen_pow (x : Nat) : x < 256 ^ blen x := by
  induction x using Nat.strongRecOn with
  | _ x ih =>
    by_cases h : x = 0
    · rw [h, blen0]; omega
    · rw [blen_pos h, Nat.pow_succ]
      have := ih (x / 256) (by omega)
      omega
theorem blen_le : ∀ (k x : Nat), x < 256 ^ k → blen x ≤ k
  | 0, x, h => by
    have : x = 0 := by simpa using h
    rw [this, blen0]; omega
  | k + 1, x, h => by
    by_cases h0 : x = 0
    · rw [h0, blen0]; omega
    · rw [blen_pos h0]
      have := blen_le k (x / 256) (by rw [Nat.pow_succ] at h; omega)
      omega
theorem blen8 {x : Nat} (h : x < 18446744073709551616) : blen x ≤ 8 := blen_le 8 x (by omega)
/-- A number in as few bytes as can be. -/
def lst (x : Nat) : List UInt8 := dgB x (blen x)
theorem vl_lst (x : Nat) : vl (lst x) = x := vl_dgB _ x (blen_pow x)
theorem lst_inj {x y : Nat} (h : lst x = lst y) : x = y := by rw [← vl_lst x, h, vl_lst]
theorem lst_len {x : Nat} (h : x < 18446744073709551616) : (lst x).length ≤ 8 := by unfold lst; rw [dgB_len]; exact blen8 h
/-- Bytes as numbers. -/
def nums (l : List UInt8) : List Int := l.map fun c => ((c.toNat : Nat) : Int)
theorem nums_app (a b : List UInt8) : nums (a ++ b) = nums a ++ nums b := by unfold nums; rw [List.map_append]
theorem nums_len (l : List UInt8) : (nums l).length = l.length := by unfold nums; rw [List.length_map]
theorem back (l : List UInt8) : List.map (fun x => (UInt8.ofNat (Int.toNat x))) (nums l) = l := by
  unfold nums
  rw [List.map_map]
  conv => rhs; rw [← List.map_id l]
  refine List.map_congr_left fun c _ => ?_
  simp
theorem nums_get (l : List UInt8) (i : Nat) : (nums l)[i]? = (l[i]?).map fun c => ((c.toNat : Nat) : Int) := by unfold nums; rw [List.getElem?_map]
theorem fdiv256 (y : Nat) : Int.fdiv (y : Int) ((2 : Int) ^ (Min.min (Int.toNat (8 : Int)) (IntKind.bits IntKind.u64))) = ((y / 256 : Nat) : Int) := by
  have : ((2 : Int) ^ (Min.min (Int.toNat (8 : Int)) (IntKind.bits IntKind.u64))) = 256 := by decide
  rw [this, Int.fdiv_eq_ediv_of_nonneg _ (by omega)]
  omega
theorem least_loop (κ : Nat) (a : Int) : ∀ (K y : Nat) (c : Nat), y < 18446744073709551616 → blen y < K → c + blen y ≤ 1000 →
    octet_Least.l0 κ K (a, (c : Int), (y : Int)) = some (a, ((c + blen y : Nat) : Int))
  | 0, y, c, _, h, _ => by omega
  | K + 1, y, c, hy, hK, hc => by
    unfold octet_Least.l0 octet_Least.w0
    by_cases h : y = 0
    · subst h
      rw [show decide (((0 : Nat) : Int) > 0) = false from rfl, blen0]; rfl
    · have hb := blen_pos h
      rw [show decide (((y : Nat) : Int) > 0) = true from decide_eq_true (by omega), fdiv256]
      simp only [bif_t]
      rw [wrap_in _ (by omega) (by omega), show ((c : Int) + 1) = ((c + 1 : Nat) : Int) from by omega, least_loop κ a K (y / 256) (c + 1) (by omega) (by omega) (by omega)]
      congr 3
      omega
theorem shr (x k : Nat) (hk : k ≤ 7) : IntKind.wrap IntKind.u8 (Int.fdiv (x : Int) ((2 : Int) ^ (Min.min (Int.toNat (IntKind.wrap IntKind.i64 ((8 : Int) * (k : Int)))) (IntKind.bits IntKind.u64)))) = (((UInt8.ofNat (x / 256 ^ k % 256)).toNat : Nat) : Int) := by
  rw [wrap_in _ (by omega) (by omega)]
  have h1 : Int.toNat ((8 : Int) * (k : Int)) = 8 * k := by omega
  have h2 : Min.min (8 * k) (IntKind.bits IntKind.u64) = 8 * k := Nat.min_eq_left (by show 8 * k ≤ 64; omega)
  have h3 : ((2 : Int) ^ (8 * k)) = ((256 ^ k : Nat) : Int) := by
    have : (256 ^ k : Nat) = 2 ^ (8 * k) := by rw [Nat.pow_mul]
    rw [this]; simp
  rw [h1, h2, h3, Int.fdiv_eq_ediv_of_nonneg _ (Int.natCast_nonneg _), ← Int.natCast_ediv, byte_nat (Nat.mod_lt _ (by omega)), IntKind.wrap_u8]
  generalize x / 256 ^ k = q
  omega
theorem big_loop (κ : Nat) (x : Nat) : ∀ (j K : Nat) (l : List UInt8), j ≤ 8 → j < K → l.length + j ≤ 100 →
    octet_Big.l2 κ K ((x : Int), (j : Int) - 1, nums l) = some (nums (l ++ dgB x j))
  | j, 0, l, _, h, _ => by omega
  | 0, K + 1, l, _, _, _ => by
    unfold octet_Big.l2 octet_Big.w2
    rw [show decide (((0 : Nat) : Int) - 1 ≥ 0) = false from rfl]
    rw [show dgB x 0 = [] from rfl, List.append_nil]; rfl
  | j + 1, K + 1, l, h8, hK, hl => by
    have e : ((j + 1 : Nat) : Int) - 1 = (j : Int) := by omega
    unfold octet_Big.l2 octet_Big.w2
    rw [e, show decide ((j : Int) ≥ 0) = true from decide_eq_true (by omega), shr x j (by omega)]
    have hw : decide (IntKind.wrap IntKind.i64 ((8 : Int) * (j : Int)) < 0) = false := decide_eq_false (by rw [wrap_in _ (by omega) (by omega)]; omega)
    have hr : Nat.ble ((nums l).length + ((((UInt8.ofNat (x / 256 ^ j % 256)).toNat : Nat) : Int) :: []).length) (room (0 + 1)) = true := Nat.ble_eq_true_of_le (by rw [nums_len]; unfold room; simp; omega)
    rw [hw, hr]
    simp only [bif_t, bif_f]
    rw [wrap_in _ (by omega) (by omega)]
    have hn : nums l ++ [(((UInt8.ofNat (x / 256 ^ j % 256)).toNat : Nat) : Int)] = nums (l ++ [UInt8.ofNat (x / 256 ^ j % 256)]) := by rw [nums_app]; rfl
    rw [hn, big_loop κ x j K _ (by omega) (by omega) (by rw [List.length_append, List.length_singleton]; omega), List.append_assoc]
    rfl
theorem least_eq (κ : Nat) (hκ : 30 ≤ κ) (x : Nat) (h : x < 18446744073709551616) : octet_Least κ (x : Int) = some (nums (lst x)) := by
  have hb := blen8 h
  have h1 := least_loop κ (x : Int) κ x 0 h (by omega) (by omega)
  unfold octet_Least
  have h1 : octet_Least.l0 κ κ ((x : Int), (0 : Int), (x : Int)) = some ((x : Int), ((0 + blen x : Nat) : Int)) := h1
  rw [h1, Nat.zero_add]
  simp only [Option.bind_some]
  unfold octet_Big octet_Big.v0 lst
  by_cases h0 : blen x = 0
  · rw [h0]; rfl
  · rw [show decide (((blen x : Nat) : Int) < 1) = false from decide_eq_false (by omega), show decide (((blen x : Nat) : Int) > 8) = false from decide_eq_false (by omega)]
    simp only [bif_f, Option.bind_some]
    rw [wrap_in _ (by omega) (by omega)]
    have := big_loop κ x (blen x) κ [] (by omega) (by omega) (by simp; omega)
    have e : nums ([] : List UInt8) = [] := rfl
    rw [e] at this
    rw [this]; rfl
theorem refone (y : Nat) : IntKind.wrap IntKind.u8 (Int.tmod (y : Int) (256 : Int)) = ((y % 256 : Nat) : Int) := by
  rw [Int.tmod_eq_emod_of_nonneg (by omega), wrap8 (by omega) (by omega)]; omega
theorem refLeast_loop (κ : Nat) : ∀ (K y : Nat) (l : List UInt8), y < 18446744073709551616 → blen y < K → l.length + blen y ≤ 1000 →
    r01_Least.l0 κ K ((y : Int), ⟨l.toArray⟩) = some ⟨(lst y ++ l).toArray⟩
  | 0, y, l, _, h, _ => by omega
  | K + 1, y, l, hy, hK, hl => by
    unfold r01_Least.l0 r01_Least.w0
    by_cases h : y = 0
    · subst h
      rw [show decide (((0 : Nat) : Int) > 0) = false from rfl]
      unfold lst; rw [blen0]; rfl
    · have hb := blen_pos h
      have hd : IntKind.wrap IntKind.u64 (Int.tdiv (y : Int) (256 : Int)) = ((y / 256 : Nat) : Int) := div_wrap y 256 (by omega) hy
      rw [show decide (((y : Nat) : Int) > 0) = true from decide_eq_true (by omega), refone, one_byte, hd]
      have hr : Nat.ble (ByteArray.size ⟨[UInt8.ofNat (y % 256)].toArray⟩ + ByteArray.size ⟨l.toArray⟩) maxI = true := Nat.ble_eq_true_of_le (by rw [sized, sized, List.length_singleton]; unfold maxI; omega)
      rw [hr]
      simp only [bif_t]
      rw [mk_append, refLeast_loop κ K (y / 256) _ (by omega) (by omega) (by rw [List.length_append, List.length_singleton]; omega)]
      unfold lst
      rw [hb, dgB_snoc, List.append_assoc]
theorem refLeast_eq (κ : Nat) (hκ : 30 ≤ κ) (x : Nat) (h : x < 18446744073709551616) : r01_Least κ (x : Int) = some ⟨(lst x).toArray⟩ := by
  have hb := blen8 h
  have := refLeast_loop κ κ x [] h (by omega) (by simp; omega)
  unfold r01_Least
  rw [List.append_nil] at this
  have this : r01_Least.l0 κ κ ((x : Int), ByteArray.mk (List.toArray [])) = some ⟨(lst x).toArray⟩ := this
  rw [this]; rfl
theorem refBig1 (κ : Nat) (hκ : 30 ≤ κ) (x : Nat) (h : x < 18446744073709551616) : r01_Big κ (x : Int) 1 = some ⟨[UInt8.ofNat (x % 256)].toArray⟩ := by
  obtain ⟨k, rfl⟩ : ∃ k, κ = k + 2 := ⟨κ - 2, by omega⟩
  unfold r01_Big r01_Big.l2 r01_Big.w2 r01_Big.v3
  have hr : Nat.ble (ByteArray.size (ByteArray.mk (List.toArray (List.map (fun x => (UInt8.ofNat (Int.toNat x))) ((((x % 256 : Nat) : Nat) : Int) :: [])))) + ByteArray.size (ByteArray.mk (List.toArray []))) maxI = true := rfl
  rw [show decide ((0 : Int) < 1) = true from rfl]
  simp only [bif_t, Option.bind_some, show decide ((1 : Int) ≤ 8) = true from rfl, refone, hr]
  unfold r01_Big.l2 r01_Big.w2 r01_Big.v3
  rw [wrap_in _ (by omega) (by omega), show decide ((0 : Int) + 1 < 1) = false from rfl]
  simp only [bif_f, Option.bind_some]
  rw [one_byte, show (ByteArray.mk (List.toArray [])) = (⟨([] : List UInt8).toArray⟩ : ByteArray) from rfl, mk_append]
  rfl
end Go.Proofs.YthmohmmbhjpbcaaGreatDoor.Va8


namespace Go.Proofs.YthmohmmbhjpbcaaGreatDoor.Va8
open Go Ev Ev.Seat Go.Lib

theorem rgt_cases {kd ty mi ma : Int} {ns : List ByteArray} {k n : Int} {t : ByteArray} (h : rgt kd ty mi ma ns k n t = true) :
    kd = 1 ∧ k = ty ∧ (((ty = 1 ∨ ty = 2) ∧ mi ≤ n ∧ n ≤ ma ∧ t = B0) ∨ (ty = 3 ∧ n ≤ 1 ∧ t = B0) ∨ (ty = 4 ∧ 0 ≤ ixI t ns ∧ n = 0) ∨ ((ty = 5 ∨ ty = 6) ∧ idn t = true ∧ n = 0)) := by
  unfold rgt at h
  simp only [Bool.and_eq_true, beq_iff_eq] at h
  obtain ⟨h1, h2, h3⟩ := h
  refine ⟨h1, h2, ?_⟩
  by_cases t12 : ty = 1 ∨ ty = 2
  · have : (ty == 1 || ty == 2) = true := by simpa using t12
    rw [this] at h3
    simp only [bif_t, Bool.and_eq_true, decide_eq_true_eq] at h3
    exact .inl ⟨t12, h3.1, h3.2.1, seq_iff.1 h3.2.2⟩
  · have : (ty == 1 || ty == 2) = false := by simpa using t12
    rw [this] at h3
    simp only [bif_f] at h3
    by_cases t3 : ty = 3
    · rw [show (ty == 3) = true from by simp [t3]] at h3
      simp only [bif_t, Bool.and_eq_true, decide_eq_true_eq] at h3
      exact .inr (.inl ⟨t3, h3.1, seq_iff.1 h3.2⟩)
    · rw [show (ty == 3) = false from by simp [t3]] at h3
      simp only [bif_f] at h3
      by_cases t4 : ty = 4
      · rw [show (ty == 4) = true from by simp [t4]] at h3
        simp only [bif_t, Bool.and_eq_true, decide_eq_true_eq, beq_iff_eq] at h3
        exact .inr (.inr (.inl ⟨t4, h3.1, h3.2⟩))
      · rw [show (ty == 4) = false from by simp [t4]] at h3
        simp only [bif_f] at h3
        by_cases t5 : ty = 5 ∨ ty = 6
        · have : (ty == 5 || ty == 6) = true := by simpa using t5
          rw [this] at h3
          simp only [bif_t, Bool.and_eq_true, beq_iff_eq] at h3
          exact .inr (.inr (.inr ⟨t5, h3.1, h3.2⟩))
        · have : (ty == 5 || ty == 6) = false := by simpa using t5
          rw [this] at h3
          cases h3

theorem refRight_eq (κ : Nat) (hκ : 2000 ≤ κ) (nm : ByteArray) (kd ty mi ma : Int) (ns : List ByteArray) (mu : Bool) (mo : Int) (ks : List Tollbarref07S) (k n : Int) (t : ByteArray) (hl : ns.length < 1000) (ht : t.size ≤ 1000) :
    r08_Right κ nm kd ty mi ma ns mu mo ks k n t = some (rgt kd ty mi ma ns k n t) := by
  unfold r08_Right r08_Right.v0 rgt
  by_cases h : ¬ kd = 1
  · rw [show (kd != 1) = true from by simp [h], show (kd == 1) = false from by simp [h]]; rfl
  have h : kd = 1 := Classical.not_not.1 h
  subst h
  by_cases hk : ¬ k = ty
  · rw [show (k == ty) = false from by simp [hk], show (k != ty) = true from by simp [hk]]; rfl
  have hk : k = ty := Classical.not_not.1 hk
  subst hk
  rw [show (k == k) = true from by simp, show (k != k) = false from by simp]
  have e2 : ((1 : Int) != 1) = false := rfl
  rw [e2]
  simp only [bif_f, Option.bind_some]
  unfold r08_Right.v2
  by_cases h1 : k = 1
  · subst h1
    show (r08_Right.v4 κ nm 1 1 mi ma ns mu mo ks 1 n t).bind (fun x6 => some x6) = _
    unfold r08_Right.v4
    cases h2 : decide (n ≥ mi)
    · rfl
    · cases h3 : decide (n ≤ ma)
      · rfl
      · rfl
  by_cases h2 : k = 2
  · subst h2
    show (r08_Right.v4 κ nm 1 2 mi ma ns mu mo ks 2 n t).bind (fun x6 => some x6) = _
    unfold r08_Right.v4
    cases h2 : decide (n ≥ mi)
    · rfl
    · cases h3 : decide (n ≤ ma)
      · rfl
      · rfl
  by_cases h3 : k = 3
  · subst h3
    show (r08_Right.v6 κ 3 n t).bind (fun x6 => some x6) = _
    unfold r08_Right.v6
    rw [show decide (n < 2) = decide (n ≤ 1) from by rw [decide_eq_decide]; omega]
    cases h2 : decide (n ≤ 1)
    · rfl
    · rfl
  by_cases h4 : k = 4
  · subst h4
    show (r08_Right.v8 κ nm 1 4 mi ma ns mu mo ks 4 n t).bind (fun x6 => some x6) = _
    unfold r08_Right.v8
    rw [which_eq κ t ns (by omega) (by omega)]
    cases h2 : decide (ixI t ns ≥ 0)
    · simp only [Option.bind_some, h2]; rfl
    · simp only [Option.bind_some, h2]; rfl
  have e1 : (k == 1) = false := by simp [h1]
  have e2 : (k == 2) = false := by simp [h2]
  have e3 : (k == 3) = false := by simp [h3]
  have e4 : (k == 4) = false := by simp [h4]
  unfold r08_Right.v10
  by_cases h5 : k = 5
  · subst h5
    show (r08_Right.v12 κ 5 n t).bind (fun x6 => some x6) = _
    unfold r08_Right.v12
    rw [refIdent_eq κ t (by omega) (by omega)]
    cases idn t <;> rfl
  by_cases h6 : k = 6
  · subst h6
    show (r08_Right.v12 κ 6 n t).bind (fun x6 => some x6) = _
    unfold r08_Right.v12
    rw [refIdent_eq κ t (by omega) (by omega)]
    cases idn t <;> rfl
  have e5 : (k == 5) = false := by simp [h5]
  have e6 : (k == 6) = false := by simp [h6]
  simp only [e1, e2, e3, e4, e5, e6, bif_f, Option.bind_some, Bool.or_self]
  rfl

abbrev BT : ByteArray := ByteArray.mk (List.toArray ((116 : UInt8) :: ((114 : UInt8) :: ((117 : UInt8) :: ((101 : UInt8) :: [])))))
abbrev BF : ByteArray := ByteArray.mk (List.toArray ((102 : UInt8) :: ((97 : UInt8) :: ((108 : UInt8) :: ((115 : UInt8) :: ((101 : UInt8) :: []))))))
/-- A value as text. -/
def txt (ty n : Int) (t : ByteArray) : ByteArray :=
  bif ty == 1 then ⟨(decDigits n.toNat).toArray⟩ else bif ty == 2 then showRateV n.toNat else bif ty == 3 then (bif n == 1 then BT else BF) else t
theorem text_eq (κ : Nat) (nm : ByteArray) (kd ty mi ma : Int) (ns : List ByteArray) (mu : Bool) (mo : Int) (ks : List SpecSpec) (k n : Int) (t : ByteArray) (hl : ns.length < 1000) (hκ : 1000 ≤ κ) (h0 : 0 ≤ n) (h1 : n < 18446744073709551616) :
    value_Text κ nm kd ty mi ma ns mu mo ks k n t = some (bif rgt kd ty mi ma ns k n t then txt ty n t else B0) := by
  unfold value_Text
  rw [right_eq κ nm kd ty mi ma ns mu mo ks k n t hl hκ]
  cases hr : rgt kd ty mi ma ns k n t
  · rfl
  obtain ⟨u, rfl⟩ := Int.eq_ofNat_of_zero_le h0
  obtain ⟨rfl, rfl, h⟩ := rgt_cases hr
  simp only [Option.bind_some, Bool.not_true, bif_f, bif_t]
  unfold value_of txt
  rcases h with ⟨ht | ht, _⟩ | ⟨ht, hn, _⟩ | ⟨ht, _⟩ | ⟨ht | ht, _⟩
  · subst ht
    unfold value_number_text_2
    rw [my_show κ u (by omega)]
    rfl
  · subst ht
    unfold value_number_text
    rw [my_showRate κ u (by omega)]
    rfl
  · subst ht
    have : u = 0 ∨ u = 1 := by omega
    rcases this with rfl | rfl <;> rfl
  · subst ht; rfl
  · subst ht; rfl
  · subst ht; rfl
theorem refText_eq (κ : Nat) (hκ : 2000 ≤ κ) (nm : ByteArray) (kd ty mi ma : Int) (ns : List ByteArray) (mu : Bool) (mo : Int) (ks : List Tollbarref07S) (k n : Int) (t : ByteArray) (hl : ns.length < 1000) (hs : t.size ≤ 1000) (h0 : 0 ≤ n) (h1 : n < 18446744073709551616) :
    r08_Text κ nm kd ty mi ma ns mu mo ks k n t = some (bif rgt kd ty mi ma ns k n t then txt ty n t else B0) := by
  unfold r08_Text
  rw [refRight_eq κ hκ nm kd ty mi ma ns mu mo ks k n t hl hs]
  cases hr : rgt kd ty mi ma ns k n t
  · rfl
  obtain ⟨u, rfl⟩ := Int.eq_ofNat_of_zero_le h0
  obtain ⟨rfl, rfl, h⟩ := rgt_cases hr
  simp only [Option.bind_some, Bool.not_true, bif_f, bif_t]
  unfold r08_Text.v0 txt
  rcases h with ⟨ht | ht, _⟩ | ⟨ht, hn, _⟩ | ⟨ht, _⟩ | ⟨ht | ht, _⟩
  · subst ht
    rw [ref_show κ (by omega) u (by omega)]
    rfl
  · subst ht
    rw [ref_showRate κ (by omega) u (by omega)]
    rfl
  · subst ht
    have : u = 0 ∨ u = 1 := by omega
    rcases this with rfl | rfl <;> rfl
  · subst ht; rfl
  · subst ht; rfl
  · subst ht; rfl

/-- A value as bytes. -/
def dat (ty n : Int) (t : ByteArray) (ns : List ByteArray) : List UInt8 :=
  bif ty == 1 || ty == 2 then lst n.toNat else bif ty == 3 then [UInt8.ofNat n.toNat] else bif ty == 4 then [UInt8.ofNat (ixI t ns).toNat] else t.data.toList
theorem ixI_lt (t : ByteArray) (ns : List ByteArray) : ixI t ns < (ns.length : Int) ∧ -1 ≤ ixI t ns := by
  unfold ixI
  cases h : ixL t ns 0 with
  | none => exact ⟨by simp only; omega, by simp only; omega⟩
  | some j =>
    obtain ⟨_, h2⟩ := ixL_some h
    have := (List.getElem?_eq_some_iff.1 h2).1
    exact ⟨by simp only; omega, by simp only; omega⟩
theorem name_bytes (κ : Nat) (nm : ByteArray) (kd ty mi ma : Int) (ns : List ByteArray) (mu : Bool) (mo : Int) (ks : List SpecSpec) (k n : Int) (t : ByteArray) (h : t.size ≤ 1000) :
    value_name_data κ nm kd ty mi ma ns mu mo ks k n t = some (nums t.data.toList) := by
  unfold value_name_data
  rw [Nat.ble_eq_true_of_le (by unfold maxI; omega)]; rfl
theorem choice_bytes (κ : Nat) (nm : ByteArray) (kd ty mi ma : Int) (ns : List ByteArray) (mu : Bool) (mo : Int) (ks : List SpecSpec) (k n : Int) (t : ByteArray) (hl : ns.length ≤ 100) (hκ : 1000 ≤ κ) (h0 : 0 ≤ ixI t ns) :
    value_choice_data κ nm kd ty mi ma ns mu mo ks k n t = some (nums [UInt8.ofNat (ixI t ns).toNat]) := by
  have hlt := (ixI_lt t ns).1
  unfold value_choice_data
  rw [index_eq κ t ns (by omega) (by omega)]
  simp only [Option.bind_some]
  obtain ⟨u, hu⟩ := Int.eq_ofNat_of_zero_le h0
  rw [hu] at hlt ⊢
  rw [wrap8 (by omega) (by omega)]
  unfold nums
  simp only [List.map_cons, List.map_nil, Int.toNat_natCast]
  rw [byte_nat (by omega)]
theorem data_eq (κ : Nat) (nm : ByteArray) (kd ty mi ma : Int) (ns : List ByteArray) (mu : Bool) (mo : Int) (ks : List SpecSpec) (k n : Int) (t : ByteArray) (hl : ns.length ≤ 100) (hκ : 1000 ≤ κ) (h0 : 0 ≤ n) (h1 : n < 18446744073709551616) :
    value_Data κ nm kd ty mi ma ns mu mo ks k n t = some (nums (bif rgt kd ty mi ma ns k n t then dat ty n t ns else [])) := by
  unfold value_Data
  rw [right_eq κ nm kd ty mi ma ns mu mo ks k n t (by omega) hκ]
  cases hr : rgt kd ty mi ma ns k n t
  · rfl
  obtain ⟨u, rfl⟩ := Int.eq_ofNat_of_zero_le h0
  obtain ⟨rfl, rfl, h⟩ := rgt_cases hr
  simp only [Option.bind_some, Bool.not_true, bif_f, bif_t]
  unfold value_of dat
  rcases h with ⟨ht | ht, _⟩ | ⟨ht, hn, _⟩ | ⟨ht, hx, _⟩ | ⟨ht | ht, hi, _⟩
  · subst ht
    unfold value_number_data_2
    rw [least_eq κ (by omega) u (by omega)]
    rfl
  · subst ht
    unfold value_number_data
    rw [least_eq κ (by omega) u (by omega)]
    rfl
  · subst ht
    have : u = 0 ∨ u = 1 := by omega
    rcases this with rfl | rfl <;> rfl
  · subst ht
    rw [choice_bytes κ nm 1 4 mi ma ns mu mo ks 4 (u : Int) t hl hκ hx]
    rfl
  · subst ht
    have := idn_size hi
    rw [name_bytes κ nm 1 5 mi ma ns mu mo ks 5 (u : Int) t (by omega)]
    rfl
  · subst ht
    have := idn_size hi
    rw [name_bytes κ nm 1 6 mi ma ns mu mo ks 6 (u : Int) t (by omega)]
    rfl
theorem refData_eq (κ : Nat) (hκ : 2000 ≤ κ) (nm : ByteArray) (kd ty mi ma : Int) (ns : List ByteArray) (mu : Bool) (mo : Int) (ks : List Tollbarref07S) (k n : Int) (t : ByteArray) (hl : ns.length ≤ 100) (hs : t.size ≤ 1000) (h0 : 0 ≤ n) (h1 : n < 18446744073709551616) :
    r08_Data κ nm kd ty mi ma ns mu mo ks k n t = some ⟨(bif rgt kd ty mi ma ns k n t then dat ty n t ns else []).toArray⟩ := by
  unfold r08_Data
  rw [refRight_eq κ hκ nm kd ty mi ma ns mu mo ks k n t (by omega) hs]
  cases hr : rgt kd ty mi ma ns k n t
  · rfl
  obtain ⟨u, rfl⟩ := Int.eq_ofNat_of_zero_le h0
  obtain ⟨rfl, rfl, h⟩ := rgt_cases hr
  simp only [Option.bind_some, Bool.not_true, bif_f, bif_t]
  unfold r08_Data.v0 dat
  rcases h with ⟨ht | ht, _⟩ | ⟨ht, hn, _⟩ | ⟨ht, hx, _⟩ | ⟨ht | ht, hi, _⟩
  · subst ht
    show (r01_Least κ (u : Int)).bind (fun x5 => some x5) = _
    rw [refLeast_eq κ (by omega) u (by omega)]
    rfl
  · subst ht
    show (r01_Least κ (u : Int)).bind (fun x5 => some x5) = _
    rw [refLeast_eq κ (by omega) u (by omega)]
    rfl
  · subst ht
    show (r01_Big κ (u : Int) 1).bind (fun x5 => some x5) = _
    rw [refBig1 κ (by omega) u (by omega)]
    have : u = 0 ∨ u = 1 := by omega
    rcases this with rfl | rfl <;> rfl
  · subst ht
    have hlt := (ixI_lt t ns).1
    show (r08_which κ ns t).bind (fun x2 => (r01_Big κ (IntKind.wrap IntKind.u64 x2) 1).bind fun x5 => some x5) = some ⟨[UInt8.ofNat (ixI t ns).toNat].toArray⟩
    rw [which_eq κ t ns (by omega) (by omega)]
    obtain ⟨q, hq⟩ := Int.eq_ofNat_of_zero_le hx
    rw [hq] at hlt ⊢
    simp only [Option.bind_some]
    rw [wrapu (by omega) (by omega), refBig1 κ (by omega) q (by omega)]
    have : q % 256 = q := by omega
    rw [this]
    rfl
  · subst ht
    exact congrArg some (mk_data t).symm
  · subst ht
    exact congrArg some (mk_data t).symm
end Go.Proofs.YthmohmmbhjpbcaaGreatDoor.Va8


namespace Go.Proofs.YthmohmmbhjpbcaaGreatDoor.Va8
open Go Ev Ev.Seat Go.Lib

theorem dec_inj {u v : Nat} (hu : u < 18446744073709551616) (hv : v < 18446744073709551616) (h : decDigits u = decDigits v) : u = v := by
  have h1 := uintV_dec u hu
  rw [h, uintV_dec v hv] at h1
  exact (Option.some.inj h1).symm
theorem rate_inj {u v : Nat} (hu : u < 18446744073709551616) (hv : v < 18446744073709551616) (h : showRateV u = showRateV v) : u = v := by
  have h1 := show_rate u hu
  rw [h, show_rate v hv] at h1
  exact (Option.some.inj h1).symm
theorem rate_ne (u : Nat) : showRateV u ≠ B0 := by
  have hp : ∀ v, 1 ≤ (decDigits v).length := fun v => by
    rcases h : decDigits v with _ | ⟨a, l⟩
    · exact absurd h (dec_ne v)
    · simp
  intro h
  have hs : (showRateV u).size = 0 := by rw [h]; rfl
  unfold showRateV at hs
  have h0 := hp u
  have h3 := hp (u / 1000)
  have h6 := hp (u / 1000000)
  split at hs
  · rw [size_app, sized] at hs; omega
  · split at hs
    · rw [size_app, sized] at hs; omega
    · rw [sized] at hs; omega
theorem ixI_mem {t : ByteArray} {ns : List ByteArray} (h : 0 ≤ ixI t ns) : ∃ j : Nat, ixI t ns = (j : Int) ∧ ns[j]? = some t := by
  unfold ixI at h ⊢
  cases hj : ixL t ns 0 with
  | none => rw [hj] at h; simp at h
  | some j => exact ⟨j, rfl, by have := (ixL_some hj).2; simpa using this⟩
/-- What a leaf may have is told apart by its text, and by its bytes. -/
theorem apart {s : SpecSpec} (ok : LeafOk s) {k n k' n' : Int} {t t' : ByteArray} (h0 : 0 ≤ n) (h1 : n < 18446744073709551616) (h0' : 0 ≤ n') (h1' : n' < 18446744073709551616)
    (hr : rgt s.kind s.type_ s.min s.max s.names k n t = true) (hr' : rgt s.kind s.type_ s.min s.max s.names k' n' t' = true) :
    (seq (txt s.type_ n t) (txt s.type_ n' t') = ((k == k') && ((n == n') && seq t t'))) ∧
    (seq (⟨(dat s.type_ n t s.names).toArray⟩ : ByteArray) ⟨(dat s.type_ n' t' s.names).toArray⟩ = ((k == k') && ((n == n') && seq t t'))) ∧ seq (txt s.type_ n t) B0 = false := by
  obtain ⟨hk, rfl, h⟩ := rgt_cases hr
  obtain ⟨_, rfl, h'⟩ := rgt_cases hr'
  obtain ⟨u, rfl⟩ := Int.eq_ofNat_of_zero_le h0
  obtain ⟨v, rfl⟩ := Int.eq_ofNat_of_zero_le h0'
  have key : ∀ (a b : ByteArray), (a = b ↔ (u = v ∧ t = t')) → seq a b = ((s.type_ == s.type_) && ((((u : Nat) : Int) == ((v : Nat) : Int)) && seq t t')) := by
    intro a b hab
    rw [Bool.eq_iff_iff, seq_iff, hab]
    simp only [BEq.rfl, Bool.true_and, Bool.and_eq_true, beq_iff_eq, seq_iff]
    exact ⟨fun ⟨a, b⟩ => ⟨by omega, b⟩, fun ⟨a, b⟩ => ⟨by omega, b⟩⟩
  have keyB : ∀ (a b : List UInt8), (a = b ↔ (u = v ∧ t = t')) → seq (⟨a.toArray⟩ : ByteArray) ⟨b.toArray⟩ = ((s.type_ == s.type_) && ((((u : Nat) : Int) == ((v : Nat) : Int)) && seq t t')) := fun a b hab => key _ _ (bs_inj.trans hab)
  rcases h with ⟨ht | ht, _, _, e⟩ | ⟨ht, hn, e⟩ | ⟨ht, hx, hz⟩ | ⟨ht, hi, hz⟩
  · have e' : t' = B0 := by
      rcases h' with ⟨_, _, _, e⟩ | ⟨h, _⟩ | ⟨h, _⟩ | ⟨h, _⟩ <;> first | exact e | omega
    refine ⟨key _ _ ?_, keyB _ _ ?_, ?_⟩
    · rw [ht]; unfold txt
      show (⟨(decDigits u).toArray⟩ : ByteArray) = ⟨(decDigits v).toArray⟩ ↔ _
      rw [bs_inj]
      exact ⟨fun h => ⟨dec_inj (by omega) (by omega) h, by rw [e, e']⟩, fun h => by rw [h.1]⟩
    · rw [ht]; unfold dat
      show lst u = lst v ↔ _
      exact ⟨fun h => ⟨lst_inj h, by rw [e, e']⟩, fun h => by rw [h.1]⟩
    · rw [ht]; unfold txt
      show seq (⟨(decDigits u).toArray⟩ : ByteArray) B0 = false
      rw [seq_B0]; exact decide_eq_false (dec_ne u)
  · have e' : t' = B0 := by
      rcases h' with ⟨_, _, _, e⟩ | ⟨h, _⟩ | ⟨h, _⟩ | ⟨h, _⟩ <;> first | exact e | omega
    refine ⟨key _ _ ?_, keyB _ _ ?_, ?_⟩
    · rw [ht]; unfold txt
      show showRateV u = showRateV v ↔ _
      exact ⟨fun h => ⟨rate_inj (by omega) (by omega) h, by rw [e, e']⟩, fun h => by rw [h.1]⟩
    · rw [ht]; unfold dat
      show lst u = lst v ↔ _
      exact ⟨fun h => ⟨lst_inj h, by rw [e, e']⟩, fun h => by rw [h.1]⟩
    · rw [ht]; unfold txt
      show seq (showRateV u) B0 = false
      exact Bool.eq_false_iff.2 fun h => rate_ne u (seq_iff.1 h)
  · obtain ⟨e', hn'⟩ : t' = B0 ∧ v ≤ 1 := by
      rcases h' with ⟨h, _⟩ | ⟨_, h2, e⟩ | ⟨h, _⟩ | ⟨h, _⟩ <;> first | exact ⟨e, by omega⟩ | omega
    subst e; subst e'
    have c1 : u = 0 ∨ u = 1 := by omega
    have c2 : v = 0 ∨ v = 1 := by omega
    rw [ht]
    rcases c1 with rfl | rfl <;> rcases c2 with rfl | rfl <;> exact ⟨by decide +kernel, by kernel_rfl, by decide +kernel⟩
  · obtain ⟨hx', hz'⟩ : 0 ≤ ixI t' s.names ∧ v = 0 := by
      rcases h' with ⟨h, _⟩ | ⟨h, _⟩ | ⟨_, h2, e⟩ | ⟨h, _⟩ <;> first | exact ⟨h2, by omega⟩ | omega
    have hu : u = 0 := by omega
    obtain ⟨j, hj, gj⟩ := ixI_mem hx
    obtain ⟨j', hj', gj'⟩ := ixI_mem hx'
    have l1 := (ixI_lt t s.names).1
    have l2 := (ixI_lt t' s.names).1
    have hf := ok.few
    refine ⟨key _ _ ?_, keyB _ _ ?_, ?_⟩
    · rw [ht]; unfold txt
      show t = t' ↔ _
      exact ⟨fun h => ⟨by omega, h⟩, fun h => h.2⟩
    · rw [ht]; unfold dat
      show [UInt8.ofNat (ixI t s.names).toNat] = [UInt8.ofNat (ixI t' s.names).toNat] ↔ _
      constructor
      · intro h
        refine ⟨by omega, ?_⟩
        have h2 := (List.cons.inj h).1
        have h3 := congrArg UInt8.toNat h2
        rw [byte_nat (by omega), byte_nat (by omega), hj, hj'] at h3
        have : j = j' := by omega
        rw [this] at gj
        rw [gj] at gj'
        exact Option.some.inj gj'
      · intro h; rw [h.2]
    · rw [ht]; unfold txt
      show seq t B0 = false
      exact (ok.nice t (List.mem_of_getElem? gj)).1
  · obtain ⟨hi', hz'⟩ : idn t' = true ∧ v = 0 := by
      rcases h' with ⟨h, _⟩ | ⟨h, _⟩ | ⟨h, _⟩ | ⟨_, h2, e⟩ <;> first | exact ⟨h2, by omega⟩ | omega
    have htx : ∀ n x, txt s.type_ n x = x := fun n x => by
      unfold txt
      rcases ht with h | h <;> rw [h] <;> rfl
    have hda : ∀ n x, dat s.type_ n x s.names = x.data.toList := fun n x => by
      unfold dat
      rcases ht with h | h <;> rw [h] <;> rfl
    refine ⟨key _ _ ?_, keyB _ _ ?_, ?_⟩
    · rw [htx, htx]
      exact ⟨fun h => ⟨by omega, h⟩, fun h => h.2⟩
    · rw [hda, hda]
      refine ⟨fun h => ⟨by omega, ?_⟩, fun h => by rw [h.2]⟩
      rw [← mk_data t, h, mk_data]
    · rw [htx]
      exact idn_ne hi
theorem u64_of {a : Int} (w : (Lit.int .u64 a).wf = true) : 0 ≤ a ∧ a < 18446744073709551616 := by
  have : 0 ≤ a ∧ a ≤ 18446744073709551615 := by simpa [Lit.wf, IntKind.min, IntKind.max, IntKind.signed, IntKind.bits] using w
  omega
end Go.Proofs.YthmohmmbhjpbcaaGreatDoor.Va8


namespace Go.Proofs.YthmohmmbhjpbcaaGreatDoor.Va8
open Go Ev Ev.Seat Go.Lib

theorem vl_app (a : List UInt8) : ∀ b : List UInt8, vl (a ++ b) = vl a * 256 ^ b.length + vl b := by
  suffices h : ∀ (n : Nat) (b : List UInt8), b.length = n → vl (a ++ b) = vl a * 256 ^ b.length + vl b from fun b => h _ b rfl
  intro n
  induction n with
  | zero =>
    intro b hb
    have : b = [] := List.length_eq_zero_iff.1 hb
    subst this
    simp [vl]
  | succ n ih =>
    intro b hb
    rcases List.eq_nil_or_concat b with rfl | ⟨m, c, rfl⟩
    · simp at hb
    · rw [List.concat_eq_append] at hb ⊢
      have hm : m.length = n := by simpa using hb
      rw [← List.append_assoc, vl_snoc, vl_snoc, ih m hm, List.length_append, List.length_singleton, Nat.pow_succ]
      have : vl a * (256 ^ m.length * 256) = 256 * (vl a * 256 ^ m.length) := by
        rw [← Nat.mul_assoc, Nat.mul_comm]
      rw [this]
      omega
theorem vl_take_le (l : List UInt8) (i : Nat) : vl (l.take i) ≤ vl l := by
  have h := vl_app (l.take i) (l.drop i)
  rw [List.take_append_drop] at h
  rw [h]
  have : 0 < 256 ^ (l.drop i).length := Nat.pow_pos (by omega)
  have := Nat.le_mul_of_pos_right (vl (l.take i)) this
  omega
theorem vl_step (l : List UInt8) (i : Nat) (h : i < l.length) : vl (l.take (i + 1)) = 256 * vl (l.take i) + l[i].toNat := by
  rw [List.take_succ_eq_append_getElem h, vl_snoc]
/-- The number of bytes, if it isn't too great. -/
def bv (l : List UInt8) : Int × Bool := if vl l < 18446744073709551616 then (((vl l : Nat) : Int), true) else (0, false)

theorem or_nat (x c : Nat) (hx : x < 72057594037927936) (hc : c < 256) (A B : Int) (hA : A = ((x * 256 : Nat) : Int)) (hB : B = (c : Int)) : BitVec.toNat (BitVec.ofInt 64 A ||| BitVec.ofInt 64 B) = 256 * x + c := by
  subst hA; subst hB
  have p : 2 ^ 64 = 18446744073709551616 := by decide
  have m1 : BitVec.toNat (BitVec.ofInt 64 ((x * 256 : Nat) : Int)) = x * 256 := by
    rw [BitVec.toNat_ofInt, p]; omega
  have m2 : BitVec.toNat (BitVec.ofInt 64 (c : Int)) = c := by
    rw [BitVec.toNat_ofInt, p]; omega
  rw [BitVec.toNat_or, m1, m2]
  clear m1 m2
  have h3 : x * 256 = x <<< 8 := by rw [Nat.shiftLeft_eq]
  rw [h3, ← Nat.shiftLeft_add_eq_or_of_lt (show c < 2 ^ 8 from hc), ← h3, Nat.mul_comm]
theorem or_eq (x c : Nat) (hx : x < 72057594037927936) (hc : c < 256) :
    (((BitVec.toNat (HOr.hOr (BitVec.ofInt (IntKind.bits IntKind.u64) (IntKind.wrap IntKind.u64 ((x : Int) * ((2 : Int) ^ (Min.min (Int.toNat (8 : Int)) (IntKind.bits IntKind.u64)))))) (BitVec.ofInt (IntKind.bits IntKind.u64) (IntKind.wrap IntKind.u64 (c : Int))))) : Nat) : Int) = ((256 * x + c : Nat) : Int) := by
  have e : ((2 : Int) ^ (Min.min (Int.toNat (8 : Int)) (IntKind.bits IntKind.u64))) = 256 := by decide
  have h1 : IntKind.wrap IntKind.u64 ((x : Int) * ((2 : Int) ^ (Min.min (Int.toNat (8 : Int)) (IntKind.bits IntKind.u64)))) = ((x * 256 : Nat) : Int) := by
    rw [e, wrapu (by omega) (by omega)]; omega
  have h2 : IntKind.wrap IntKind.u64 (c : Int) = (c : Int) := wrapu (by omega) (by omega)
  exact congrArg (fun n : Nat => (n : Int)) (or_nat x c hx hc _ _ h1 h2)
theorem shr56 (x : Nat) : decide (Int.fdiv (x : Int) ((2 : Int) ^ (Min.min (Int.toNat (56 : Int)) (IntKind.bits IntKind.u64))) > 0) = decide (72057594037927936 ≤ x) := by
  have e : ((2 : Int) ^ (Min.min (Int.toNat (56 : Int)) (IntKind.bits IntKind.u64))) = 72057594037927936 := by decide
  rw [e, Int.fdiv_eq_ediv_of_nonneg _ (by omega), decide_eq_decide]
  omega
theorem oct_loop (κ : Nat) (l : List UInt8) (hl : l.length ≤ 1000) : ∀ (d i K : Nat), l.length = i + d → d < K → vl (l.take i) < 18446744073709551616 →
    octet_Value.l0 κ K (((vl (l.take i) : Nat) : Int), nums l, ((l.length : Nat) : Int), (i : Int)) = some (if vl l < 18446744073709551616 then .inl ((vl l : Nat) : Int) else .inr (0, false))
  | d, i, 0, _, h, _ => by omega
  | 0, i, K + 1, hd, _, hx => by
    have hn : l.take i = l := List.take_of_length_le (by omega)
    rw [hn] at hx ⊢
    rw [if_pos hx]
    unfold octet_Value.l0 octet_Value.w0
    rw [show decide ((i : Int) < ((l.length : Nat) : Int)) = false from decide_eq_false (by omega)]
    rfl
  | d + 1, i, K + 1, hd, hk, hx => by
    have hil : i < l.length := by omega
    have hs := vl_step l i hil
    have hle := vl_take_le l (i + 1)
    have hc : l[i].toNat < 256 := l[i].toNat_lt
    have hg : (nums l)[i]? = some ((l[i].toNat : Nat) : Int) := by rw [nums_get, List.getElem?_eq_getElem hil]; rfl
    unfold octet_Value.l0 octet_Value.w0
    rw [show decide ((i : Int) < ((l.length : Nat) : Int)) = true from decide_eq_true (by omega), show decide ((0 : Int) ≤ (i : Int)) = true from decide_eq_true (by omega)]
    simp only [bif_t, Int.toNat_natCast, hg, Option.bind_some]
    rw [shr56]
    by_cases hb : 72057594037927936 ≤ vl (l.take i)
    · rw [decide_eq_true hb, if_neg (by omega)]; rfl
    · rw [decide_eq_false hb, or_eq _ _ (by omega) hc, ← hs, wrapu (by omega) (by omega), wrap_in _ (by omega) (by omega)]
      simp only [bif_f]
      exact oct_loop κ l hl d (i + 1) K (by omega) (by omega) (by omega)
theorem oct_eq (κ : Nat) (l : List UInt8) (hl : l.length ≤ 1000) (hκ : 1001 < κ) : octet_Value κ (nums l) = some (bv l) := by
  have h := oct_loop κ l hl l.length 0 κ (by omega) (by omega) (by simp [vl])
  unfold octet_Value bv
  rw [nums_len]
  have h : octet_Value.l0 κ κ ((0 : Int), nums l, ((l.length : Nat) : Int), (0 : Int)) = _ := h
  rw [h]
  split <;> rfl

theorem bv_lst (u : Nat) (h : u < 18446744073709551616) : bv (lst u) = ((u : Int), true) := by unfold bv; rw [vl_lst, if_pos h]
end Go.Proofs.YthmohmmbhjpbcaaGreatDoor.Va8


namespace Go.Proofs.YthmohmmbhjpbcaaGreatDoor.Va8
open Go Ev Ev.Seat Go.Lib

abbrev bad : Int × Int × ByteArray × Int := (0, 0, B0, 23)
def tld (kd ty mi ma : Int) (ns : List ByteArray) (n : Int) (t : ByteArray) (is : Bool) : Int × Int × ByteArray × Int :=
  bif is && rgt kd ty mi ma ns ty n t then (ty, n, t, 0) else bad
theorem told_eq (κ : Nat) (nm : ByteArray) (kd ty mi ma : Int) (ns : List ByteArray) (mu : Bool) (mo : Int) (ks : List SpecSpec) (k n : Int) (t : ByteArray) (is : Bool) (hl : ns.length < 1000) (hκ : 1000 ≤ κ) :
    value_told κ nm kd ty mi ma ns mu mo ks k n t is = some (tld kd ty mi ma ns n t is) := by
  unfold value_told value_told.v0 tld
  cases is
  · rfl
  · rw [right_eq κ nm kd ty mi ma ns mu mo ks ty n t hl hκ]
    cases rgt kd ty mi ma ns ty n t <;> rfl
theorem ntf : seq BF BT = false := by decide +kernel
/-- The value of a text. -/
def prs (kd ty mi ma : Int) (ns : List ByteArray) (x : ByteArray) : Int × Int × ByteArray × Int :=
  bif kd == 1 then (bif ty == 1 then tld kd ty mi ma ns (uintR x).1 B0 (uintR x).2 else bif ty == 2 then tld kd ty mi ma ns (rateR x).1 B0 (rateR x).2
    else bif ty == 3 then tld kd ty mi ma ns (bif seq x BT then 1 else 0) B0 (seq x BT || seq x BF) else tld kd ty mi ma ns 0 x true) else bad
theorem rgt_no {kd ty mi ma : Int} {ns : List ByteArray} {k n : Int} {t : ByteArray} (h : ¬ (kd = 1 ∧ (ty = 1 ∨ ty = 2 ∨ ty = 3 ∨ ty = 4 ∨ ty = 5 ∨ ty = 6))) : rgt kd ty mi ma ns k n t = false := by
  refine Bool.eq_false_iff.2 fun hr => h ?_
  obtain ⟨h1, _, h2⟩ := rgt_cases hr
  exact ⟨h1, by omega⟩
theorem truth_ix (κ : Nat) (hκ : 1000 ≤ κ) (x : ByteArray) : value_truth_parse κ x = some (0, (bif seq x BT then 1 else 0), B0, (seq x BT || seq x BF)) := by
  unfold value_truth_parse
  have h := index_eq κ x [BF, BT] (by simp) (by simp; omega)
  have h : slices_Index κ [BF, BT] x = some (ixI x [BF, BT]) := h
  rw [h]
  have hi : ixI x [BF, BT] = bif seq x BF then 0 else bif seq x BT then 1 else -1 := by
    unfold ixI ixL ixL ixL
    cases seq x BF
    · cases seq x BT <;> rfl
    · rfl
  rw [hi]
  simp only [Option.bind_some]
  cases h1 : seq x BF
  · cases h2 : seq x BT <;> rfl
  · have h2 : seq x BT = false := by rw [seq_iff.1 h1]; exact ntf
    rw [h2]; rfl
theorem parse_eq (κ : Nat) (nm : ByteArray) (kd ty mi ma : Int) (ns : List ByteArray) (mu : Bool) (mo : Int) (ks : List SpecSpec) (x : ByteArray) (hl : ns.length < 1000) (hκ : 1000 ≤ κ) (hx : x.size ≤ 140737488351232) :
    value_Parse κ nm kd ty mi ma ns mu mo ks x = some (prs kd ty mi ma ns x) := by
  have ht : ∀ k n t is, value_told κ nm kd ty mi ma ns mu mo ks k n t is = some (tld kd ty mi ma ns n t is) := fun k n t is => told_eq κ nm kd ty mi ma ns mu mo ks k n t is hl hκ
  unfold value_Parse prs
  by_cases h : ¬ kd = 1
  · unfold value_of
    rw [show (kd != 1) = true from by simp [h], show (kd == 1) = false from by simp [h]]; rfl
  have h : kd = 1 := Classical.not_not.1 h
  subst h
  by_cases h1 : ty = 1
  · subst h1
    show (value_number_parse_2 κ x).bind (fun x17 => (value_told κ nm 1 1 mi ma ns mu mo ks x17.fst x17.snd.fst x17.snd.snd.fst x17.snd.snd.snd).bind fun x18 => some (x18.fst, x18.snd.fst, x18.snd.snd.fst, x18.snd.snd.snd)) = _
    unfold value_number_parse_2
    rw [my_uint κ x hx]
    simp only [Option.bind_some, ht]; rfl
  by_cases h2 : ty = 2
  · subst h2
    show (value_number_parse κ x).bind (fun x17 => (value_told κ nm 1 2 mi ma ns mu mo ks x17.fst x17.snd.fst x17.snd.snd.fst x17.snd.snd.snd).bind fun x18 => some (x18.fst, x18.snd.fst, x18.snd.snd.fst, x18.snd.snd.snd)) = _
    unfold value_number_parse
    rw [my_rate κ x hx]
    simp only [Option.bind_some, ht]; rfl
  by_cases h3 : ty = 3
  · subst h3
    show (value_truth_parse κ x).bind (fun x17 => (value_told κ nm 1 3 mi ma ns mu mo ks x17.fst x17.snd.fst x17.snd.snd.fst x17.snd.snd.snd).bind fun x18 => some (x18.fst, x18.snd.fst, x18.snd.snd.fst, x18.snd.snd.snd)) = _
    rw [truth_ix κ hκ x]
    simp only [Option.bind_some, ht]; rfl
  by_cases h4 : ty = 4
  · subst h4
    show (value_told κ nm 1 4 mi ma ns mu mo ks 0 0 x true).bind (fun x18 => some (x18.fst, x18.snd.fst, x18.snd.snd.fst, x18.snd.snd.snd)) = _
    rw [ht]; rfl
  by_cases h5 : ty = 5
  · subst h5
    show (value_told κ nm 1 5 mi ma ns mu mo ks 0 0 x true).bind (fun x18 => some (x18.fst, x18.snd.fst, x18.snd.snd.fst, x18.snd.snd.snd)) = _
    rw [ht]; rfl
  by_cases h6 : ty = 6
  · subst h6
    show (value_told κ nm 1 6 mi ma ns mu mo ks 0 0 x true).bind (fun x18 => some (x18.fst, x18.snd.fst, x18.snd.snd.fst, x18.snd.snd.snd)) = _
    rw [ht]; rfl
  have e1 : (ty == 1) = false := by simp [h1]
  have e2 : (ty == 2) = false := by simp [h2]
  have e3 : (ty == 3) = false := by simp [h3]
  have e4 : (ty == 4) = false := by simp [h4]
  have e5 : (ty == 5) = false := by simp [h5]
  have e6 : (ty == 6) = false := by simp [h6]
  unfold value_of value_of.v0 tld
  rw [e1, e2, e3, e4, e5, e6, show rgt 1 ty mi ma ns ty 0 x = false from rgt_no (by omega)]
  rfl
end Go.Proofs.YthmohmmbhjpbcaaGreatDoor.Va8


namespace Go.Proofs.YthmohmmbhjpbcaaGreatDoor.Va8
open Go Ev Ev.Seat Go.Lib

theorem equal_loop (κ : Nat) (a b : List UInt8) (hab : a.length = b.length) (hl : a.length ≤ 1000) : ∀ (d i K : Nat), a.length = i + d → d < K →
    slices_Equal.l0 κ K (nums a, nums b, ((a.length : Nat) : Int), (i : Int)) = some (if a.drop i = b.drop i then .inl () else .inr false)
  | d, i, 0, _, h => by omega
  | 0, i, K + 1, hd, _ => by
    rw [List.drop_eq_nil_of_le (by omega), List.drop_eq_nil_of_le (by omega), if_pos rfl]
    unfold slices_Equal.l0 slices_Equal.w0
    rw [show decide ((i : Int) < ((a.length : Nat) : Int)) = false from decide_eq_false (by omega)]
    rfl
  | d + 1, i, K + 1, hd, hk => by
    have hia : i < a.length := by omega
    have hib : i < b.length := by omega
    unfold slices_Equal.l0 slices_Equal.w0
    rw [show decide ((i : Int) < ((a.length : Nat) : Int)) = true from decide_eq_true (by omega), show decide ((0 : Int) ≤ (i : Int)) = true from decide_eq_true (by omega)]
    simp only [bif_t, Int.toNat_natCast, nums_get, List.getElem?_eq_getElem hia, List.getElem?_eq_getElem hib, Option.map_some, Option.bind_some]
    rw [List.drop_eq_getElem_cons hia, List.drop_eq_getElem_cons hib]
    by_cases h : a[i] = b[i]
    · rw [h, show (((b[i].toNat : Nat) : Int) != ((b[i].toNat : Nat) : Int)) = false from by simp]
      simp only [bif_f]
      rw [wrap_in _ (by omega) (by omega), show ((i : Int) + 1) = ((i + 1 : Nat) : Int) from by omega, equal_loop κ a b hab hl d (i + 1) K (by omega) (by omega)]
      by_cases ht : a.drop (i + 1) = b.drop (i + 1)
      · rw [if_pos ht, if_pos (by rw [ht])]
      · rw [if_neg ht, if_neg (fun e => ht (List.cons.inj e).2)]
    · have : (((a[i].toNat : Nat) : Int) != ((b[i].toNat : Nat) : Int)) = true := by
        simp only [bne_iff_ne, ne_eq]
        intro e
        exact h (UInt8.toNat_inj.1 (by omega))
      rw [this, if_neg (fun e => h (List.cons.inj e).1)]
      rfl
theorem equal_eq (κ : Nat) (hκ : 1001 < κ) (a b : List UInt8) (ha : a.length ≤ 1000) : slices_Equal κ (nums a) (nums b) = some (decide (a = b)) := by
  unfold slices_Equal
  rw [nums_len, nums_len]
  by_cases h : a.length = b.length
  · rw [show (((a.length : Nat) : Int) != ((b.length : Nat) : Int)) = false from by simp [h]]
    have he := equal_loop κ a b h ha a.length 0 κ (by omega) (by omega)
    have he : slices_Equal.l0 κ κ (nums a, nums b, ((a.length : Nat) : Int), (0 : Int)) = some (if a = b then .inl () else .inr false) := he
    rw [he]
    by_cases e : a = b
    · rw [if_pos e, decide_eq_true e]; rfl
    · rw [if_neg e, decide_eq_false e]; rfl
  · rw [show (((a.length : Nat) : Int) != ((b.length : Nat) : Int)) = true from by simp only [bne_iff_ne, ne_eq]; omega, decide_eq_false (fun e => h (by rw [e]))]
    rfl

/-- The value that bytes may be. -/
def cand (ty : Int) (ns : List ByteArray) (l : List UInt8) : Int × ByteArray :=
  bif ty == 1 || (ty == 2 || ty == 3) then ((bv l).1, B0) else bif ty == 4 then (0, ((ns[(bv l).1.toNat]?).getD B0)) else (0, ⟨l.toArray⟩)
/-- The value of bytes. -/
def tk (kd ty mi ma : Int) (ns : List ByteArray) (l : List UInt8) : Int × Int × ByteArray × Int :=
  bif rgt kd ty mi ma ns ty (cand ty ns l).1 (cand ty ns l).2 && decide (dat ty (cand ty ns l).1 (cand ty ns l).2 ns = l) then (ty, (cand ty ns l).1, (cand ty ns l).2, 0) else bad
theorem tk_kd {kd ty mi ma : Int} {ns : List ByteArray} {l : List UInt8} (h : ¬ (kd = 1 ∧ (ty = 1 ∨ ty = 2 ∨ ty = 3 ∨ ty = 4 ∨ ty = 5 ∨ ty = 6))) : tk kd ty mi ma ns l = bad := by
  unfold tk; rw [rgt_no h]; rfl
theorem bv_cases (l : List UInt8) : (vl l < 18446744073709551616 ∧ bv l = (((vl l : Nat) : Int), true)) ∨ (¬ vl l < 18446744073709551616 ∧ bv l = (0, false)) := by
  unfold bv
  by_cases h : vl l < 18446744073709551616
  · exact .inl ⟨h, by rw [if_pos h]⟩
  · exact .inr ⟨h, by rw [if_neg h]⟩
/-- What a number's bytes come to. -/
theorem take_num (ty : Int) (ht : ty = 1 ∨ ty = 2 ∨ ty = 3) (kd mi ma : Int) (ns : List ByteArray) (l : List UInt8) :
    (bif (tld kd ty mi ma ns (bv l).1 B0 (bv l).2).2.2.2 == 0 then (bif decide (dat ty (bv l).1 B0 ns = l) then tld kd ty mi ma ns (bv l).1 B0 (bv l).2 else bad) else tld kd ty mi ma ns (bv l).1 B0 (bv l).2) = tk kd ty mi ma ns l := by
  have hc : cand ty ns l = ((bv l).1, B0) := by
    unfold cand
    rcases ht with rfl | rfl | rfl <;> rfl
  unfold tk
  rw [hc]
  simp only
  rcases bv_cases l with ⟨hv, hb⟩ | ⟨hv, hb⟩
  · rw [hb]
    unfold tld
    cases rgt kd ty mi ma ns ty ((vl l : Nat) : Int) B0
    · rfl
    · cases decide (dat ty ((vl l : Nat) : Int) B0 ns = l) <;> rfl
  · rw [hb]
    have hd : decide (dat ty 0 B0 ns = l) = false := by
      refine decide_eq_false fun h => hv ?_
      rw [← h]
      rcases ht with rfl | rfl | rfl
      · show vl (lst 0) < _
        rw [vl_lst]; omega
      · show vl (lst 0) < _
        rw [vl_lst]; omega
      · show vl [UInt8.ofNat 0] < _
        decide +kernel
    rw [hd, Bool.and_false]
    rfl
theorem bv_range (l : List UInt8) : 0 ≤ (bv l).1 ∧ (bv l).1 < 18446744073709551616 := by
  rcases bv_cases l with ⟨hv, hb⟩ | ⟨hv, hb⟩
  · rw [hb]; exact ⟨by simp only; omega, by simp only; omega⟩
  · rw [hb]; exact ⟨by simp only; omega, by simp only; omega⟩
theorem lst_le (u : Nat) (h : u < 18446744073709551616) : (lst u).length ≤ 1000 := by have := lst_len h; omega
theorem take_eq (κ : Nat) (hκ : 2000 ≤ κ) (nm : ByteArray) (kd ty mi ma : Int) (ns : List ByteArray) (mu : Bool) (mo : Int) (ks : List SpecSpec) (l : List UInt8) (hn : ns.length ≤ 100) (hnn : ∀ x ∈ ns, seq x B0 = false) (hd : ∀ (i : Nat) (x : ByteArray), ns[i]? = some x → ixI x ns = (i : Int)) (hl : l.length ≤ 1000) :
    value_Take κ nm kd ty mi ma ns mu mo ks (nums l) = some (tk kd ty mi ma ns l) := by
  have ht : ∀ k n t is, value_told κ nm kd ty mi ma ns mu mo ks k n t is = some (tld kd ty mi ma ns n t is) := fun k n t is => told_eq κ nm kd ty mi ma ns mu mo ks k n t is (by omega) (by omega)
  unfold value_Take
  by_cases h : ¬ kd = 1
  · unfold value_of
    rw [show (kd != 1) = true from by simp [h], tk_kd (by omega)]; rfl
  have h : kd = 1 := Classical.not_not.1 h
  subst h
  -- the end of the way of all kinds
  have fin : ∀ (w : Int × Int × ByteArray × Int) (o : Option (Int × Bool × Int × Int × ByteArray × Int × Int × ByteArray)) (d : List UInt8) (r : Int × Int × ByteArray × Int),
      o = (bif w.2.2.2 == 0 then some (w.2.2.2, !decide (d = l), 0, 0, B0, w.1, w.2.1, w.2.2.1) else some (w.2.2.2, false, 0, 0, B0, w.1, w.2.1, w.2.2.1)) →
      (bif w.2.2.2 == 0 then (bif decide (d = l) then w else bad) else w) = r →
      (o.bind fun x5 => bif x5.snd.fst then some bad else some (x5.snd.snd.snd.snd.snd.fst, x5.snd.snd.snd.snd.snd.snd.fst, x5.snd.snd.snd.snd.snd.snd.snd, x5.fst)) = some r := by
    intro w o d r ho hr
    rw [ho, ← hr]
    cases w.2.2.2 == 0
    · rfl
    · cases decide (d = l) <;> rfl
  by_cases h1 : ty = 1
  · subst h1
    show (value_number_take_2 κ nm 1 1 mi ma ns mu mo ks (nums l)).bind (fun x22 => (value_told κ nm 1 1 mi ma ns mu mo ks x22.fst x22.snd.fst x22.snd.snd.fst x22.snd.snd.snd).bind fun x23 =>
      (value_Take.v4 κ (nums l) x23.snd.snd.snd nm 1 1 mi ma ns mu mo ks 0 0 B0 x23.fst x23.snd.fst x23.snd.snd.fst).bind fun x5 => bif x5.snd.fst then some bad else some (x5.snd.snd.snd.snd.snd.fst, x5.snd.snd.snd.snd.snd.snd.fst, x5.snd.snd.snd.snd.snd.snd.snd, x5.fst)) = _
    unfold value_number_take_2
    rw [oct_eq κ l hl (by omega)]
    simp only [Option.bind_some, ht]
    refine fin (tld 1 1 mi ma ns (bv l).1 B0 (bv l).2) _ (dat 1 (bv l).1 B0 ns) _ ?_ (take_num 1 (by omega) 1 mi ma ns l)
    unfold value_Take.v4 value_number_data_2 tld
    cases hc : (bv l).2 && rgt 1 1 mi ma ns 1 (bv l).1 B0
    · rfl
    · obtain ⟨u, hu⟩ := Int.eq_ofNat_of_zero_le (bv_range l).1
      have hu2 := (bv_range l).2
      rw [hu] at hu2 ⊢
      simp only [bif_t]
      rw [least_eq κ (by omega) u (by omega)]
      simp only [Option.bind_some]
      rw [equal_eq κ (by omega) _ l (lst_le u (by omega))]
      rfl
  by_cases h2 : ty = 2
  · subst h2
    show (value_number_take κ nm 1 2 mi ma ns mu mo ks (nums l)).bind (fun x22 => (value_told κ nm 1 2 mi ma ns mu mo ks x22.fst x22.snd.fst x22.snd.snd.fst x22.snd.snd.snd).bind fun x23 =>
      (value_Take.v3 κ (nums l) x23.snd.snd.snd nm 1 2 mi ma ns mu mo ks 0 0 B0 x23.fst x23.snd.fst x23.snd.snd.fst).bind fun x5 => bif x5.snd.fst then some bad else some (x5.snd.snd.snd.snd.snd.fst, x5.snd.snd.snd.snd.snd.snd.fst, x5.snd.snd.snd.snd.snd.snd.snd, x5.fst)) = _
    unfold value_number_take
    rw [oct_eq κ l hl (by omega)]
    simp only [Option.bind_some, ht]
    refine fin (tld 1 2 mi ma ns (bv l).1 B0 (bv l).2) _ (dat 2 (bv l).1 B0 ns) _ ?_ (take_num 2 (by omega) 1 mi ma ns l)
    unfold value_Take.v3 value_number_data tld
    cases hc : (bv l).2 && rgt 1 2 mi ma ns 2 (bv l).1 B0
    · rfl
    · obtain ⟨u, hu⟩ := Int.eq_ofNat_of_zero_le (bv_range l).1
      have hu2 := (bv_range l).2
      rw [hu] at hu2 ⊢
      simp only [bif_t]
      rw [least_eq κ (by omega) u (by omega)]
      simp only [Option.bind_some]
      rw [equal_eq κ (by omega) _ l (lst_le u (by omega))]
      rfl
  by_cases h3 : ty = 3
  · subst h3
    show (value_truth_take κ nm 1 3 mi ma ns mu mo ks (nums l)).bind (fun x22 => (value_told κ nm 1 3 mi ma ns mu mo ks x22.fst x22.snd.fst x22.snd.snd.fst x22.snd.snd.snd).bind fun x23 =>
      (value_Take.v2 κ (nums l) x23.snd.snd.snd nm 1 3 mi ma ns mu mo ks 0 0 B0 x23.fst x23.snd.fst x23.snd.snd.fst).bind fun x5 => bif x5.snd.fst then some bad else some (x5.snd.snd.snd.snd.snd.fst, x5.snd.snd.snd.snd.snd.snd.fst, x5.snd.snd.snd.snd.snd.snd.snd, x5.fst)) = _
    unfold value_truth_take
    rw [oct_eq κ l hl (by omega)]
    simp only [Option.bind_some, ht]
    refine fin (tld 1 3 mi ma ns (bv l).1 B0 (bv l).2) _ (dat 3 (bv l).1 B0 ns) _ ?_ (take_num 3 (by omega) 1 mi ma ns l)
    unfold value_Take.v2 tld
    cases hc : (bv l).2 && rgt 1 3 mi ma ns 3 (bv l).1 B0
    · rfl
    · obtain ⟨u, hu⟩ := Int.eq_ofNat_of_zero_le (bv_range l).1
      have hr := (Bool.and_eq_true _ _ ▸ hc : (bv l).2 = true ∧ rgt 1 3 mi ma ns 3 (bv l).1 B0 = true).2
      have h1 : u ≤ 1 := by
        obtain ⟨_, _, h | ⟨_, h, _⟩ | h | h⟩ := rgt_cases hr <;> omega
      rw [hu]
      simp only [bif_t]
      have hw : (IntKind.wrap IntKind.u8 (u : Int)) :: ([] : List Int) = nums [UInt8.ofNat u] := by
        rw [wrap8 (by omega) (by omega)]
        unfold nums
        simp only [List.map_cons, List.map_nil]
        rw [byte_nat (by omega)]
      have he := equal_eq κ (by omega) [UInt8.ofNat u] l (by simp)
      rw [← hw] at he
      have hbb : ((0 : Int) == 0) = true := rfl
      simp only [hbb, bif_t, he, Option.bind_some]
      rfl
  by_cases h4 : ty = 4
  · subst h4
    show (value_choice_take κ nm 1 4 mi ma ns mu mo ks (nums l)).bind (fun x22 => (value_told κ nm 1 4 mi ma ns mu mo ks x22.fst x22.snd.fst x22.snd.snd.fst x22.snd.snd.snd).bind fun x23 =>
      (value_Take.v1 κ (nums l) x23.snd.snd.snd nm 1 4 mi ma ns mu mo ks 0 0 B0 x23.fst x23.snd.fst x23.snd.snd.fst).bind fun x5 => bif x5.snd.fst then some bad else some (x5.snd.snd.snd.snd.snd.fst, x5.snd.snd.snd.snd.snd.snd.fst, x5.snd.snd.snd.snd.snd.snd.snd, x5.fst)) = _
    -- what the bytes name
    have hch : ∃ t is, value_choice_take κ nm 1 4 mi ma ns mu mo ks (nums l) = some (0, 0, t, is) ∧
        ((is = true ∧ ∃ c : UInt8, l = [c] ∧ ns[c.toNat]? = some t) ∨ (is = false ∧ ∀ c : UInt8, l = [c] → ns.length ≤ c.toNat)) := by
      unfold value_choice_take value_choice_take.v0
      rw [nums_len]
      by_cases hl1 : l.length = 1
      · obtain ⟨c, rfl⟩ := List.length_eq_one_iff.1 hl1
        have hc := c.toNat_lt
        have hg : (nums [c])[Int.toNat 0]? = some ((c.toNat : Nat) : Int) := rfl
        rw [show (((([c] : List UInt8).length : Nat) : Int) != 1) = false from rfl, hg]
        simp only [bif_f, Option.bind_some]
        rw [wrap_in _ (by omega) (by omega)]
        by_cases hlt : c.toNat < ns.length
        · rw [show decide ((((c.toNat : Nat)) : Int) ≥ ((ns.length : Nat) : Int)) = false from decide_eq_false (by omega)]
          simp only [bif_f, hg, Option.bind_some, show decide ((0 : Int) ≤ ((c.toNat : Nat) : Int)) = true from decide_eq_true (by omega), bif_t, Int.toNat_natCast, List.getElem?_eq_getElem hlt]
          exact ⟨_, _, rfl, .inl ⟨rfl, c, rfl, List.getElem?_eq_getElem hlt⟩⟩
        · rw [show decide ((((c.toNat : Nat)) : Int) ≥ ((ns.length : Nat) : Int)) = true from decide_eq_true (by omega)]
          exact ⟨_, _, rfl, .inr ⟨rfl, fun c' h => by cases h; omega⟩⟩
      · rw [show (((l.length : Nat) : Int) != 1) = true from by simp only [bne_iff_ne, ne_eq]; omega]
        exact ⟨_, _, rfl, .inr ⟨rfl, fun c h => absurd (by rw [h]; rfl) hl1⟩⟩
    obtain ⟨t, is, hv, hcs⟩ := hch
    rw [hv]
    simp only [Option.bind_some, ht]
    rcases hcs with ⟨rfl, c, rfl, hg⟩ | ⟨rfl, hno⟩
    · have hix := hd c.toNat t hg
      have hb : bv [c] = (((c.toNat : Nat) : Int), true) := by
        have hc := c.toNat_lt
        have : vl [c] = c.toNat := by simp [vl]
        unfold bv
        rw [this, if_pos (by omega)]
      have hcand : cand 4 ns [c] = (0, t) := by
        unfold cand
        rw [hb]
        show (0, (ns[Int.toNat ((c.toNat : Nat) : Int)]?).getD B0) = (0, t)
        rw [Int.toNat_natCast, hg]; rfl
      have hr : rgt 1 4 mi ma ns 4 0 t = true := by
        unfold rgt
        rw [hix]
        simp
      have hdat : dat 4 0 t ns = [c] := by
        unfold dat
        rw [hix]
        show [UInt8.ofNat (Int.toNat ((c.toNat : Nat) : Int))] = [c]
        rw [Int.toNat_natCast, of_nat]
      refine fin (tld 1 4 mi ma ns 0 t true) _ (dat 4 0 t ns) _ ?_ ?_
      · unfold value_Take.v1 tld
        rw [hr]
        simp only [Bool.and_self, bif_t, show ((0 : Int) == 0) = true from rfl]
        rw [choice_bytes κ nm 1 4 mi ma ns mu mo ks 4 0 t hn (by omega) (by omega)]
        simp only [Option.bind_some]
        rw [equal_eq κ (by omega) _ _ (by simp)]
        rfl
      · unfold tk tld
        rw [hcand, hr, hdat]
        simp
    · refine fin (tld 1 4 mi ma ns 0 t false) _ [] _ ?_ ?_
      · unfold value_Take.v1 tld; rfl
      · unfold tk
        have hf : (rgt 1 4 mi ma ns 4 (cand 4 ns l).1 (cand 4 ns l).2 && decide (dat 4 (cand 4 ns l).1 (cand 4 ns l).2 ns = l)) = false := by
          refine Bool.eq_false_iff.2 fun hh => ?_
          simp only [Bool.and_eq_true, decide_eq_true_eq] at hh
          obtain ⟨hr, hdd⟩ := hh
          obtain ⟨_, _, h | ⟨h, _⟩ | ⟨_, hx, _⟩ | ⟨h, _⟩⟩ := rgt_cases hr
          · omega
          · omega
          · have hlt := (ixI_lt (cand 4 ns l).2 ns).1
            have e : dat 4 (cand 4 ns l).1 (cand 4 ns l).2 ns = [UInt8.ofNat (ixI (cand 4 ns l).2 ns).toNat] := rfl
            rw [e] at hdd
            have hge := hno _ hdd.symm
            rw [byte_nat (by omega)] at hge
            omega
          · omega
        rw [hf]; rfl
  have nam : (ty = 5 ∨ ty = 6) → (value_told κ nm 1 ty mi ma ns mu mo ks 0 0 (⟨l.toArray⟩ : ByteArray) true).bind (fun x23 =>
      (value_Take.v0 κ (nums l) x23.snd.snd.snd nm 1 ty mi ma ns mu mo ks 0 0 B0 x23.fst x23.snd.fst x23.snd.snd.fst).bind fun x5 => bif x5.snd.fst then some bad else some (x5.snd.snd.snd.snd.snd.fst, x5.snd.snd.snd.snd.snd.snd.fst, x5.snd.snd.snd.snd.snd.snd.snd, x5.fst)) = some (tk 1 ty mi ma ns l) := by
    intro h56
    rw [ht]
    simp only [Option.bind_some]
    have hcand : cand ty ns l = (0, ⟨l.toArray⟩) := by
      unfold cand
      rcases h56 with rfl | rfl <;> rfl
    have hdat : dat ty 0 ⟨l.toArray⟩ ns = l := by
      unfold dat
      rcases h56 with rfl | rfl <;> exact data_of l
    refine fin (tld 1 ty mi ma ns 0 ⟨l.toArray⟩ true) _ l _ ?_ ?_
    · unfold value_Take.v0 tld
      cases rgt 1 ty mi ma ns ty 0 ⟨l.toArray⟩
      · rfl
      · simp only [Bool.and_self, bif_t, show ((0 : Int) == 0) = true from rfl]
        rw [name_bytes κ nm 1 ty mi ma ns mu mo ks ty 0 ⟨l.toArray⟩ (by rw [sized]; exact hl), data_of]
        simp only [Option.bind_some]
        rw [equal_eq κ (by omega) l l hl]
        simp
    · unfold tk tld
      rw [hcand, hdat]
      cases rgt 1 ty mi ma ns ty 0 ⟨l.toArray⟩ <;> simp
  by_cases h5 : ty = 5
  · subst h5
    have h := nam (.inl rfl)
    rw [← h]
    unfold value_of
    rw [show List.map (fun x => (UInt8.ofNat (Int.toNat x))) (nums l) = l from back l]
    rfl
  by_cases h6 : ty = 6
  · subst h6
    have h := nam (.inr rfl)
    rw [← h]
    unfold value_of
    rw [show List.map (fun x => (UInt8.ofNat (Int.toNat x))) (nums l) = l from back l]
    rfl
  have e1 : (ty == 1) = false := by simp [h1]
  have e2 : (ty == 2) = false := by simp [h2]
  have e3 : (ty == 3) = false := by simp [h3]
  have e4 : (ty == 4) = false := by simp [h4]
  have e5 : (ty == 5) = false := by simp [h5]
  have e6 : (ty == 6) = false := by simp [h6]
  unfold value_of value_of.v0
  rw [e1, e2, e3, e4, e5, e6, tk_kd (by omega)]
  rfl
end Go.Proofs.YthmohmmbhjpbcaaGreatDoor.Va8


namespace Go.Proofs.YthmohmmbhjpbcaaGreatDoor.Va8
open Go Ev Ev.Seat Go.Lib

end Go.Proofs.YthmohmmbhjpbcaaGreatDoor.Va8


namespace Go.Proofs.YthmohmmbhjpbcaaGreatDoor.Va8
open Go Ev Ev.Seat Go.Lib

theorem toS_all (s : SpecSpec) : (toS s).type_ = s.type_ ∧ (toS s).min = s.min ∧ (toS s).max = s.max ∧ (toS s).names = s.names ∧ (toS s).kind = s.kind := by cases s; exact ⟨rfl, rfl, rfl, rfl, rfl⟩
theorem ixL_at {x : ByteArray} : ∀ {l : List ByteArray} {i j : Nat}, distinctB l = true → l[i]? = some x → ixL x l j = some (j + i)
  | [], i, j, _, h => by simp at h
  | y :: l, 0, j, _, h => by
    have : y = x := by simpa using h
    unfold ixL
    rw [this, seq_self]; rfl
  | y :: l, i + 1, j, hd, h => by
    unfold distinctB at hd
    rw [Bool.and_eq_true] at hd
    have hx : x ∈ l := List.mem_of_getElem? (by simpa using h)
    have hne := List.all_eq_true.1 hd.1 x hx
    have : seq x y = false := by
      rw [seq_comm]
      simpa using hne
    unfold ixL
    rw [this]
    have ih := ixL_at (x := x) (l := l) (i := i) (j := j + 1) hd.2 (by simpa using h)
    simp only [bif_f]
    rw [ih]
    congr 1; omega
theorem ixI_at {x : ByteArray} {ns : List ByteArray} (hd : distinctB ns = true) {i : Nat} (h : ns[i]? = some x) : ixI x ns = (i : Int) := by
  unfold ixI
  rw [ixL_at hd h, Nat.zero_add]
theorem txt_size {kd ty mi ma : Int} {ns : List ByteArray} {k n : Int} {t : ByteArray} (h0 : 0 ≤ n) (h1 : n < 18446744073709551616) (hs : t.size ≤ 200) : (txt ty n t).size ≤ 1000 := by
  obtain ⟨u, rfl⟩ := Int.eq_ofNat_of_zero_le h0
  unfold txt
  cases ty == 1
  · cases ty == 2
    · cases ty == 3
      · show t.size ≤ 1000; omega
      · show (bif ((u : Int) == 1) then BT else BF).size ≤ 1000
        cases (u : Int) == 1
        · show (5 : Nat) ≤ 1000; omega
        · show (4 : Nat) ≤ 1000; omega
    · show (showRateV u).size ≤ 1000
      have := show_size u (by omega); omega
  · show (⟨(decDigits u).toArray⟩ : ByteArray).size ≤ 1000
    have := dec_sz u (by omega); omega
theorem parse_back {kd ty mi ma : Int} {ns : List ByteArray} {k n : Int} {t : ByteArray} (h0 : 0 ≤ n) (h1 : n < 18446744073709551616) (hr : rgt kd ty mi ma ns k n t = true) : prs kd ty mi ma ns (txt ty n t) = (k, n, t, 0) := by
  obtain ⟨u, rfl⟩ := Int.eq_ofNat_of_zero_le h0
  obtain ⟨rfl, rfl, h⟩ := rgt_cases hr
  rcases h with ⟨ht | ht, _, _, e⟩ | ⟨ht, hn, e⟩ | ⟨ht, hx, hz⟩ | ⟨ht | ht, hi, hz⟩
  · subst ht; subst e
    show tld 1 1 mi ma ns (uintR ⟨(decDigits u).toArray⟩).1 B0 (uintR ⟨(decDigits u).toArray⟩).2 = _
    rw [uintR_some (uintV_dec u (by omega))]
    unfold tld
    simp only
    rw [hr]; rfl
  · subst ht; subst e
    show tld 1 2 mi ma ns (rateR (showRateV u)).1 B0 (rateR (showRateV u)).2 = _
    rw [rateR_some (show_rate u (by omega))]
    unfold tld
    simp only
    rw [hr]; rfl
  · subst ht; subst e
    have hu : u = 0 ∨ u = 1 := by omega
    rcases hu with rfl | rfl
    · show tld 1 3 mi ma ns (bif seq BF BT then 1 else 0) B0 (seq BF BT || seq BF BF) = _
      rw [ntf, seq_self]
      unfold tld
      have hr : rgt 1 3 mi ma ns 3 0 B0 = true := hr
      simp only [bif_f, Bool.false_or, Bool.true_and]
      rw [hr]; rfl
    · show tld 1 3 mi ma ns (bif seq BT BT then 1 else 0) B0 (seq BT BT || seq BT BF) = _
      rw [seq_self]
      unfold tld
      have hr : rgt 1 3 mi ma ns 3 1 B0 = true := hr
      simp only [bif_t, Bool.true_or, Bool.true_and]
      rw [hr]; rfl
  · subst ht
    have hu : (u : Int) = 0 := by omega
    rw [hu] at hr ⊢
    show tld 1 4 mi ma ns 0 t true = _
    unfold tld; rw [hr]; rfl
  · subst ht
    rw [hz] at hr ⊢
    show tld 1 5 mi ma ns 0 t true = _
    unfold tld; rw [hr]; rfl
  · subst ht
    rw [hz] at hr ⊢
    show tld 1 6 mi ma ns 0 t true = _
    unfold tld; rw [hr]; rfl
theorem bv_one (q : Nat) (h : q < 256) : bv [UInt8.ofNat q] = ((q : Int), true) := by
  have : vl [UInt8.ofNat q] = q := by
    show 256 * 0 + (UInt8.ofNat q).toNat = q
    rw [byte_nat h]; omega
  unfold bv
  rw [this, if_pos (by omega)]
theorem cand_dat {kd ty mi ma : Int} {ns : List ByteArray} {k n : Int} {t : ByteArray} (hn : ns.length ≤ 100) (h0 : 0 ≤ n) (h1 : n < 18446744073709551616) (hr : rgt kd ty mi ma ns k n t = true) : cand ty ns (dat ty n t ns) = (n, t) := by
  obtain ⟨u, rfl⟩ := Int.eq_ofNat_of_zero_le h0
  obtain ⟨rfl, rfl, h⟩ := rgt_cases hr
  rcases h with ⟨ht | ht, _, _, e⟩ | ⟨ht, hn, e⟩ | ⟨ht, hx, hz⟩ | ⟨ht | ht, hi, hz⟩
  · subst ht; subst e
    show ((bv (lst u)).1, B0) = _
    rw [bv_lst u (by omega)]
  · subst ht; subst e
    show ((bv (lst u)).1, B0) = _
    rw [bv_lst u (by omega)]
  · subst ht; subst e
    show ((bv [UInt8.ofNat u]).1, B0) = _
    rw [bv_one u (by omega)]
  · subst ht
    obtain ⟨j, hj, gj⟩ := ixI_mem hx
    have hlt := (List.getElem?_eq_some_iff.1 gj).1
    show (0, (ns[(bv [UInt8.ofNat (ixI t ns).toNat]).1.toNat]?).getD B0) = ((u : Int), t)
    rw [hj, Int.toNat_natCast, bv_one j (by omega)]
    simp only [Int.toNat_natCast]
    rw [gj, hz]; rfl
  · subst ht
    show (0, (⟨t.data.toList.toArray⟩ : ByteArray)) = _
    rw [mk_data, hz]
  · subst ht
    show (0, (⟨t.data.toList.toArray⟩ : ByteArray)) = _
    rw [mk_data, hz]
theorem take_back {kd ty mi ma : Int} {ns : List ByteArray} {k n : Int} {t : ByteArray} (hn : ns.length ≤ 100) (h0 : 0 ≤ n) (h1 : n < 18446744073709551616) (hr : rgt kd ty mi ma ns k n t = true) : tk kd ty mi ma ns (dat ty n t ns) = (k, n, t, 0) := by
  unfold tk
  rw [cand_dat hn h0 h1 hr]
  have hk := (rgt_cases hr).2.1
  subst hk
  simp only
  rw [hr]
  simp
theorem dat_len {ty n : Int} {t : ByteArray} {ns : List ByteArray} (h0 : 0 ≤ n) (h1 : n < 18446744073709551616) (hs : t.size ≤ 200) : (dat ty n t ns).length ≤ 1000 := by
  obtain ⟨u, rfl⟩ := Int.eq_ofNat_of_zero_le h0
  unfold dat
  cases ty == 1 || ty == 2
  · cases ty == 3
    · cases ty == 4
      · show t.data.toList.length ≤ 1000
        have : t.data.toList.length = t.size := by rw [Array.length_toList]; rfl
        omega
      · show (1 : Nat) ≤ 1000; omega
    · show (1 : Nat) ≤ 1000; omega
  · show (lst u).length ≤ 1000
    exact lst_le u (by omega)
theorem ValueShows_eq (κ : Nat) (hκ : 2000 ≤ κ) (v : Int) (w : List ByteArray) (k n : Int) (t : ByteArray) (h0 : 0 ≤ n) (h1 : n < 18446744073709551616) : l08_ValueShows κ v w k n t = some true := by
  obtain ⟨q, rfl⟩ : ∃ q, κ = q + 2000 := ⟨κ - 2000, by omega⟩
  obtain ⟨s, hs, is, hb⟩ := both_eq (q + 2000) (by omega) v w
  have ok := leaf_ok hs
  obtain ⟨s1, s2, s3, s4, s5⟩ := toS_all s
  have hf := ok.few
  unfold l08_ValueShows
  rw [awake_at, hb]
  simp only [Option.bind_some, Bool.not_true, bif_f]
  unfold l08_ValueShows.v0
  cases is
  · rfl
  simp only [Bool.not_true, bif_f, Option.bind_some]
  by_cases hz : ((t.size : Nat) : Int) > 200
  · rw [decide_eq_true hz]; rfl
  rw [decide_eq_false hz]
  have hts : t.size ≤ 200 := by omega
  simp only [bif_f]
  rw [text_eq _ _ _ _ _ _ _ _ _ _ k n t (by omega) (by omega) h0 h1, data_eq _ _ _ _ _ _ _ _ _ _ k n t (by omega) (by omega) h0 h1, right_eq _ _ _ _ _ _ _ _ _ _ k n t (by omega) (by omega)]
  simp only [Option.bind_some]
  unfold l08_ValueShows.v2
  rw [s1, s2, s3, s4, s5]
  rw [refRight_eq _ (by omega) _ _ _ _ _ _ _ _ _ k n t (by omega) (by omega), refText_eq _ (by omega) _ _ _ _ _ _ _ _ _ k n t (by omega) (by omega) h0 h1, refData_eq _ (by omega) _ _ _ _ _ _ _ _ _ k n t (by omega) (by omega) h0 h1]
  simp only [Option.bind_some, BEq.rfl, Bool.not_true, bif_f, seq_self, back]
  have hps : (bif rgt s.kind s.type_ s.min s.max s.names k n t then txt s.type_ n t else B0).size ≤ 140737488351232 := by
    cases rgt s.kind s.type_ s.min s.max s.names k n t
    · show (0 : Nat) ≤ _; omega
    · have := txt_size (kd := 1) (ty := s.type_) (mi := 0) (ma := 0) (ns := []) (k := 0) (n := n) (t := t) h0 h1 hts
      show (txt s.type_ n t).size ≤ _; omega
  have hdl : (bif rgt s.kind s.type_ s.min s.max s.names k n t then dat s.type_ n t s.names else []).length ≤ 1000 := by
    cases rgt s.kind s.type_ s.min s.max s.names k n t
    · show (0 : Nat) ≤ _; omega
    · exact dat_len h0 h1 hts
  rw [parse_eq _ _ _ _ _ _ _ _ _ _ _ (by omega) (by omega) hps, take_eq _ (by omega) _ _ _ _ _ _ _ _ _ _ (by omega) (fun x hx => (ok.nice x hx).1) (fun i x hx => ixI_at ok.dist hx) hdl]
  simp only [Option.bind_some]
  unfold l08_ValueShows.v4
  cases hr : rgt s.kind s.type_ s.min s.max s.names k n t
  · rfl
  · simp only [bif_t]
    rw [parse_back h0 h1 hr, take_back hf h0 h1 hr]
    simp [seq_self]
theorem ValueShows_row (x : Tollbarlaw08Place) {Q : Prop} (w : Q) (v : ApiVal) (wv : ((Lit.int .i64 v.kind).wf = true) ∧ ((Lit.int .u64 v.num).wf = true) ∧ (v.text.size ≤ 140737488351232)) :
    l08_ValueShows 2000 x.version x.names v.kind v.num v.text = some true :=
  ValueShows_eq 2000 (Nat.le_refl _) x.version x.names v.kind v.num v.text (u64_of wv.2.1).1 (u64_of wv.2.1).2
end Go.Proofs.YthmohmmbhjpbcaaGreatDoor.Va8

