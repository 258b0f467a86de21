import Derived.Test.YthmohmmbhjpbcaaGreatDoorEvPlain
set_option linter.unusedVariables false
set_option linter.unusedSimpArgs false
set_option maxHeartbeats 1000000
namespace Go.Proofs.YthmohmmbhjpbcaaGreatDoor.Va8
open Go Ev Ev.Seat

theorem bif_t {α : Type} (a b : α) : (bif true then a else b) = a := rfl
theorem bif_f {α : Type} (a b : α) : (bif false then a else b) = b := rfl
theorem wrap_in (n : Int) (h0 : -9223372036854775808 ≤ n) (h1 : n ≤ 9223372036854775807) : IntKind.wrap IntKind.i64 n = n := by
  unfold IntKind.wrap
  simp [IntKind.bits, IntKind.signed]
  omega
abbrev B0 : ByteArray := ByteArray.mk (List.toArray [])
theorem seq_self (s : ByteArray) : seq s s = true := by simp [seq]

def idn (s : ByteArray) : Bool := (scalar_Ident 0 s).getD false
theorem ident_eq (κ : Nat) (s : ByteArray) : scalar_Ident κ s = some (idn s) ∧ (idn s = true → s.size ≤ 12 ∧ seq s B0 = false) := by
  have hk : scalar_Ident κ s = scalar_Ident 0 s := rfl
  rw [hk]
  suffices h : ∃ b, scalar_Ident 0 s = some b ∧ (b = true → s.size ≤ 12 ∧ seq s B0 = false) by
    obtain ⟨b, h1, h2⟩ := h
    have : idn s = b := by unfold idn; rw [h1]; rfl
    rw [this]; exact ⟨h1, h2⟩
  unfold scalar_Ident scalar_Ident.v0
  cases h0 : seq s (ByteArray.mk (List.toArray []))
  · simp only [Bool.not_false, bif_t]
    by_cases h1 : ((s.size : Nat) : Int) ≤ 12
    · simp only [h1, decide_true, bif_t]
      have hpos : (1 : Int) ≤ ((s.size : Nat) : Int) := by
        rcases Nat.eq_zero_or_pos s.size with h | h
        · exfalso
          have : s = ByteArray.mk (List.toArray []) := by
            cases s with
            | mk d => cases d with
              | mk l => cases l with
                | nil => rfl
                | cons a t => simp [ByteArray.size] at h
          rw [this] at h0
          simp [seq] at h0
        · omega
      simp only [hpos, decide_true, Int.le_refl, show (0 : Int) ≤ 1 from by decide, Bool.and_self, bif_t]
      generalize Lib.contains _ _ = c
      cases c
      · exact ⟨false, rfl, fun h => by cases h⟩
      · simp only [bif_t]
        unfold strings_Trim
        rw [show asciiB _ = true from by decide +kernel]
        have hsz : Nat.ble s.size maxI = true := Nat.ble_eq_true_of_le (by unfold maxI; omega)
        rw [hsz]
        refine ⟨_, rfl, fun _ => ⟨by omega, by first | exact h0 | trivial⟩⟩
    · simp only [h1, decide_false, bif_f]
      exact ⟨false, rfl, fun h => by cases h⟩
  · exact ⟨false, rfl, fun h => by cases h⟩
theorem ident (κ : Nat) (s : ByteArray) : scalar_Ident κ s = some (idn s) := (ident_eq κ s).1
def fndL (n : ByteArray) : List SpecSpec → Nat → Option Nat
  | [], _ => none
  | x :: l, i => bif seq x.name n then some i else fndL n l (i + 1)
theorem fnd_some {n : ByteArray} : ∀ {l : List SpecSpec} {i j : Nat}, fndL n l i = some j → i ≤ j ∧ ∃ t, l[j - i]? = some t ∧ seq t.name n = true
  | [], _, _, h => by cases h
  | x :: l, i, j, h => by
    unfold fndL at h
    cases hs : seq x.name n
    · rw [hs] at h
      obtain ⟨h1, t, h2, h3⟩ := fnd_some h
      refine ⟨by omega, t, ?_, h3⟩
      have : j - i = (j - (i + 1)) + 1 := by omega
      rw [this]; simpa using h2
    · rw [hs] at h; cases h
      exact ⟨Nat.le_refl _, x, by simp, hs⟩

theorem idx_loop (κ : Nat) (n : ByteArray) (l : List SpecSpec) (hl : l.length < 1000000) : ∀ (d i K : Nat), l.length = i + d → d < K →
    slices_IndexFunc.l0 κ K (l, ((l.length : Nat) : Int), (i : Int), n) = some (match fndL n (l.drop i) i with | some j => .inr ((j : Int), n) | none => .inl n)
  | d, i, 0, _, h => by omega
  | 0, i, K + 1, hd, _ => by
    have hn : l.drop i = [] := List.drop_eq_nil_of_le (by omega)
    rw [hn]
    unfold slices_IndexFunc.l0 slices_IndexFunc.w0
    rw [show decide ((i : Int) < ((l.length : Nat) : Int)) = false from by simp; omega]
    rfl
  | d + 1, i, K + 1, hd, hk => by
    have hlt : i < l.length := by omega
    unfold slices_IndexFunc.l0 slices_IndexFunc.w0
    rw [show decide ((i : Int) < ((l.length : Nat) : Int)) = true from by simp; omega, show decide ((0 : Int) ≤ (i : Int)) = true from by simp]
    simp only [bif_t, Int.toNat_natCast, List.getElem?_eq_getElem hlt, Option.bind_some]
    rw [List.drop_eq_getElem_cons hlt]
    unfold fndL
    cases hs : seq l[i].name n
    · simp only [bif_f]
      rw [wrap_in _ (by omega) (by omega), show ((i : Int) + 1) = ((i + 1 : Nat) : Int) from by omega]
      exact idx_loop κ n l hl d (i + 1) K (by omega) (by omega)
    · rfl

theorem find_eq (κ : Nat) (n : ByteArray) (l : List SpecSpec) (hl : l.length < 1000000) (hκ : l.length < κ) (a0 : ByteArray) (a1 a2 a3 a4 : Int) (a5 : List ByteArray) (a6 : Bool) (a7 : Int) :
    spec_Find κ a0 a1 a2 a3 a4 a5 a6 a7 l n = some (match fndL n l 0 with | some j => (j : Int) | none => -1) := by
  have h := idx_loop κ n l hl l.length 0 κ (by omega) hκ
  simp only [List.drop_zero, Int.natCast_zero] at h
  unfold spec_Find slices_IndexFunc
  rw [h]
  cases fndL n l 0 <;> rfl
end Go.Proofs.YthmohmmbhjpbcaaGreatDoor.Va8


namespace Go.Proofs.YthmohmmbhjpbcaaGreatDoor.Va8
open Go Ev Ev.Seat

def lev0 : List SpecSpec := [specRoot1, specRoot2, specRoot3]
def kidsAll (l : List SpecSpec) : List SpecSpec := l.flatMap SpecSpec.kids
def lev1 : List SpecSpec := kidsAll lev0
def lev2 : List SpecSpec := kidsAll lev1
def lev3 : List SpecSpec := kidsAll lev2
/-- All that stands in a table, and nothing. -/
def subs : List SpecSpec := specZero :: (lev0 ++ (lev1 ++ (lev2 ++ lev3)))
theorem lev3_end : lev3.all (fun s => s.kids.isEmpty) = true := by kernel_rfl
theorem sub_kid {s t : SpecSpec} (hs : s ∈ subs) (ht : t ∈ s.kids) : t ∈ subs := by
  unfold subs at hs ⊢
  simp only [List.mem_cons, List.mem_append] at hs ⊢
  rcases hs with rfl | h | h | h | h
  · cases ht
  · exact .inr (.inr (.inl (List.mem_flatMap.2 ⟨s, h, ht⟩)))
  · exact .inr (.inr (.inr (.inl (List.mem_flatMap.2 ⟨s, h, ht⟩))))
  · exact .inr (.inr (.inr (.inr (List.mem_flatMap.2 ⟨s, h, ht⟩))))
  · have h1 := List.all_eq_true.1 lev3_end s h
    simp only [List.isEmpty_iff] at h1
    rw [h1] at ht; cases ht
theorem subs_few : subs.all (fun s => Nat.ble s.kids.length 10) = true := by kernel_rfl
theorem sub_few {s : SpecSpec} (hs : s ∈ subs) : s.kids.length ≤ 10 := Nat.le_of_ble_eq_true (List.all_eq_true.1 subs_few s hs)

def rootOf (v : Int) : Option SpecSpec := if v = 1 then some specRoot1 else if v = 2 then some specRoot2 else if v = 3 then some specRoot3 else none
theorem root_eq (v : Int) : spec_Root v = match rootOf v with | some s => some (s, 0) | none => some (specZero, 28) := by
  unfold spec_Root rootOf
  split
  · rfl
  · split
    · rfl
    · split <;> rfl
theorem rootOf_sub {v : Int} {s : SpecSpec} (h : rootOf v = some s) : s ∈ subs := by
  unfold rootOf at h
  unfold subs lev0
  split at h
  · cases h; simp
  · split at h
    · cases h; simp
    · split at h
      · cases h; simp
      · cases h

def atN (s : SpecSpec) : List ByteArray → Option SpecSpec
  | [] => some s
  | n :: r => match (fndL n s.kids 0).bind fun j => s.kids[j]? with
    | none => none
    | some t => atN t r
theorem fnd_kid {s : SpecSpec} {n : ByteArray} {j : Nat} (h : fndL n s.kids 0 = some j) : ∃ t, s.kids[j]? = some t ∧ t ∈ s.kids := by
  obtain ⟨_, t, h2, _⟩ := fnd_some h
  exact ⟨t, h2, List.mem_of_getElem? h2⟩
theorem atN_sub : ∀ {l : List ByteArray} {s t : SpecSpec}, s ∈ subs → atN s l = some t → t ∈ subs
  | [], s, t, hs, h => by cases h; exact hs
  | y :: l, s, t, hs, h => by
    simp only [atN] at h
    split at h
    · cases h
    · rename_i u hu
      obtain ⟨j, hj, hk⟩ := Option.bind_eq_some_iff.1 hu
      exact atN_sub (sub_kid hs (List.mem_of_getElem? hk)) h

def flds (s : SpecSpec) : ByteArray × Int × Int × Int × Int × List ByteArray × Bool × Int × List SpecSpec := (s.name, s.kind, s.type_, s.min, s.max, s.names, s.must, s.most, s.kids)

theorem at_loop (κ : Nat) (hκ : 20 ≤ κ) (w : List ByteArray) (hw : w.length < 1000000) (z0 : ByteArray) (z1 z2 z3 z4 : Int) (z5 : Bool) (z6 : Int) : ∀ (d i K : Nat) (s : SpecSpec), s ∈ subs → w.length = i + d → d < K →
    spec_At.l0 κ K (w, ((w.length : Nat) : Int), (i : Int), z0, z1, z2, z3, z4, z5, z6, flds s) =
      some (match atN s (w.drop i) with | some t => .inl (z0, z1, z2, z3, z4, z5, z6, flds t) | none => .inr (22, B0, 0, 0, 0, 0, false, 0))
  | d, i, 0, s, _, _, h => by omega
  | 0, i, K + 1, s, hs, hd, _ => by
    have hn : w.drop i = [] := List.drop_eq_nil_of_le (by omega)
    rw [hn]
    unfold flds spec_At.l0 spec_At.w0
    rw [show decide ((i : Int) < ((w.length : Nat) : Int)) = false from by simp; omega]
    rfl
  | d + 1, i, K + 1, s, hs, hd, hk => by
    have hlt : i < w.length := by omega
    unfold flds spec_At.l0 spec_At.w0
    rw [show decide ((i : Int) < ((w.length : Nat) : Int)) = true from by simp; omega, show decide ((0 : Int) ≤ (i : Int)) = true from by simp]
    have hfew := sub_few hs
    simp only [bif_t, Int.toNat_natCast, List.getElem?_eq_getElem hlt, Option.bind_some, find_eq κ _ s.kids (by omega) (by omega)]
    rw [List.drop_eq_getElem_cons hlt]
    simp only [atN]
    cases hf : fndL w[i] s.kids 0 with
    | none => rfl
    | some j =>
      obtain ⟨t, ht, hm⟩ := fnd_kid hf
      simp only [Option.bind_some, ht, show decide (((j : Nat) : Int) < 0) = false from by simp, show decide ((0 : Int) ≤ ((j : Nat) : Int)) = true from by simp, bif_t, bif_f, Int.toNat_natCast]
      rw [wrap_in _ (by omega) (by omega), show ((i : Int) + 1) = ((i + 1 : Nat) : Int) from by omega]
      exact at_loop κ hκ w hw z0 z1 z2 z3 z4 z5 z6 d (i + 1) K t (sub_kid hs hm) (by omega) (by omega)

/-- What spec.At tells. -/
def atV (v : Int) (w : List ByteArray) : SpecSpec × Int := match rootOf v with
  | none => (specZero, 28)
  | some r => match atN r w with | some t => (t, 0) | none => (specZero, 22)
def tup (x : SpecSpec × Int) : ByteArray × Int × Int × Int × Int × List ByteArray × Bool × Int × List SpecSpec × Int := (x.1.name, x.1.kind, x.1.type_, x.1.min, x.1.max, x.1.names, x.1.must, x.1.most, x.1.kids, x.2)
theorem at_eq (κ : Nat) (hκ : 20 ≤ κ) (v : Int) (w : List ByteArray) (hw : w.length < κ) (hw' : w.length < 1000000) : spec_At κ v w = some (tup (atV v w)) := by
  unfold spec_At atV
  rw [root_eq]
  cases hr : rootOf v with
  | none => rfl
  | some r =>
    simp only [Option.bind_some, show ((0 : Int) != 0) = false from rfl, bif_f]
    have h := at_loop κ hκ w hw' B0 0 0 0 0 false 0 w.length 0 κ r (rootOf_sub hr) (by omega) hw
    simp only [List.drop_zero, Int.natCast_zero] at h
    unfold flds at h
    rw [h]
    cases atN r w with
    | some t => rfl
    | none => rfl
theorem atV_sub (v : Int) (w : List ByteArray) : (atV v w).1 ∈ subs := by
  unfold atV
  split
  · exact List.mem_cons_self ..
  · rename_i r hr
    split
    · rename_i t ht; exact atN_sub (rootOf_sub hr) ht
    · exact List.mem_cons_self ..

mutual
def toS : SpecSpec → Tollbarref07S
  | ⟨n, k, t, mi, ma, ns, mu, mo, ks⟩ => ⟨n, k, t, mi, ma, ns, mu, mo, toL ks⟩
def toL : List SpecSpec → List Tollbarref07S
  | [] => []
  | s :: l => toS s :: toL l
end
def fldS (s : Tollbarref07S) : ByteArray × Int × Int × Int × Int × List ByteArray × Bool × Int × List Tollbarref07S := (s.name, s.kind, s.type_, s.min, s.max, s.names, s.must, s.most, s.kids)
theorem toS_name (s : SpecSpec) : (toS s).name = s.name := by cases s; rfl
theorem toS_kids (s : SpecSpec) : (toS s).kids = toL s.kids := by cases s; rfl
theorem toL_get : ∀ (l : List SpecSpec) (i : Nat), (toL l)[i]? = (l[i]?).map toS
  | [], i => by simp [toL]
  | s :: l, 0 => by simp [toL]
  | s :: l, i + 1 => by simp only [toL, List.getElem?_cons_succ]; exact toL_get l i
theorem toL_len : ∀ (l : List SpecSpec), (toL l).length = l.length
  | [] => rfl
  | s :: l => by simp only [toL, List.length_cons, toL_len l]

theorem find2_loop (κ : Nat) (n : ByteArray) (l : List SpecSpec) (hl : l.length < 1000000) (b0 : ByteArray) (b1 b2 b3 b4 : Int) (b5 : List ByteArray) (b6 : Bool) (b7 : Int) : ∀ (d i K : Nat), l.length = i + d → d < K →
    r07_Find_2.l0 κ K (n, (i : Int), b0, b1, b2, b3, b4, b5, b6, b7, toL l) = some (match fndL n (l.drop i) i with | some j => .inr (j : Int) | none => .inl ())
  | d, i, 0, _, h => by omega
  | 0, i, K + 1, hd, _ => by
    have hn : l.drop i = [] := List.drop_eq_nil_of_le (by omega)
    rw [hn]
    unfold r07_Find_2.l0 r07_Find_2.w0
    rw [toL_len, show decide ((i : Int) < ((l.length : Nat) : Int)) = false from decide_eq_false (by omega)]
    rfl
  | d + 1, i, K + 1, hd, hk => by
    have hlt : i < l.length := by omega
    unfold r07_Find_2.l0 r07_Find_2.w0
    rw [toL_len, show decide ((i : Int) < ((l.length : Nat) : Int)) = true from decide_eq_true (by omega), show decide ((0 : Int) ≤ (i : Int)) = true from decide_eq_true (by omega)]
    simp only [bif_t, Int.toNat_natCast, toL_get, List.getElem?_eq_getElem hlt, Option.map_some, Option.bind_some, toS_name]
    rw [List.drop_eq_getElem_cons hlt]
    unfold fndL
    cases hs : seq l[i].name n
    · simp only [bif_f]
      rw [wrap_in _ (by omega) (by omega), show ((i : Int) + 1) = ((i + 1 : Nat) : Int) from by omega]
      exact find2_loop κ n l hl b0 b1 b2 b3 b4 b5 b6 b7 d (i + 1) K (by omega) (by omega)
    · rfl
theorem find2_eq (κ : Nat) (n : ByteArray) (l : List SpecSpec) (hl : l.length < 1000000) (hκ : l.length < κ) (b0 : ByteArray) (b1 b2 b3 b4 : Int) (b5 : List ByteArray) (b6 : Bool) (b7 : Int) :
    r07_Find_2 κ b0 b1 b2 b3 b4 b5 b6 b7 (toL l) n = some (match fndL n l 0 with | some j => (j : Int) | none => -1) := by
  have h := find2_loop κ n l hl b0 b1 b2 b3 b4 b5 b6 b7 l.length 0 κ (by omega) hκ
  simp only [List.drop_zero, Int.natCast_zero] at h
  unfold r07_Find_2
  rw [h]
  cases fndL n l 0 <;> rfl


theorem refAt_loop (κ : Nat) (hκ : 20 ≤ κ) (w : List ByteArray) (hw : w.length < 1000000) (z0 : ByteArray) (z1 z2 z3 z4 : Int) (z5 : Bool) (z6 : Int) : ∀ (d i K : Nat) (s : SpecSpec), s ∈ subs → w.length = i + d → d < K →
    r07_At.l4 κ K (w, (0 : Int), (i : Int), z0, z1, z2, z3, z4, z5, z6, fldS (toS s)) =
      some (match atN s (w.drop i) with | some t => .inl (0, z0, z1, z2, z3, z4, z5, z6, fldS (toS t)) | none => .inr (22, B0, 0, 0, 0, 0, false, 0))
  | d, i, 0, s, _, _, h => by omega
  | 0, i, K + 1, s, hs, hd, _ => by
    have hn : w.drop i = [] := List.drop_eq_nil_of_le (by omega)
    rw [hn]
    unfold fldS r07_At.l4 r07_At.w4 r07_At.v5
    rw [show decide ((i : Int) < ((w.length : Nat) : Int)) = false from decide_eq_false (by omega)]
    rfl
  | d + 1, i, K + 1, s, hs, hd, hk => by
    have hlt : i < w.length := by omega
    have hx : w[i]? = some w[i] := List.getElem?_eq_getElem hlt
    have hfew := sub_few hs
    unfold fldS r07_At.l4 r07_At.w4 r07_At.v5
    rw [show decide ((i : Int) < ((w.length : Nat) : Int)) = true from decide_eq_true (by omega)]
    simp only [bif_t, show ((0 : Int) == 0) = true from rfl, Option.bind_some, show decide ((0 : Int) ≤ (i : Int)) = true from decide_eq_true (by omega), Int.toNat_natCast, hx, toS_kids,
      find2_eq κ _ s.kids (by omega) (by omega)]
    rw [List.drop_eq_getElem_cons hlt]
    simp only [atN]
    cases hfd : fndL w[i] s.kids 0 with
    | none => rfl
    | some j =>
      obtain ⟨t, ht, hm⟩ := fnd_kid hfd
      simp only [Option.bind_some, ht, show decide (((j : Nat) : Int) < 0) = false from decide_eq_false (by omega), show decide ((0 : Int) ≤ ((j : Nat) : Int)) = true from decide_eq_true (by omega), bif_t, bif_f, Int.toNat_natCast, toL_get, Option.map_some]
      rw [wrap_in _ (by omega) (by omega), show ((i : Int) + 1) = ((i + 1 : Nat) : Int) from by omega]
      have ih := refAt_loop κ hκ w hw z0 z1 z2 z3 z4 z5 z6 d (i + 1) K t (sub_kid hs hm) (by omega) (by omega)
      simp only [fldS, toS_kids] at ih ⊢
      exact ih
def rootT (v : Int) : ByteArray × Int × Int × Int × Int × Bool × Int × Int × List Tollbarref07S := match rootOf v with
  | some r => (B0, 2, 0, 0, 0, false, 0, 0, toL r.kids)
  | none => (B0, 0, 0, 0, 0, false, 0, 28, [])
theorem refRoot1 (κ : Nat) : r07_Root κ 1 = some (rootT 1) := by kernel_rfl
theorem refRoot2 (κ : Nat) : r07_Root κ 2 = some (rootT 2) := by kernel_rfl
theorem refRoot3 (κ : Nat) : r07_Root κ 3 = some (rootT 3) := by kernel_rfl
theorem refRoot_eq (κ : Nat) (v : Int) : r07_Root κ v = some (rootT v) := by
  by_cases h1 : v = 1
  · subst h1; exact refRoot1 κ
  · by_cases h2 : v = 2
    · subst h2; exact refRoot2 κ
    · by_cases h3 : v = 3
      · subst h3; exact refRoot3 κ
      · have : rootT v = (B0, 0, 0, 0, 0, false, 0, 28, []) := by unfold rootT rootOf; rw [if_neg h1, if_neg h2, if_neg h3]
        rw [this]
        unfold r07_Root r07_Root.v0
        by_cases h4 : v < 1
        · simp only [h4, decide_true, bif_t, Option.bind_some]
        · have h5 : v > 3 := by omega
          simp only [h4, h5, decide_true, decide_false, bif_f, bif_t, Option.bind_some]
theorem root_flds {v : Int} {r : SpecSpec} (h : rootOf v = some r) : fldS (toS r) = (B0, 2, 0, 0, 0, [], false, 0, toL r.kids) := by
  unfold rootOf at h
  split at h
  · cases h; rfl
  · split at h
    · cases h; rfl
    · split at h
      · cases h; rfl
      · cases h


def tupS (x : SpecSpec × Int) : ByteArray × Int × Int × Int × Int × List ByteArray × Bool × Int × List Tollbarref07S × Int := ((toS x.1).name, (toS x.1).kind, (toS x.1).type_, (toS x.1).min, (toS x.1).max, (toS x.1).names, (toS x.1).must, (toS x.1).most, (toS x.1).kids, x.2)
theorem refAt_eq (κ : Nat) (hκ : 20 ≤ κ) (v : Int) (w : List ByteArray) (hw : w.length < κ) (hw' : w.length < 1000000) : r07_At κ v w = some (tupS (atV v w)) := by
  unfold r07_At
  rw [refRoot_eq]
  unfold rootT atV
  cases hr : rootOf v with
  | none =>
    obtain ⟨k, hk⟩ : ∃ k, κ = k + 1 := ⟨κ - 1, by omega⟩
    simp only [Option.bind_some]
    conv => lhs; arg 1; arg 2; rw [hk]
    unfold r07_At.l4 r07_At.w4 r07_At.v5
    cases decide ((0 : Int) < ((w.length : Nat) : Int)) <;> rfl
  | some r =>
    simp only [Option.bind_some]
    have h := refAt_loop κ hκ w hw' B0 0 0 0 0 false 0 w.length 0 κ r (rootOf_sub hr) (by omega) hw
    rw [root_flds hr] at h
    simp only [List.drop_zero, Int.natCast_zero] at h
    rw [h]
    cases atN r w with
    | some t => rfl
    | none => rfl
/-- What law 08 looks at: a part of the tables, and the reference's of it. -/
theorem both_eq (κ : Nat) (hκ : 30 ≤ κ) (v : Int) (w : List ByteArray) : ∃ s ∈ subs, ∃ is, l08_both κ v w = some (s.name, s.kind, s.type_, s.min, s.max, s.names, s.must, s.most, s.kids, (toS s).name, (toS s).kind, (toS s).type_, (toS s).min, (toS s).max, (toS s).names, (toS s).must, (toS s).most, (toS s).kids, is) := by
  unfold l08_both
  by_cases h : ((w.length : Nat) : Int) > 20
  · rw [show decide (((w.length : Nat) : Int) > 20) = true from decide_eq_true h]
    exact ⟨specZero, List.mem_cons_self .., false, rfl⟩
  · rw [show decide (((w.length : Nat) : Int) > 20) = false from decide_eq_false h]
    simp only [bif_f, at_eq κ (by omega) v w (by omega) (by omega), refAt_eq κ (by omega) v w (by omega) (by omega), Option.bind_some, tup, tupS]
    refine ⟨(atV v w).1, atV_sub v w, ?_⟩
    unfold l08_both.v0
    cases (atV v w).2 == 0
    · exact ⟨false, rfl⟩
    · exact ⟨_, rfl⟩
end Go.Proofs.YthmohmmbhjpbcaaGreatDoor.Va8


namespace Go.Proofs.YthmohmmbhjpbcaaGreatDoor.Va8
open Go Ev Ev.Seat

def ixL (x : ByteArray) : List ByteArray → Nat → Option Nat
  | [], _ => none
  | y :: l, i => bif seq x y then some i else ixL x l (i + 1)
def ixI (x : ByteArray) (l : List ByteArray) : Int := match ixL x l 0 with | some j => (j : Int) | none => -1
theorem ix_loop (κ : Nat) (x : ByteArray) (l : List ByteArray) (hl : l.length < 1000000) : ∀ (d i K : Nat), l.length = i + d → d < K →
    slices_Index.l0 κ K (l, x, ((l.length : Nat) : Int), (i : Int)) = some (match ixL x (l.drop i) i with | some j => .inr (j : Int) | none => .inl ())
  | d, i, 0, _, h => by omega
  | 0, i, K + 1, hd, _ => by
    have hn : l.drop i = [] := List.drop_eq_nil_of_le (by omega)
    rw [hn]
    unfold slices_Index.l0 slices_Index.w0
    rw [show decide ((i : Int) < ((l.length : Nat) : Int)) = false from decide_eq_false (by omega)]
    rfl
  | d + 1, i, K + 1, hd, hk => by
    have hlt : i < l.length := by omega
    unfold slices_Index.l0 slices_Index.w0
    rw [show decide ((i : Int) < ((l.length : Nat) : Int)) = true from decide_eq_true (by omega), show decide ((0 : Int) ≤ (i : Int)) = true from decide_eq_true (by omega)]
    simp only [bif_t, Int.toNat_natCast, List.getElem?_eq_getElem hlt, Option.bind_some]
    rw [List.drop_eq_getElem_cons hlt]
    unfold ixL
    cases hs : seq x l[i]
    · simp only [bif_f]
      rw [wrap_in _ (by omega) (by omega), show ((i : Int) + 1) = ((i + 1 : Nat) : Int) from by omega]
      exact ix_loop κ x l hl d (i + 1) K (by omega) (by omega)
    · rfl
theorem index_eq (κ : Nat) (x : ByteArray) (l : List ByteArray) (hl : l.length < 1000000) (hκ : l.length < κ) : slices_Index κ l x = some (ixI x l) := by
  have h := ix_loop κ x l hl l.length 0 κ (by omega) hκ
  simp only [List.drop_zero, Int.natCast_zero] at h
  unfold slices_Index ixI
  rw [h]
  cases ixL x l 0 <;> rfl
def rgt (kd ty mi ma : Int) (ns : List ByteArray) (k n : Int) (t : ByteArray) : Bool :=
  kd == 1 && (k == ty && (bif ty == 1 || ty == 2 then decide (n ≥ mi) && (decide (n ≤ ma) && seq t B0)
    else bif ty == 3 then decide (n ≤ 1) && seq t B0
    else bif ty == 4 then decide (ixI t ns ≥ 0) && n == 0
    else bif ty == 5 || ty == 6 then idn t && n == 0 else false))
theorem right_eq (κ : Nat) (nm : ByteArray) (kd ty mi ma : Int) (ns : List ByteArray) (mu : Bool) (mo : Int) (ks : List SpecSpec) (k n : Int) (t : ByteArray) (hl : ns.length < 1000) (hκ : 1000 ≤ κ) :
    value_Right κ nm kd ty mi ma ns mu mo ks k n t = some (rgt kd ty mi ma ns k n t) := by
  unfold value_Right value_of rgt
  by_cases h : ¬ kd = 1
  · rw [show (kd != 1) = true from by simp [h], show (kd == 1) = false from by simp [h]]; rfl
  have h : kd = 1 := by simpa using h
  subst h
  by_cases h1 : ty = 1
  · subst h1
    unfold value_Right.v5 value_number_right_2 value_number_right_2.v0
    cases k == (1 : Int)
    · rfl
    · cases h2 : decide (n ≥ mi)
      · rfl
      · cases h3 : decide (n ≤ ma)
        · rfl
        · rfl
  by_cases h2 : ty = 2
  · subst h2
    unfold value_Right.v4 value_number_right value_number_right.v0
    cases k == (2 : Int)
    · rfl
    · cases h2 : decide (n ≥ mi)
      · rfl
      · cases h3 : decide (n ≤ ma)
        · rfl
        · rfl
  by_cases h3 : ty = 3
  · subst h3
    unfold value_Right.v3 value_truth_right value_truth_right.v0
    cases k == (3 : Int)
    · rfl
    · cases h2 : decide (n ≤ 1)
      · rfl
      · rfl
  by_cases h4 : ty = 4
  · subst h4
    unfold value_Right.v2 value_choice_right value_choice_right.v0 slices_Contains
    rw [index_eq κ t ns (by omega) (by omega)]
    cases k == (4 : Int)
    · rfl
    · simp only [Option.bind_some]
      cases h2 : decide (ixI t ns ≥ 0)
      · rfl
      · rfl
  have e1 : (ty == 1) = false := by simp [h1]
  have e2 : (ty == 2) = false := by simp [h2]
  have e3 : (ty == 3) = false := by simp [h3]
  have e4 : (ty == 4) = false := by simp [h4]
  rw [e1, e2, e3, e4]
  unfold value_of.v0
  by_cases h5 : ty = 5
  · subst h5
    unfold value_Right.v1 value_name_right value_name_right.v0
    rw [ident]
    cases k == (5 : Int)
    · rfl
    · simp only [Option.bind_some]
      cases idn t <;> rfl
  by_cases h6 : ty = 6
  · subst h6
    unfold value_Right.v1 value_name_right value_name_right.v0
    rw [ident]
    cases k == (6 : Int)
    · rfl
    · simp only [Option.bind_some]
      cases idn t <;> rfl
  have e5 : (ty == 5) = false := by simp [h5]
  have e6 : (ty == 6) = false := by simp [h6]
  rw [e5, e6]
  cases k == ty <;> rfl

def distinctB : List ByteArray → Bool
  | [] => true
  | x :: l => l.all (fun y => !(seq x y)) && distinctB l
def leafOk (s : SpecSpec) : Bool :=
  Nat.ble s.names.length 100 && s.names.all (fun x => !(seq x B0) && Nat.ble x.size 100) && distinctB s.names &&
  decide (0 ≤ s.min) && decide (s.min ≤ s.max) && decide (s.max ≤ 100000000)
theorem leaf_all : subs.all leafOk = true := by kernel_rfl
structure LeafOk (s : SpecSpec) : Prop where
  few : s.names.length ≤ 100
  nice : ∀ x ∈ s.names, seq x B0 = false ∧ x.size ≤ 100
  dist : distinctB s.names = true
  min0 : 0 ≤ s.min
  mm : s.min ≤ s.max
  max0 : s.max ≤ 100000000
theorem leaf_ok {s : SpecSpec} (h : s ∈ subs) : LeafOk s := by
  have := List.all_eq_true.1 leaf_all s h
  unfold leafOk at this
  simp only [Bool.and_eq_true, decide_eq_true_eq] at this
  obtain ⟨⟨⟨⟨⟨h1, h2⟩, h3⟩, h4⟩, h5⟩, h6⟩ := this
  refine ⟨Nat.le_of_ble_eq_true h1, fun x hx => ?_, h3, h4, h5, h6⟩
  have := List.all_eq_true.1 h2 x hx
  simp only [Bool.and_eq_true, Bool.not_eq_true'] at this
  exact ⟨this.1, Nat.le_of_ble_eq_true this.2⟩
theorem awake_at (k : Nat) : l08_awake (k + 2000) = some true := by kernel_rfl
end Go.Proofs.YthmohmmbhjpbcaaGreatDoor.Va8


namespace Go.Proofs.YthmohmmbhjpbcaaGreatDoor.Va8
open Go Ev Ev.Seat

abbrev BA : ByteArray := ByteArray.mk (List.toArray ((97 : UInt8) :: []))
theorem wrap_u (n : Int) (h0 : 0 ≤ n) (h1 : n ≤ 18446744073709551615) : IntKind.wrap IntKind.u64 n = n := by
  rw [IntKind.wrap_u64]; omega
/-- What is told of a leaf that is a number. -/
theorem bounds_num (ty mi ma : Int) (ns : List ByteArray) (n : Int) (hty : ty = 1 ∨ ty = 2) (hm : mi ≤ ma) :
    rgt 1 ty mi ma ns ty n B0 = (decide (n ≥ mi) && decide (n ≤ ma)) ∧ rgt 1 ty mi ma ns ty mi BA = false ∧ rgt 1 ty mi ma ns 5 0 BA = false := by
  have hA : seq BA B0 = false := by decide +kernel
  have h0 : seq B0 B0 = true := seq_self _
  refine ⟨?_, ?_, ?_⟩
  · unfold rgt
    rcases hty with rfl | rfl <;> simp [h0]
  · unfold rgt
    rcases hty with rfl | rfl <;> simp [hA]
  · unfold rgt
    rcases hty with rfl | rfl <;> simp
theorem ValueBounds_eq (κ : Nat) (hκ : 2000 ≤ κ) (v : Int) (w : List ByteArray) (n : Int) : l08_ValueBounds κ v w n = some true := by
  obtain ⟨k, rfl⟩ : ∃ k, κ = k + 2000 := ⟨κ - 2000, by omega⟩
  obtain ⟨s, hs, is, hb⟩ := both_eq (k + 2000) (by omega) v w
  have ok := leaf_ok hs
  unfold l08_ValueBounds
  rw [awake_at, hb]
  have hr : ∀ a n t, value_Right (k + 2000) s.name s.kind s.type_ s.min s.max s.names s.must s.most s.kids a n t = some (rgt s.kind s.type_ s.min s.max s.names a n t) :=
    fun a n t => right_eq _ _ _ _ _ _ _ _ _ _ a n t (by have := ok.few; omega) (by omega)
  simp only [Option.bind_some, Bool.not_true, bif_f]
  unfold l08_ValueBounds.v0
  cases is
  · rfl
  simp only [Bool.not_true, bif_f]
  by_cases hk : ¬ s.kind = 1
  · rw [show (s.kind != 1) = true from by simp [hk]]; rfl
  have hk : s.kind = 1 := by simpa using hk
  rw [show (s.kind != 1) = false from by simp [hk]]
  simp only [bif_f]
  by_cases ht : ¬ (s.type_ = 1 ∨ s.type_ = 2)
  · have h1 : (s.type_ != 1) = true := by simp; omega
    have h2 : (s.type_ != 2) = true := by simp; omega
    rw [h1, h2]; rfl
  have ht : s.type_ = 1 ∨ s.type_ = 2 := Classical.not_not.1 ht
  have hv : (bif (s.type_ != 1) then some (n, s.type_ != 2, s.name, s.kind, s.type_, s.min, s.max, s.names, s.must, s.most, s.kids) else some (n, false, s.name, s.kind, s.type_, s.min, s.max, s.names, s.must, s.most, s.kids)) = some (n, false, s.name, s.kind, s.type_, s.min, s.max, s.names, s.must, s.most, s.kids) := by
    rcases ht with h | h <;> rw [h] <;> rfl
  rw [hv]
  simp only [Option.bind_some, bif_f]
  have hm := ok.mm
  have h0 := ok.min0
  have hx := ok.max0
  have hw : IntKind.wrap IntKind.u64 (s.max + 1) = s.max + 1 := wrap_u _ (by omega) (by omega)
  have hv2 : l08_ValueBounds.v2 (k + 2000) n s.name s.kind s.type_ s.min s.max s.names s.must s.most s.kids = some (n, (decide (n ≥ s.min) && decide (n ≤ s.max)), s.name, s.kind, s.type_, s.min, s.max, s.names, s.must, s.most, s.kids) := by
    unfold l08_ValueBounds.v2
    cases decide (n ≥ s.min) <;> rfl
  rw [hv2]
  simp only [Option.bind_some, hr, hw]
  unfold l08_ValueBounds.v4
  simp only [hr, Option.bind_some]
  rw [hk]
  have b1 := fun n => (bounds_num s.type_ s.min s.max s.names n ht hm).1
  obtain ⟨_, b2, b3⟩ := bounds_num s.type_ s.min s.max s.names n ht hm
  simp only [b1, b2, b3, Bool.not_false, bif_t]
  have c1 : (decide (s.min ≥ s.min) && decide (s.min ≤ s.max)) = true := by simp; omega
  have c2 : (decide (s.max ≥ s.min) && decide (s.max ≤ s.max)) = true := by simp; omega
  have c3 : (decide (s.max + 1 ≥ s.min) && decide (s.max + 1 ≤ s.max)) = false := by simp; omega
  rw [c1, c2, c3]
  simp
theorem ValueBounds_row (x : Tollbarlaw08Place) {Q : Prop} (w : Q) (n : Int) (wn : (Lit.int .u64 n).wf = true) : l08_ValueBounds 2000 x.version x.names n = some true :=
  ValueBounds_eq 2000 (Nat.le_refl _) x.version x.names n
end Go.Proofs.YthmohmmbhjpbcaaGreatDoor.Va8

