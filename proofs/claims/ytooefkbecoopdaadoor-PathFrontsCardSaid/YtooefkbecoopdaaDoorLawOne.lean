import Derived.Test.YtooefkbecoopdaaDoorEvPlain
set_option linter.unusedVariables false
set_option linter.unusedSimpArgs false
namespace Go.Proofs.YtooefkbecoopdaaDoor.Pa15
open Go Ev Ev.Seat

theorem bif_t {α : Type} (a b : α) : (bif true then a else b) = a := rfl
theorem bif_f {α : Type} (a b : α) : (bif false then a else b) = b := rfl
theorem wrap_in (n : Int) (h0 : -9223372036854775808 ≤ n) (h1 : n ≤ 9223372036854775807) : IntKind.wrap IntKind.i64 n = n := by
  unfold IntKind.wrap
  simp [IntKind.bits, IntKind.signed]
  omega
abbrev B0 : ByteArray := ByteArray.mk (List.toArray [])
def idn (s : ByteArray) : Bool := (scalar_Ident 0 s).getD false
theorem ident_eq (κ : Nat) (s : ByteArray) : scalar_Ident κ s = some (idn s) ∧ (idn s = true → s.size ≤ 12 ∧ seq s B0 = false) := by
  have hk : scalar_Ident κ s = scalar_Ident 0 s := rfl
  rw [hk]
  suffices h : ∃ b, scalar_Ident 0 s = some b ∧ (b = true → s.size ≤ 12 ∧ seq s B0 = false) by
    obtain ⟨b, h1, h2⟩ := h
    have : idn s = b := by unfold idn; rw [h1]; rfl
    rw [this]; exact ⟨h1, h2⟩
  unfold scalar_Ident scalar_Ident.v0
  cases h0 : seq s (ByteArray.mk (List.toArray []))
  · simp only [Bool.not_false, bif_t]
    by_cases h1 : ((s.size : Nat) : Int) ≤ 12
    · simp only [h1, decide_true, bif_t]
      have hpos : (1 : Int) ≤ ((s.size : Nat) : Int) := by
        rcases Nat.eq_zero_or_pos s.size with h | h
        · exfalso
          have : s = ByteArray.mk (List.toArray []) := by
            cases s with
            | mk d => cases d with
              | mk l => cases l with
                | nil => rfl
                | cons a t => simp [ByteArray.size] at h
          rw [this] at h0
          simp [seq] at h0
        · omega
      simp only [hpos, decide_true, Int.le_refl, show (0 : Int) ≤ 1 from by decide, Bool.and_self, bif_t]
      generalize Lib.contains _ _ = c
      cases c
      · exact ⟨false, rfl, fun h => by cases h⟩
      · simp only [bif_t]
        unfold strings_Trim
        rw [show asciiB _ = true from by decide +kernel]
        have hsz : Nat.ble s.size maxI = true := Nat.ble_eq_true_of_le (by unfold maxI; omega)
        rw [hsz]
        refine ⟨_, rfl, fun _ => ⟨by omega, by first | exact h0 | trivial⟩⟩
    · simp only [h1, decide_false, bif_f]
      exact ⟨false, rfl, fun h => by cases h⟩
  · exact ⟨false, rfl, fun h => by cases h⟩
theorem ident (κ : Nat) (s : ByteArray) : scalar_Ident κ s = some (idn s) := (ident_eq κ s).1
theorem idn_size {s : ByteArray} (h : idn s = true) : s.size ≤ 12 := ((ident_eq 0 s).2 h).1
theorem idn_ne {s : ByteArray} (h : idn s = true) : seq s B0 = false := ((ident_eq 0 s).2 h).2

def fndL (n : ByteArray) : List SpecSpec → Nat → Option Nat
  | [], _ => none
  | x :: l, i => bif seq x.name n then some i else fndL n l (i + 1)
theorem fnd_some {n : ByteArray} : ∀ {l : List SpecSpec} {i j : Nat}, fndL n l i = some j → i ≤ j ∧ ∃ t, l[j - i]? = some t ∧ seq t.name n = true
  | [], _, _, h => by cases h
  | x :: l, i, j, h => by
    unfold fndL at h
    cases hs : seq x.name n
    · rw [hs] at h
      obtain ⟨h1, t, h2, h3⟩ := fnd_some h
      refine ⟨by omega, t, ?_, h3⟩
      have : j - i = (j - (i + 1)) + 1 := by omega
      rw [this]; simpa using h2
    · rw [hs] at h; cases h
      exact ⟨Nat.le_refl _, x, by simp, hs⟩

theorem idx_loop (κ : Nat) (n : ByteArray) (l : List SpecSpec) (hl : l.length < 1000000) : ∀ (d i K : Nat), l.length = i + d → d < K →
    slices_IndexFunc.l0 κ K (l, ((l.length : Nat) : Int), (i : Int), n) = some (match fndL n (l.drop i) i with | some j => .inr ((j : Int), n) | none => .inl n)
  | d, i, 0, _, h => by omega
  | 0, i, K + 1, hd, _ => by
    have hn : l.drop i = [] := List.drop_eq_nil_of_le (by omega)
    rw [hn]
    unfold slices_IndexFunc.l0 slices_IndexFunc.w0
    rw [show decide ((i : Int) < ((l.length : Nat) : Int)) = false from by simp; omega]
    rfl
  | d + 1, i, K + 1, hd, hk => by
    have hlt : i < l.length := by omega
    unfold slices_IndexFunc.l0 slices_IndexFunc.w0
    rw [show decide ((i : Int) < ((l.length : Nat) : Int)) = true from by simp; omega, show decide ((0 : Int) ≤ (i : Int)) = true from by simp]
    simp only [bif_t, Int.toNat_natCast, List.getElem?_eq_getElem hlt, Option.bind_some]
    rw [List.drop_eq_getElem_cons hlt]
    unfold fndL
    cases hs : seq l[i].name n
    · simp only [bif_f]
      rw [wrap_in _ (by omega) (by omega), show ((i : Int) + 1) = ((i + 1 : Nat) : Int) from by omega]
      exact idx_loop κ n l hl d (i + 1) K (by omega) (by omega)
    · rfl

theorem find_eq (κ : Nat) (n : ByteArray) (l : List SpecSpec) (hl : l.length < 1000000) (hκ : l.length < κ) (a0 : ByteArray) (a1 a2 a3 a4 : Int) (a5 : List ByteArray) (a6 : Bool) (a7 : Int) :
    spec_Find κ a0 a1 a2 a3 a4 a5 a6 a7 l n = some (match fndL n l 0 with | some j => (j : Int) | none => -1) := by
  have h := idx_loop κ n l hl l.length 0 κ (by omega) hκ
  simp only [List.drop_zero, Int.natCast_zero] at h
  unfold spec_Find slices_IndexFunc
  rw [h]
  cases fndL n l 0 <;> rfl
end Go.Proofs.YtooefkbecoopdaaDoor.Pa15


namespace Go.Proofs.YtooefkbecoopdaaDoor.Pa15
open Go Ev Ev.Seat

def lev0 : List SpecSpec := [specRoot1, specRoot2, specRoot3]
def kidsAll (l : List SpecSpec) : List SpecSpec := l.flatMap SpecSpec.kids
def lev1 : List SpecSpec := kidsAll lev0
def lev2 : List SpecSpec := kidsAll lev1
def lev3 : List SpecSpec := kidsAll lev2
/-- All that stands in a table, and nothing. -/
def subs : List SpecSpec := specZero :: (lev0 ++ (lev1 ++ (lev2 ++ lev3)))
theorem lev3_end : lev3.all (fun s => s.kids.isEmpty) = true := by kernel_rfl
theorem sub_kid {s t : SpecSpec} (hs : s ∈ subs) (ht : t ∈ s.kids) : t ∈ subs := by
  unfold subs at hs ⊢
  simp only [List.mem_cons, List.mem_append] at hs ⊢
  rcases hs with rfl | h | h | h | h
  · cases ht
  · exact .inr (.inr (.inl (List.mem_flatMap.2 ⟨s, h, ht⟩)))
  · exact .inr (.inr (.inr (.inl (List.mem_flatMap.2 ⟨s, h, ht⟩))))
  · exact .inr (.inr (.inr (.inr (List.mem_flatMap.2 ⟨s, h, ht⟩))))
  · have h1 := List.all_eq_true.1 lev3_end s h
    simp only [List.isEmpty_iff] at h1
    rw [h1] at ht; cases ht
theorem subs_few : subs.all (fun s => Nat.ble s.kids.length 10) = true := by kernel_rfl
theorem sub_few {s : SpecSpec} (hs : s ∈ subs) : s.kids.length ≤ 10 := Nat.le_of_ble_eq_true (List.all_eq_true.1 subs_few s hs)

def rootOf (v : Int) : Option SpecSpec := if v = 1 then some specRoot1 else if v = 2 then some specRoot2 else if v = 3 then some specRoot3 else none
theorem root_eq (v : Int) : spec_Root v = match rootOf v with | some s => some (s, 0) | none => some (specZero, 28) := by
  unfold spec_Root rootOf
  split
  · rfl
  · split
    · rfl
    · split <;> rfl
theorem rootOf_sub {v : Int} {s : SpecSpec} (h : rootOf v = some s) : s ∈ subs := by
  unfold rootOf at h
  unfold subs lev0
  split at h
  · cases h; simp
  · split at h
    · cases h; simp
    · split at h
      · cases h; simp
      · cases h

def badK (t : SpecSpec) (x : ApiStep) : Bool := bif t.kind == 3 then !(idn x.key) else !(seq x.key B0)
def atW (s : SpecSpec) : List ApiStep → Sum SpecSpec Int
  | [] => .inl s
  | x :: r => match (fndL x.name s.kids 0).bind fun j => s.kids[j]? with
    | none => .inr 22
    | some t => bif badK t x then .inr 23 else atW t r
theorem fnd_kid {s : SpecSpec} {n : ByteArray} {j : Nat} (h : fndL n s.kids 0 = some j) : ∃ t, s.kids[j]? = some t ∧ t ∈ s.kids := by
  obtain ⟨_, t, h2, _⟩ := fnd_some h
  exact ⟨t, h2, List.mem_of_getElem? h2⟩
theorem atW_append (x : ApiStep) : ∀ (l : List ApiStep) (s : SpecSpec), atW s (l ++ [x]) = match atW s l with | .inl t => atW t [x] | .inr e => .inr e
  | [], s => rfl
  | y :: l, s => by
    simp only [List.cons_append, atW]
    generalize (fndL y.name s.kids 0).bind _ = o
    cases o with
    | none => rfl
    | some t =>
      simp only
      cases badK t y
      · simp only [bif_f]; exact atW_append x l t
      · rfl
theorem atW_err : ∀ {l : List ApiStep} {s : SpecSpec} {e : Int}, atW s l = .inr e → e = 22 ∨ e = 23
  | [], s, e, h => by cases h
  | y :: l, s, e, h => by
    simp only [atW] at h
    split at h
    · cases h; exact .inl rfl
    · rename_i t _
      cases hb : badK t y
      · rw [hb] at h; exact atW_err h
      · rw [hb] at h; cases h; exact .inr rfl
theorem atW_sub : ∀ {l : List ApiStep} {s t : SpecSpec}, s ∈ subs → atW s l = .inl t → t ∈ subs
  | [], s, t, hs, h => by cases h; exact hs
  | y :: l, s, t, hs, h => by
    simp only [atW] at h
    split at h
    · cases h
    · rename_i u hu
      cases hb : badK u y
      · rw [hb] at h
        obtain ⟨j, hj, hk⟩ := Option.bind_eq_some_iff.1 hu
        exact atW_sub (sub_kid hs (List.mem_of_getElem? hk)) h
      · rw [hb] at h; cases h

def flds (s : SpecSpec) : ByteArray × Int × Int × Int × Int × List ByteArray × Bool × Int × List SpecSpec := (s.name, s.kind, s.type_, s.min, s.max, s.names, s.must, s.most, s.kids)

theorem at_loop (κ : Nat) (hκ : 20 ≤ κ) (w : List ApiStep) (hw : w.length < 1000000) (z0 : ByteArray) (z1 z2 z3 z4 : Int) (z5 : Bool) (z6 : Int) : ∀ (d i K : Nat) (s : SpecSpec), s ∈ subs → w.length = i + d → d < K →
    path_At.l2 κ K (w, ((w.length : Nat) : Int), (i : Int), z0, z1, z2, z3, z4, z5, z6, flds s) =
      some (match atW s (w.drop i) with | .inl t => .inl (z0, z1, z2, z3, z4, z5, z6, flds t) | .inr e => .inr (e, B0, 0, 0, 0, 0, false, 0))
  | d, i, 0, s, _, _, h => by omega
  | 0, i, K + 1, s, hs, hd, _ => by
    have hn : w.drop i = [] := List.drop_eq_nil_of_le (by omega)
    rw [hn]
    unfold flds path_At.l2 path_At.w2
    rw [show decide ((i : Int) < ((w.length : Nat) : Int)) = false from by simp; omega]
    rfl
  | d + 1, i, K + 1, s, hs, hd, hk => by
    have hlt : i < w.length := by omega
    unfold flds path_At.l2 path_At.w2
    rw [show decide ((i : Int) < ((w.length : Nat) : Int)) = true from by simp; omega, show decide ((0 : Int) ≤ (i : Int)) = true from by simp]
    have hfew := sub_few hs
    simp only [bif_t, Int.toNat_natCast, List.getElem?_eq_getElem hlt, Option.bind_some, find_eq κ _ s.kids (by omega) (by omega)]
    rw [List.drop_eq_getElem_cons hlt]
    simp only [atW]
    cases hf : fndL w[i].name s.kids 0 with
    | none => rfl
    | some j =>
      obtain ⟨t, ht, hm⟩ := fnd_kid hf
      simp only [Option.bind_some, ht, show decide (((j : Nat) : Int) < 0) = false from by simp, show decide ((0 : Int) ≤ ((j : Nat) : Int)) = true from by simp, bif_t, bif_f, Int.toNat_natCast]
      have hv : path_At.v3 κ (t.kind == 3) w ((w.length : Nat) : Int) (i : Int) z0 z1 z2 z3 z4 z5 z6 t.name t.kind t.type_ t.min t.max t.names t.must t.most t.kids w[i].name w[i].key
          = some (w, ((w.length : Nat) : Int), (i : Int), badK t w[i], z0, z1, z2, z3, z4, z5, z6, flds t) := by
        unfold path_At.v3 badK flds
        cases t.kind == 3
        · rfl
        · simp only [bif_t, ident, Option.bind_some]
          cases idn w[i].key <;> rfl
      rw [hv]
      simp only [Option.bind_some]
      cases badK t w[i]
      · simp only [bif_f]
        rw [wrap_in _ (by omega) (by omega), show ((i : Int) + 1) = ((i + 1 : Nat) : Int) from by omega]
        exact at_loop κ hκ w hw z0 z1 z2 z3 z4 z5 z6 d (i + 1) K t (sub_kid hs hm) (by omega) (by omega)
      · rfl

/-- What path.At tells. -/
def atV (v : Int) (w : List ApiStep) : SpecSpec × Int := match rootOf v with
  | none => (specZero, 28)
  | some r => match atW r w with | .inl t => (t, 0) | .inr e => (specZero, e)
def tup (x : SpecSpec × Int) : ByteArray × Int × Int × Int × Int × List ByteArray × Bool × Int × List SpecSpec × Int := (x.1.name, x.1.kind, x.1.type_, x.1.min, x.1.max, x.1.names, x.1.must, x.1.most, x.1.kids, x.2)
theorem at_eq (κ : Nat) (hκ : 20 ≤ κ) (v : Int) (w : List ApiStep) (hw : w.length < κ) (hw' : w.length < 1000000) : path_At κ v w = some (tup (atV v w)) := by
  unfold path_At atV
  rw [root_eq]
  cases hr : rootOf v with
  | none => rfl
  | some r =>
    simp only [Option.bind_some, show ((0 : Int) != 0) = false from rfl, bif_f]
    have h := at_loop κ hκ w hw' B0 0 0 0 0 false 0 w.length 0 κ r (rootOf_sub hr) (by omega) hw
    simp only [List.drop_zero, Int.natCast_zero] at h
    unfold flds at h
    rw [h]
    cases atW r w with
    | inl t => rfl
    | inr e => rfl
end Go.Proofs.YtooefkbecoopdaaDoor.Pa15


namespace Go.Proofs.YtooefkbecoopdaaDoor.Pa15
open Go Ev Ev.Seat

mutual
def toS : SpecSpec → Tollbarref07S
  | ⟨n, k, t, mi, ma, ns, mu, mo, ks⟩ => ⟨n, k, t, mi, ma, ns, mu, mo, toL ks⟩
def toL : List SpecSpec → List Tollbarref07S
  | [] => []
  | s :: l => toS s :: toL l
end
def fldS (s : Tollbarref07S) : ByteArray × Int × Int × Int × Int × List ByteArray × Bool × Int × List Tollbarref07S := (s.name, s.kind, s.type_, s.min, s.max, s.names, s.must, s.most, s.kids)
theorem plain_all (k : Nat) : subs.map (fun s => tollbarlaw15_plain_4 (k + 100) s.name s.kind s.type_ s.min s.max s.names s.must s.most s.kids) = subs.map fun s => some (.inr (fldS (toS s))) := by kernel_rfl
theorem plain_eq {κ : Nat} (hκ : 100 ≤ κ) {s : SpecSpec} (hs : s ∈ subs) : tollbarlaw15_plain_4 κ s.name s.kind s.type_ s.min s.max s.names s.must s.most s.kids = some (.inr (fldS (toS s))) := by
  obtain ⟨k, rfl⟩ : ∃ k, κ = k + 100 := ⟨κ - 100, by omega⟩
  exact List.map_inj_left.1 (plain_all k) s hs
def same6 (κ : Nat) (a b : Tollbarref07S) : Option Bool := tollbarref07_Same_6 κ a.name a.kind a.type_ a.min a.max a.names a.must a.most a.kids b.name b.kind b.type_ b.min b.max b.names b.must b.most b.kids
theorem same_all (k : Nat) : subs.map (fun s => same6 (k + 100) (toS s) (toS s)) = subs.map fun s => some true := by kernel_rfl
theorem same_eq {κ : Nat} (hκ : 100 ≤ κ) {s : SpecSpec} (hs : s ∈ subs) : same6 κ (toS s) (toS s) = some true := by
  obtain ⟨k, rfl⟩ : ∃ k, κ = k + 100 := ⟨κ - 100, by omega⟩
  exact List.map_inj_left.1 (same_all k) s hs
theorem awake_all (k : Nat) : tollbarlaw15_awake (k + 100) = some true := by kernel_rfl
theorem awake_eq {κ : Nat} (hκ : 100 ≤ κ) : tollbarlaw15_awake κ = some true := by
  obtain ⟨k, rfl⟩ : ∃ k, κ = k + 100 := ⟨κ - 100, by omega⟩
  exact awake_all k

def badS (x : ApiStep) : Bool := !(idn x.name) || (!(seq x.key B0) && !(idn x.key))
def key1 (x : ApiStep) : List UInt8 := bif seq x.key B0 then [] else 91 :: (x.key.data.toList ++ [93])
def txt1 (x : ApiStep) : List UInt8 := 47 :: (x.name.data.toList ++ key1 x)
def txt (w : List ApiStep) : List UInt8 := w.flatMap txt1
def ints (l : List UInt8) : List Int := l.map fun b => ((b.toNat : Nat) : Int)
theorem ints_append (a b : List UInt8) : ints a ++ ints b = ints (a ++ b) := by simp [ints]
theorem ints_len (a : List UInt8) : (ints a).length = a.length := by simp [ints]
theorem bytes_ints (l : List UInt8) : bytesOfA C (ints l) = ⟨⟨l⟩⟩ := by
  unfold bytesOfA
  congr 2
  show List.map (fun x : Int => UInt8.ofNat x.toNat) (ints l) = l
  unfold ints
  rw [List.map_map]
  conv => rhs; rw [← List.map_id l]
  apply List.map_congr_left
  intro b _
  simp
theorem room_ok (n : Nat) (h : n ≤ 3000000) : Nat.ble n (room (0 + 1)) = true := by
  rw [Nat.ble_eq]; exact Nat.le_trans h (by decide)
theorem maxI_ok (n : Nat) (h : n ≤ 3000000) : Nat.ble n maxI = true := by
  rw [Nat.ble_eq]; exact Nat.le_trans h (by decide)
theorem ba_size (s : ByteArray) : s.size = s.data.toList.length := rfl
theorem badS_no {x : ApiStep} (hb : badS x = false) : idn x.name = true ∧ (seq x.key B0 = false → idn x.key = true) := by
  unfold badS at hb
  cases h : idn x.name
  · rw [h] at hb; simp at hb
  · refine ⟨rfl, fun hk => ?_⟩
    rw [h, hk] at hb
    cases h2 : idn x.key
    · rw [h2] at hb; simp at hb
    · rfl
theorem write2 {κ : Nat} (a : ByteArray) (acc : List UInt8) (h : acc.length + a.size ≤ 3000000) : strings_Builder_WriteString_2 κ a (ints acc) = some (((a.size : Nat) : Int), ints (acc ++ a.data.toList)) := by
  unfold strings_Builder_WriteString_2
  have e : List.map (fun b : UInt8 => ((UInt8.toNat b : Nat) : Int)) a.data.toList = ints a.data.toList := rfl
  rw [e, ints_len, ints_len, ← ba_size, room_ok _ h, bif_t, ints_append]
theorem write3 {κ : Nat} (a : ByteArray) (acc : List UInt8) (h : acc.length + a.size ≤ 3000000) : strings_Builder_WriteString_3 κ a (ints acc) = some (((a.size : Nat) : Int), ints (acc ++ a.data.toList)) := by
  unfold strings_Builder_WriteString_3
  have e : List.map (fun b : UInt8 => ((UInt8.toNat b : Nat) : Int)) a.data.toList = ints a.data.toList := rfl
  rw [e, ints_len, ints_len, ← ba_size, room_ok _ h, bif_t, ints_append]
theorem cat_list (a b : ByteArray) : (a ++ b).data.toList = a.data.toList ++ b.data.toList := by simp
theorem cat_size (a b : ByteArray) : (a ++ b).size = a.size + b.size := by simp

theorem v25_eq (κ : Nat) (w : List ApiStep) (n i : Int) (x : ApiStep) (acc : List Int) : path_Show.v25 κ w n i x.name x.key acc = some (w, n, i, badS x, x.name, x.key, acc) := by
  unfold path_Show.v25 badS
  simp only [ident, Option.bind_some]
  cases idn x.name
  · rfl
  · cases seq x.key B0 <;> simp only [Bool.not_true, Bool.not_false, bif_f, bif_t, Bool.false_or, Bool.true_and, Bool.false_and] <;> rfl
theorem v27_eq (κ : Nat) (w : List ApiStep) (n i : Int) (x : ApiStep) (acc : List UInt8) (hb : badS x = false) (hacc : acc.length ≤ 1000) :
    path_Show.v27 κ w n i (!(seq x.key B0)) x.name x.key (ints acc) = some (w, n, i, ints (acc ++ key1 x)) := by
  unfold path_Show.v27 key1
  cases hk : seq x.key B0
  · have hi : idn x.key = true := (badS_no hb).2 hk
    have hs := idn_size hi
    have s1 : (ByteArray.mk (List.toArray [(91 : UInt8)])).size = 1 := rfl
    have s2 : (ByteArray.mk (List.toArray [(93 : UInt8)])).size = 1 := rfl
    simp only [Bool.not_false, bif_t, bif_f, cat_size, s1, s2]
    rw [maxI_ok _ (by omega), bif_t, maxI_ok _ (by omega), bif_t, write2 _ _ (by simp only [cat_size, s1, s2]; omega)]
    simp only [Option.bind_some, cat_list]
    simp
  · simp
theorem v24_eq (κ : Nat) (w : List ApiStep) (n : Int) (i : Nat) (x : ApiStep) (hx : w[i]? = some x) (acc : List UInt8) (hacc : acc.length ≤ 900) :
    path_Show.v24 κ w n (i : Int) (ints acc) = some (bif badS x then .inr B0 else .inl (w, n, (i : Int), ints (acc ++ txt1 x))) := by
  unfold path_Show.v24
  rw [show decide ((0 : Int) ≤ (i : Int)) = true from by simp]
  simp only [bif_t, Int.toNat_natCast, hx, Option.bind_some, v25_eq]
  cases hb : badS x
  · have hi : idn x.name = true := (badS_no hb).1
    have hs := idn_size hi
    have s1 : (ByteArray.mk (List.toArray [(47 : UInt8)])).size = 1 := rfl
    simp only [bif_f, s1]
    rw [maxI_ok _ (by omega), bif_t, write3 _ _ (by simp only [cat_size, s1]; omega)]
    simp only [Option.bind_some]
    have := v27_eq κ w n (i : Int) x (acc ++ (ByteArray.mk (List.toArray [(47 : UInt8)]) ++ x.name).data.toList) hb (by rw [List.length_append, ← ba_size, cat_size, s1]; omega)
    rw [this]
    simp only [Option.bind_some, cat_list]
    simp [txt1]
  · rfl
theorem v29_eq (κ : Nat) (w : List ApiStep) (n : Int) (i : Nat) (x : ApiStep) (hx : w[i]? = some x) (acc : List UInt8) (hacc : acc.length ≤ 900) :
    path_Show.v29 κ w n (i : Int) (ints acc) = some (bif badS x then .inr B0 else .inl (w, n, (i : Int), ints (acc ++ txt1 x))) := by
  have : path_Show.v29 κ w n (i : Int) (ints acc) = path_Show.v24 κ w n (i : Int) (ints acc) := rfl
  rw [this]; exact v24_eq κ w n i x hx acc hacc
theorem txt1_len {x : ApiStep} (hb : badS x = false) : (txt1 x).length ≤ 30 := by
  have hi : idn x.name = true := (badS_no hb).1
  have hs := idn_size hi
  unfold txt1 key1
  cases hk : seq x.key B0
  · have hi : idn x.key = true := (badS_no hb).2 hk
    have hs2 := idn_size hi
    simp; omega
  · simp; omega

def endsS (w : List ApiStep) (acc : List UInt8) : Option (List UInt8) := bif w.any badS then none else some (acc ++ txt w)
def isEnd (o : Option ((List Int) ⊕ (ByteArray ⊕ (List Int)))) : Option (List UInt8) → Prop
  | none => o = some (.inr (.inl B0))
  | some l => o = some (.inl (ints l)) ∨ o = some (.inr (.inr (ints l)))
theorem show_loop (κ : Nat) (w : List ApiStep) (hw : w.length ≤ 6) : ∀ (d i K : Nat) (acc : List UInt8), w.length = i + d → acc.length ≤ 30 * i → d < K →
    isEnd (path_Show.l23 κ K (.inl (w, ((w.length : Nat) : Int), (i : Int), ints acc))) (endsS (w.drop i) acc) ∧ isEnd (path_Show.l23 κ K (.inr (w, ((w.length : Nat) : Int), (i : Int), ints acc))) (endsS (w.drop i) acc)
  | d, i, 0, acc, _, _, h => by omega
  | 0, i, K + 1, acc, hd, ha, _ => by
    have hn : w.drop i = [] := List.drop_eq_nil_of_le (by omega)
    rw [hn]
    unfold path_Show.l23 path_Show.w23 path_Show.w23_1 endsS
    rw [show decide ((i : Int) < ((w.length : Nat) : Int)) = false from by simp; omega]
    simp only [List.any_nil, bif_f, txt, List.flatMap_nil, List.append_nil]
    exact ⟨.inl rfl, .inr rfl⟩
  | d + 1, i, K + 1, acc, hd, ha, hk => by
    have hlt : i < w.length := by omega
    have hx : w[i]? = some w[i] := List.getElem?_eq_getElem hlt
    rw [List.drop_eq_getElem_cons hlt]
    unfold path_Show.l23 path_Show.w23 path_Show.w23_1
    rw [show decide ((i : Int) < ((w.length : Nat) : Int)) = true from by simp; omega]
    simp only [bif_t]
    rw [v24_eq κ w _ i _ hx acc (by omega), v29_eq κ w _ i _ hx acc (by omega)]
    unfold endsS
    cases hb : badS w[i]
    · have hl := txt1_len hb
      have ih := (show_loop κ w hw d (i + 1) K (acc ++ txt1 w[i]) (by omega) (by rw [List.length_append]; omega) (by omega)).2
      simp only [bif_f, Option.bind_some, List.any_cons, hb, Bool.false_or]
      rw [wrap_in _ (by omega) (by omega), show ((i : Int) + 1) = ((i + 1 : Nat) : Int) from by omega]
      have he : endsS (w.drop (i + 1)) (acc ++ txt1 w[i]) = bif (w.drop (i + 1)).any badS then none else some (acc ++ txt (w[i] :: w.drop (i + 1))) := by
        unfold endsS txt; simp only [List.flatMap_cons, List.append_assoc]
      rw [he] at ih
      exact ⟨ih, ih⟩
    · simp only [bif_t, Option.bind_some, List.any_cons, hb, Bool.true_or]
      exact ⟨rfl, rfl⟩

/-- What path.Show tells. -/
def showV (w : List ApiStep) : ByteArray := if w.length = 0 then ⟨⟨[47]⟩⟩ else if w.length > 6 then B0 else bif w.any badS then B0 else ⟨⟨txt w⟩⟩
theorem txt_len : ∀ {w : List ApiStep}, w.any badS = false → (txt w).length ≤ 30 * w.length
  | [], _ => by simp [txt]
  | x :: l, h => by
    simp only [List.any_cons, Bool.or_eq_false_iff] at h
    have h1 := txt1_len h.1
    have h2 := txt_len h.2
    unfold txt at h2 ⊢
    simp only [List.flatMap_cons, List.length_append, List.length_cons]
    omega
theorem show_eq (κ : Nat) (hκ : 10 ≤ κ) (w : List ApiStep) : path_Show κ w = some (showV w) := by
  unfold path_Show showV
  by_cases h0 : w.length = 0
  · rw [if_pos h0, h0]; rfl
  · rw [if_neg h0, show (((w.length : Nat) : Int) == 0) = false from beq_eq_false_iff_ne.2 (by omega)]
    simp only [bif_f]
    by_cases h6 : w.length > 6
    · rw [if_pos h6, show decide (((w.length : Nat) : Int) > 6) = true from by simp; omega]; rfl
    · have h6' : w.length ≤ 6 := Nat.le_of_not_gt h6
      rw [if_neg h6, show decide (((w.length : Nat) : Int) > 6) = false from decide_eq_false (by omega)]
      simp only [bif_f]
      have h := (show_loop κ w h6' w.length 0 κ [] (by omega) (by simp) (by omega)).1
      simp only [List.drop_zero, Int.natCast_zero] at h
      have e0 : ints [] = [] := rfl
      rw [e0] at h
      unfold endsS at h
      cases hb : w.any badS
      · rw [hb] at h
        simp only [bif_f, List.nil_append] at h ⊢
        have hl := txt_len hb
        rcases h with h | h
        · rw [h]
          simp only [Option.bind_some]
          unfold strings_Builder_String
          rw [ints_len, maxI_ok _ (by omega), bytes_ints]; simp
        · rw [h]
          simp only [Option.bind_some]
          unfold strings_Builder_String_2
          rw [ints_len, maxI_ok _ (by omega), bytes_ints]; simp
      · rw [hb] at h
        have h : path_Show.l23 κ κ _ = _ := h
        rw [h]; rfl
end Go.Proofs.YtooefkbecoopdaaDoor.Pa15


namespace Go.Proofs.YtooefkbecoopdaaDoor.Pa15
open Go Ev Ev.Seat

theorem getLast_take {w : List ApiStep} (h : w ≠ []) : ∃ l x, w = l ++ [x] := ⟨w.dropLast, w.getLast h, (List.dropLast_concat_getLast h).symm⟩

theorem PathFronts_eq (κ : Nat) (hκ : 100 ≤ κ) (v : Int) (w : List ApiStep) : tollbarlaw15_PathFronts κ v w = some true := by
  unfold tollbarlaw15_PathFronts
  rw [awake_eq hκ]
  simp only [Option.bind_some, Bool.not_true, bif_f, tollbarlaw15_PathFronts.v0]
  by_cases h0 : w.length = 0
  · rw [show (((w.length : Nat) : Int) == 0) = true from by rw [h0]; rfl]
    rfl
  · rw [show (((w.length : Nat) : Int) == 0) = false from beq_eq_false_iff_ne.2 (by omega)]
    simp only [bif_f, Option.bind_some]
    by_cases h20 : w.length > 20
    · rw [show decide (((w.length : Nat) : Int) > 20) = true from decide_eq_true (by omega)]
      rfl
    · have h20' : w.length ≤ 20 := Nat.le_of_not_gt h20
      rw [show decide (((w.length : Nat) : Int) > 20) = false from decide_eq_false (by omega)]
      simp only [bif_f]
      obtain ⟨l, x, rfl⟩ := getLast_take (w := w) (fun h => h0 (by rw [h]; rfl))
      have hl : (l ++ [x]).length = l.length + 1 := by simp
      have hn : IntKind.wrap IntKind.i64 ((((l ++ [x]).length : Nat) : Int) - 1) = (l.length : Int) := by
        rw [wrap_in _ (by omega) (by omega)]; omega
      rw [hn]
      rw [show decide ((0 : Int) ≤ (l.length : Int)) = true from decide_eq_true (by omega), show decide ((l.length : Int) ≤ (((l ++ [x]).length : Nat) : Int)) = true from decide_eq_true (by omega)]
      simp only [Int.le_refl, decide_true, Bool.and_self, bif_t, Int.toNat_natCast, Int.toNat_zero, List.drop_zero, List.take_left]
      rw [at_eq κ (by omega) v l (by omega) (by omega), at_eq κ (by omega) v (l ++ [x]) (by omega) (by omega)]
      simp only [Option.bind_some, tup]
      have hx : (l ++ [x])[l.length]? = some x := by simp
      cases hr : rootOf v with
      | none =>
        have e1 : ∀ q, atV v q = (specZero, 28) := fun q => by unfold atV; rw [hr]
        rw [e1, e1]
        rfl
      | some r =>
        have hrs := rootOf_sub hr
        cases ha : atW r l with
        | inr e =>
          have e1 : atV v l = (specZero, e) := by unfold atV; rw [hr]; simp only [ha]
          have e2 : atV v (l ++ [x]) = (specZero, e) := by unfold atV; rw [hr]; simp only [atW_append, ha]
          rw [e1, e2]
          rcases atW_err ha with rfl | rfl <;> rfl
        | inl a =>
          have e1 : atV v l = (a, 0) := by unfold atV; rw [hr]; simp only [ha]
          have has := atW_sub hrs ha
          have e2 : atV v (l ++ [x]) = match atW a [x] with | .inl t => (t, 0) | .inr e => (specZero, e) := by unfold atV; rw [hr]; simp only [atW_append, ha]; all_goals (cases atW a [x] <;> rfl)
          rw [e1, e2]
          simp only [show ((0 : Int) != 0) = false from rfl, bif_f, hx, Option.bind_some, find_eq κ _ a.kids (by have := sub_few has; omega) (by have := sub_few has; omega), atW]
          cases hf : fndL x.name a.kids 0 with
          | none => rfl
          | some j =>
            obtain ⟨t, ht, hm⟩ := fnd_kid hf
            have hts := sub_kid has hm
            simp only [Option.bind_some, ht, show decide (((j : Nat) : Int) < 0) = false from decide_eq_false (by omega), show decide ((0 : Int) ≤ ((j : Nat) : Int)) = true from decide_eq_true (by omega), bif_t, bif_f, Int.toNat_natCast]
            cases hb : badK t x
            · -- it stands there
              simp only [bif_f, show ((0 : Int) == 0) = true from rfl, bif_t, tollbarlaw15_PathFronts.v4, show decide ((0 : Int) ≤ ((j : Nat) : Int)) = true from decide_eq_true (by omega), Int.toNat_natCast, ht, Option.bind_some, plain_eq hκ hts]
              have hs := same_eq hκ hts
              unfold same6 at hs
              simp only [fldS] at hs ⊢
              rw [hs]
              simp only [Option.bind_some, bif_t, show decide ((0 : Int) ≤ (l.length : Int)) = true from decide_eq_true (by omega), Int.toNat_natCast, hx]
              unfold badK at hb
              cases hk : t.kind == 3
              · rw [hk] at hb
                simp only [bif_f, Bool.not_eq_false'] at hb
                rw [hb]; rfl
              · rw [hk] at hb
                simp only [bif_t, Bool.not_eq_false'] at hb
                rw [idn_ne hb]; rfl
            · -- it doesn't
              simp only [bif_t, show ((23 : Int) == 0) = false from rfl, bif_f, tollbarlaw15_PathFronts.v6, show ((23 : Int) == 23) = true from rfl]
              cases hk : t.kind == 3
              · rfl
              · simp only [Bool.not_true, bif_f, show decide ((0 : Int) ≤ (l.length : Int)) = true from decide_eq_true (by omega), bif_t, Int.toNat_natCast, hx, Option.bind_some]
                cases hq : seq x.key B0
                · simp only [bif_f, show_eq κ (by omega), Option.bind_some]
                  have hbx : badS x = true := by
                    unfold badK at hb
                    rw [hk] at hb
                    simp only [bif_t, Bool.not_eq_true'] at hb
                    unfold badS; rw [hq, hb]; simp
                  have : showV (l ++ [x]) = B0 := by
                    unfold showV
                    rw [if_neg (by omega)]
                    split
                    · rfl
                    · rw [show (l ++ [x]).any badS = true from by simp [hbx]]; rfl
                  rw [this]; rfl
                · rfl
end Go.Proofs.YtooefkbecoopdaaDoor.Pa15
namespace Go.Proofs.YtooefkbecoopdaaDoor.Pa15
open Go Ev Ev.Seat
theorem PathFronts_row {n : Nat} {p : Prop} {wf : ApiStep → Prop} (v : Int) (hv : p) (w : List ApiStep) (hw : WfL n wf w) : tollbarlaw15_PathFronts 1000 v w = some true := PathFronts_eq 1000 (by decide) v w
end Go.Proofs.YtooefkbecoopdaaDoor.Pa15

