import Derived.Test.YtooefkbecoopdaaDoorEvPlain
import Derived.Lib.SlTrimSet
set_option linter.unusedVariables false
set_option linter.unusedSimpArgs false
namespace Go.Proofs.YtooefkbecoopdaaDoor.Pa15
open Go Ev Ev.Seat

theorem bif_t {α : Type} (a b : α) : (bif true then a else b) = a := rfl
theorem bif_f {α : Type} (a b : α) : (bif false then a else b) = b := rfl
theorem wrap_in (n : Int) (h0 : -9223372036854775808 ≤ n) (h1 : n ≤ 9223372036854775807) : IntKind.wrap IntKind.i64 n = n := by
  unfold IntKind.wrap
  simp [IntKind.bits, IntKind.signed]
  omega
abbrev B0 : ByteArray := ByteArray.mk (List.toArray [])
theorem seq_self (s : ByteArray) : seq s s = true := by simp [seq]

def idn (s : ByteArray) : Bool := (scalar_Ident 0 s).getD false
theorem ident_eq (κ : Nat) (s : ByteArray) : scalar_Ident κ s = some (idn s) ∧ (idn s = true → s.size ≤ 12 ∧ seq s B0 = false) := by
  have hk : scalar_Ident κ s = scalar_Ident 0 s := rfl
  rw [hk]
  suffices h : ∃ b, scalar_Ident 0 s = some b ∧ (b = true → s.size ≤ 12 ∧ seq s B0 = false) by
    obtain ⟨b, h1, h2⟩ := h
    have : idn s = b := by unfold idn; rw [h1]; rfl
    rw [this]; exact ⟨h1, h2⟩
  unfold scalar_Ident scalar_Ident.v0
  cases h0 : seq s (ByteArray.mk (List.toArray []))
  · simp only [Bool.not_false, bif_t]
    by_cases h1 : ((s.size : Nat) : Int) ≤ 12
    · simp only [h1, decide_true, bif_t]
      have hpos : (1 : Int) ≤ ((s.size : Nat) : Int) := by
        rcases Nat.eq_zero_or_pos s.size with h | h
        · exfalso
          have : s = ByteArray.mk (List.toArray []) := by
            cases s with
            | mk d => cases d with
              | mk l => cases l with
                | nil => rfl
                | cons a t => simp [ByteArray.size] at h
          rw [this] at h0
          simp [seq] at h0
        · omega
      simp only [hpos, decide_true, Int.le_refl, show (0 : Int) ≤ 1 from by decide, Bool.and_self, bif_t]
      generalize Lib.contains _ _ = c
      cases c
      · exact ⟨false, rfl, fun h => by cases h⟩
      · simp only [bif_t]
        unfold strings_Trim
        rw [show asciiB _ = true from by decide +kernel]
        have hsz : Nat.ble s.size maxI = true := Nat.ble_eq_true_of_le (by unfold maxI; omega)
        rw [hsz]
        refine ⟨_, rfl, fun _ => ⟨by omega, by first | exact h0 | trivial⟩⟩
    · simp only [h1, decide_false, bif_f]
      exact ⟨false, rfl, fun h => by cases h⟩
  · exact ⟨false, rfl, fun h => by cases h⟩
theorem ident (κ : Nat) (s : ByteArray) : scalar_Ident κ s = some (idn s) := (ident_eq κ s).1
theorem idn_size {s : ByteArray} (h : idn s = true) : s.size ≤ 12 := ((ident_eq 0 s).2 h).1
theorem idn_ne {s : ByteArray} (h : idn s = true) : seq s B0 = false := ((ident_eq 0 s).2 h).2

def fndL (n : ByteArray) : List SpecSpec → Nat → Option Nat
  | [], _ => none
  | x :: l, i => bif seq x.name n then some i else fndL n l (i + 1)
theorem fnd_some {n : ByteArray} : ∀ {l : List SpecSpec} {i j : Nat}, fndL n l i = some j → i ≤ j ∧ ∃ t, l[j - i]? = some t ∧ seq t.name n = true
  | [], _, _, h => by cases h
  | x :: l, i, j, h => by
    unfold fndL at h
    cases hs : seq x.name n
    · rw [hs] at h
      obtain ⟨h1, t, h2, h3⟩ := fnd_some h
      refine ⟨by omega, t, ?_, h3⟩
      have : j - i = (j - (i + 1)) + 1 := by omega
      rw [this]; simpa using h2
    · rw [hs] at h; cases h
      exact ⟨Nat.le_refl _, x, by simp, hs⟩

theorem idx_loop (κ : Nat) (n : ByteArray) (l : List SpecSpec) (hl : l.length < 1000000) : ∀ (d i K : Nat), l.length = i + d → d < K →
    slices_IndexFunc.l0 κ K (l, ((l.length : Nat) : Int), (i : Int), n) = some (match fndL n (l.drop i) i with | some j => .inr ((j : Int), n) | none => .inl n)
  | d, i, 0, _, h => by omega
  | 0, i, K + 1, hd, _ => by
    have hn : l.drop i = [] := List.drop_eq_nil_of_le (by omega)
    rw [hn]
    unfold slices_IndexFunc.l0 slices_IndexFunc.w0
    rw [show decide ((i : Int) < ((l.length : Nat) : Int)) = false from by simp; omega]
    rfl
  | d + 1, i, K + 1, hd, hk => by
    have hlt : i < l.length := by omega
    unfold slices_IndexFunc.l0 slices_IndexFunc.w0
    rw [show decide ((i : Int) < ((l.length : Nat) : Int)) = true from by simp; omega, show decide ((0 : Int) ≤ (i : Int)) = true from by simp]
    simp only [bif_t, Int.toNat_natCast, List.getElem?_eq_getElem hlt, Option.bind_some]
    rw [List.drop_eq_getElem_cons hlt]
    unfold fndL
    cases hs : seq l[i].name n
    · simp only [bif_f]
      rw [wrap_in _ (by omega) (by omega), show ((i : Int) + 1) = ((i + 1 : Nat) : Int) from by omega]
      exact idx_loop κ n l hl d (i + 1) K (by omega) (by omega)
    · rfl

theorem find_eq (κ : Nat) (n : ByteArray) (l : List SpecSpec) (hl : l.length < 1000000) (hκ : l.length < κ) (a0 : ByteArray) (a1 a2 a3 a4 : Int) (a5 : List ByteArray) (a6 : Bool) (a7 : Int) :
    spec_Find κ a0 a1 a2 a3 a4 a5 a6 a7 l n = some (match fndL n l 0 with | some j => (j : Int) | none => -1) := by
  have h := idx_loop κ n l hl l.length 0 κ (by omega) hκ
  simp only [List.drop_zero, Int.natCast_zero] at h
  unfold spec_Find slices_IndexFunc
  rw [h]
  cases fndL n l 0 <;> rfl
end Go.Proofs.YtooefkbecoopdaaDoor.Pa15


namespace Go.Proofs.YtooefkbecoopdaaDoor.Pa15
open Go Ev Ev.Seat

def lev0 : List SpecSpec := [specRoot1, specRoot2, specRoot3]
def kidsAll (l : List SpecSpec) : List SpecSpec := l.flatMap SpecSpec.kids
def lev1 : List SpecSpec := kidsAll lev0
def lev2 : List SpecSpec := kidsAll lev1
def lev3 : List SpecSpec := kidsAll lev2
/-- All that stands in a table, and nothing. -/
def subs : List SpecSpec := specZero :: (lev0 ++ (lev1 ++ (lev2 ++ lev3)))
theorem lev3_end : lev3.all (fun s => s.kids.isEmpty) = true := by kernel_rfl
theorem sub_kid {s t : SpecSpec} (hs : s ∈ subs) (ht : t ∈ s.kids) : t ∈ subs := by
  unfold subs at hs ⊢
  simp only [List.mem_cons, List.mem_append] at hs ⊢
  rcases hs with rfl | h | h | h | h
  · cases ht
  · exact .inr (.inr (.inl (List.mem_flatMap.2 ⟨s, h, ht⟩)))
  · exact .inr (.inr (.inr (.inl (List.mem_flatMap.2 ⟨s, h, ht⟩))))
  · exact .inr (.inr (.inr (.inr (List.mem_flatMap.2 ⟨s, h, ht⟩))))
  · have h1 := List.all_eq_true.1 lev3_end s h
    simp only [List.isEmpty_iff] at h1
    rw [h1] at ht; cases ht
theorem subs_few : subs.all (fun s => Nat.ble s.kids.length 10) = true := by kernel_rfl
theorem sub_few {s : SpecSpec} (hs : s ∈ subs) : s.kids.length ≤ 10 := Nat.le_of_ble_eq_true (List.all_eq_true.1 subs_few s hs)

def rootOf (v : Int) : Option SpecSpec := if v = 1 then some specRoot1 else if v = 2 then some specRoot2 else if v = 3 then some specRoot3 else none
theorem root_eq (v : Int) : spec_Root v = match rootOf v with | some s => some (s, 0) | none => some (specZero, 28) := by
  unfold spec_Root rootOf
  split
  · rfl
  · split
    · rfl
    · split <;> rfl
theorem rootOf_sub {v : Int} {s : SpecSpec} (h : rootOf v = some s) : s ∈ subs := by
  unfold rootOf at h
  unfold subs lev0
  split at h
  · cases h; simp
  · split at h
    · cases h; simp
    · split at h
      · cases h; simp
      · cases h

def badK (t : SpecSpec) (x : ApiStep) : Bool := bif t.kind == 3 then !(idn x.key) else !(seq x.key B0)
def atW (s : SpecSpec) : List ApiStep → Sum SpecSpec Int
  | [] => .inl s
  | x :: r => match (fndL x.name s.kids 0).bind fun j => s.kids[j]? with
    | none => .inr 22
    | some t => bif badK t x then .inr 23 else atW t r
theorem fnd_kid {s : SpecSpec} {n : ByteArray} {j : Nat} (h : fndL n s.kids 0 = some j) : ∃ t, s.kids[j]? = some t ∧ t ∈ s.kids := by
  obtain ⟨_, t, h2, _⟩ := fnd_some h
  exact ⟨t, h2, List.mem_of_getElem? h2⟩
theorem atW_sub : ∀ {l : List ApiStep} {s t : SpecSpec}, s ∈ subs → atW s l = .inl t → t ∈ subs
  | [], s, t, hs, h => by cases h; exact hs
  | y :: l, s, t, hs, h => by
    simp only [atW] at h
    split at h
    · cases h
    · rename_i u hu
      cases hb : badK u y
      · rw [hb] at h
        obtain ⟨j, hj, hk⟩ := Option.bind_eq_some_iff.1 hu
        exact atW_sub (sub_kid hs (List.mem_of_getElem? hk)) h
      · rw [hb] at h; cases h

def flds (s : SpecSpec) : ByteArray × Int × Int × Int × Int × List ByteArray × Bool × Int × List SpecSpec := (s.name, s.kind, s.type_, s.min, s.max, s.names, s.must, s.most, s.kids)

theorem at_loop (κ : Nat) (hκ : 20 ≤ κ) (w : List ApiStep) (hw : w.length < 1000000) (z0 : ByteArray) (z1 z2 z3 z4 : Int) (z5 : Bool) (z6 : Int) : ∀ (d i K : Nat) (s : SpecSpec), s ∈ subs → w.length = i + d → d < K →
    path_At.l2 κ K (w, ((w.length : Nat) : Int), (i : Int), z0, z1, z2, z3, z4, z5, z6, flds s) =
      some (match atW s (w.drop i) with | .inl t => .inl (z0, z1, z2, z3, z4, z5, z6, flds t) | .inr e => .inr (e, B0, 0, 0, 0, 0, false, 0))
  | d, i, 0, s, _, _, h => by omega
  | 0, i, K + 1, s, hs, hd, _ => by
    have hn : w.drop i = [] := List.drop_eq_nil_of_le (by omega)
    rw [hn]
    unfold flds path_At.l2 path_At.w2
    rw [show decide ((i : Int) < ((w.length : Nat) : Int)) = false from by simp; omega]
    rfl
  | d + 1, i, K + 1, s, hs, hd, hk => by
    have hlt : i < w.length := by omega
    unfold flds path_At.l2 path_At.w2
    rw [show decide ((i : Int) < ((w.length : Nat) : Int)) = true from by simp; omega, show decide ((0 : Int) ≤ (i : Int)) = true from by simp]
    have hfew := sub_few hs
    simp only [bif_t, Int.toNat_natCast, List.getElem?_eq_getElem hlt, Option.bind_some, find_eq κ _ s.kids (by omega) (by omega)]
    rw [List.drop_eq_getElem_cons hlt]
    simp only [atW]
    cases hf : fndL w[i].name s.kids 0 with
    | none => rfl
    | some j =>
      obtain ⟨t, ht, hm⟩ := fnd_kid hf
      simp only [Option.bind_some, ht, show decide (((j : Nat) : Int) < 0) = false from by simp, show decide ((0 : Int) ≤ ((j : Nat) : Int)) = true from by simp, bif_t, bif_f, Int.toNat_natCast]
      have hv : path_At.v3 κ (t.kind == 3) w ((w.length : Nat) : Int) (i : Int) z0 z1 z2 z3 z4 z5 z6 t.name t.kind t.type_ t.min t.max t.names t.must t.most t.kids w[i].name w[i].key
          = some (w, ((w.length : Nat) : Int), (i : Int), badK t w[i], z0, z1, z2, z3, z4, z5, z6, flds t) := by
        unfold path_At.v3 badK flds
        cases t.kind == 3
        · rfl
        · simp only [bif_t, ident, Option.bind_some]
          cases idn w[i].key <;> rfl
      rw [hv]
      simp only [Option.bind_some]
      cases badK t w[i]
      · simp only [bif_f]
        rw [wrap_in _ (by omega) (by omega), show ((i : Int) + 1) = ((i + 1 : Nat) : Int) from by omega]
        exact at_loop κ hκ w hw z0 z1 z2 z3 z4 z5 z6 d (i + 1) K t (sub_kid hs hm) (by omega) (by omega)
      · rfl

/-- What path.At tells. -/
def atV (v : Int) (w : List ApiStep) : SpecSpec × Int := match rootOf v with
  | none => (specZero, 28)
  | some r => match atW r w with | .inl t => (t, 0) | .inr e => (specZero, e)
def tup (x : SpecSpec × Int) : ByteArray × Int × Int × Int × Int × List ByteArray × Bool × Int × List SpecSpec × Int := (x.1.name, x.1.kind, x.1.type_, x.1.min, x.1.max, x.1.names, x.1.must, x.1.most, x.1.kids, x.2)
theorem at_eq (κ : Nat) (hκ : 20 ≤ κ) (v : Int) (w : List ApiStep) (hw : w.length < κ) (hw' : w.length < 1000000) : path_At κ v w = some (tup (atV v w)) := by
  unfold path_At atV
  rw [root_eq]
  cases hr : rootOf v with
  | none => rfl
  | some r =>
    simp only [Option.bind_some, show ((0 : Int) != 0) = false from rfl, bif_f]
    have h := at_loop κ hκ w hw' B0 0 0 0 0 false 0 w.length 0 κ r (rootOf_sub hr) (by omega) hw
    simp only [List.drop_zero, Int.natCast_zero] at h
    unfold flds at h
    rw [h]
    cases atW r w with
    | inl t => rfl
    | inr e => rfl
end Go.Proofs.YtooefkbecoopdaaDoor.Pa15


namespace Go.Proofs.YtooefkbecoopdaaDoor.Pa15
open Go Ev Ev.Seat

mutual
def toS : SpecSpec → Tollbarref07S
  | ⟨n, k, t, mi, ma, ns, mu, mo, ks⟩ => ⟨n, k, t, mi, ma, ns, mu, mo, toL ks⟩
def toL : List SpecSpec → List Tollbarref07S
  | [] => []
  | s :: l => toS s :: toL l
end
def fldS (s : Tollbarref07S) : ByteArray × Int × Int × Int × Int × List ByteArray × Bool × Int × List Tollbarref07S := (s.name, s.kind, s.type_, s.min, s.max, s.names, s.must, s.most, s.kids)
theorem plain_all (k : Nat) : subs.map (fun s => tollbarlaw15_plain_4 (k + 100) s.name s.kind s.type_ s.min s.max s.names s.must s.most s.kids) = subs.map fun s => some (.inr (fldS (toS s))) := by kernel_rfl
theorem plain_eq {κ : Nat} (hκ : 100 ≤ κ) {s : SpecSpec} (hs : s ∈ subs) : tollbarlaw15_plain_4 κ s.name s.kind s.type_ s.min s.max s.names s.must s.most s.kids = some (.inr (fldS (toS s))) := by
  obtain ⟨k, rfl⟩ : ∃ k, κ = k + 100 := ⟨κ - 100, by omega⟩
  exact List.map_inj_left.1 (plain_all k) s hs
def same6 (κ : Nat) (a b : Tollbarref07S) : Option Bool := tollbarref07_Same_6 κ a.name a.kind a.type_ a.min a.max a.names a.must a.most a.kids b.name b.kind b.type_ b.min b.max b.names b.must b.most b.kids
theorem same_all (k : Nat) : subs.map (fun s => same6 (k + 100) (toS s) (toS s)) = subs.map fun s => some true := by kernel_rfl
theorem same_eq {κ : Nat} (hκ : 100 ≤ κ) {s : SpecSpec} (hs : s ∈ subs) : same6 κ (toS s) (toS s) = some true := by
  obtain ⟨k, rfl⟩ : ∃ k, κ = k + 100 := ⟨κ - 100, by omega⟩
  exact List.map_inj_left.1 (same_all k) s hs
theorem awake_all (k : Nat) : tollbarlaw15_awake (k + 100) = some true := by kernel_rfl
theorem awake_eq {κ : Nat} (hκ : 100 ≤ κ) : tollbarlaw15_awake κ = some true := by
  obtain ⟨k, rfl⟩ : ∃ k, κ = k + 100 := ⟨κ - 100, by omega⟩
  exact awake_all k

def badS (x : ApiStep) : Bool := !(idn x.name) || (!(seq x.key B0) && !(idn x.key))
def key1 (x : ApiStep) : List UInt8 := bif seq x.key B0 then [] else 91 :: (x.key.data.toList ++ [93])
def txt1 (x : ApiStep) : List UInt8 := 47 :: (x.name.data.toList ++ key1 x)
def txt (w : List ApiStep) : List UInt8 := w.flatMap txt1
def ints (l : List UInt8) : List Int := l.map fun b => ((b.toNat : Nat) : Int)
theorem ints_append (a b : List UInt8) : ints a ++ ints b = ints (a ++ b) := by simp [ints]
theorem ints_len (a : List UInt8) : (ints a).length = a.length := by simp [ints]
theorem bytes_ints (l : List UInt8) : bytesOfA C (ints l) = ⟨⟨l⟩⟩ := by
  unfold bytesOfA
  congr 2
  show List.map (fun x : Int => UInt8.ofNat x.toNat) (ints l) = l
  unfold ints
  rw [List.map_map]
  conv => rhs; rw [← List.map_id l]
  apply List.map_congr_left
  intro b _
  simp
theorem room_ok (n : Nat) (h : n ≤ 3000000) : Nat.ble n (room (0 + 1)) = true := by
  rw [Nat.ble_eq]; exact Nat.le_trans h (by decide)
theorem maxI_ok (n : Nat) (h : n ≤ 3000000) : Nat.ble n maxI = true := by
  rw [Nat.ble_eq]; exact Nat.le_trans h (by decide)
theorem ba_size (s : ByteArray) : s.size = s.data.toList.length := rfl
theorem badS_no {x : ApiStep} (hb : badS x = false) : idn x.name = true ∧ (seq x.key B0 = false → idn x.key = true) := by
  unfold badS at hb
  cases h : idn x.name
  · rw [h] at hb; simp at hb
  · refine ⟨rfl, fun hk => ?_⟩
    rw [h, hk] at hb
    cases h2 : idn x.key
    · rw [h2] at hb; simp at hb
    · rfl
theorem write2 {κ : Nat} (a : ByteArray) (acc : List UInt8) (h : acc.length + a.size ≤ 3000000) : strings_Builder_WriteString_2 κ a (ints acc) = some (((a.size : Nat) : Int), ints (acc ++ a.data.toList)) := by
  unfold strings_Builder_WriteString_2
  have e : List.map (fun b : UInt8 => ((UInt8.toNat b : Nat) : Int)) a.data.toList = ints a.data.toList := rfl
  rw [e, ints_len, ints_len, ← ba_size, room_ok _ h, bif_t, ints_append]
theorem write3 {κ : Nat} (a : ByteArray) (acc : List UInt8) (h : acc.length + a.size ≤ 3000000) : strings_Builder_WriteString_3 κ a (ints acc) = some (((a.size : Nat) : Int), ints (acc ++ a.data.toList)) := by
  unfold strings_Builder_WriteString_3
  have e : List.map (fun b : UInt8 => ((UInt8.toNat b : Nat) : Int)) a.data.toList = ints a.data.toList := rfl
  rw [e, ints_len, ints_len, ← ba_size, room_ok _ h, bif_t, ints_append]
theorem cat_list (a b : ByteArray) : (a ++ b).data.toList = a.data.toList ++ b.data.toList := by simp
theorem cat_size (a b : ByteArray) : (a ++ b).size = a.size + b.size := by simp

theorem v25_eq (κ : Nat) (w : List ApiStep) (n i : Int) (x : ApiStep) (acc : List Int) : path_Show.v25 κ w n i x.name x.key acc = some (w, n, i, badS x, x.name, x.key, acc) := by
  unfold path_Show.v25 badS
  simp only [ident, Option.bind_some]
  cases idn x.name
  · rfl
  · cases seq x.key B0 <;> simp only [Bool.not_true, Bool.not_false, bif_f, bif_t, Bool.false_or, Bool.true_and, Bool.false_and] <;> rfl
theorem v27_eq (κ : Nat) (w : List ApiStep) (n i : Int) (x : ApiStep) (acc : List UInt8) (hb : badS x = false) (hacc : acc.length ≤ 1000) :
    path_Show.v27 κ w n i (!(seq x.key B0)) x.name x.key (ints acc) = some (w, n, i, ints (acc ++ key1 x)) := by
  unfold path_Show.v27 key1
  cases hk : seq x.key B0
  · have hi : idn x.key = true := (badS_no hb).2 hk
    have hs := idn_size hi
    have s1 : (ByteArray.mk (List.toArray [(91 : UInt8)])).size = 1 := rfl
    have s2 : (ByteArray.mk (List.toArray [(93 : UInt8)])).size = 1 := rfl
    simp only [Bool.not_false, bif_t, bif_f, cat_size, s1, s2]
    rw [maxI_ok _ (by omega), bif_t, maxI_ok _ (by omega), bif_t, write2 _ _ (by simp only [cat_size, s1, s2]; omega)]
    simp only [Option.bind_some, cat_list]
    simp
  · simp
theorem v24_eq (κ : Nat) (w : List ApiStep) (n : Int) (i : Nat) (x : ApiStep) (hx : w[i]? = some x) (acc : List UInt8) (hacc : acc.length ≤ 900) :
    path_Show.v24 κ w n (i : Int) (ints acc) = some (bif badS x then .inr B0 else .inl (w, n, (i : Int), ints (acc ++ txt1 x))) := by
  unfold path_Show.v24
  rw [show decide ((0 : Int) ≤ (i : Int)) = true from by simp]
  simp only [bif_t, Int.toNat_natCast, hx, Option.bind_some, v25_eq]
  cases hb : badS x
  · have hi : idn x.name = true := (badS_no hb).1
    have hs := idn_size hi
    have s1 : (ByteArray.mk (List.toArray [(47 : UInt8)])).size = 1 := rfl
    simp only [bif_f, s1]
    rw [maxI_ok _ (by omega), bif_t, write3 _ _ (by simp only [cat_size, s1]; omega)]
    simp only [Option.bind_some]
    have := v27_eq κ w n (i : Int) x (acc ++ (ByteArray.mk (List.toArray [(47 : UInt8)]) ++ x.name).data.toList) hb (by rw [List.length_append, ← ba_size, cat_size, s1]; omega)
    rw [this]
    simp only [Option.bind_some, cat_list]
    simp [txt1]
  · rfl
theorem v29_eq (κ : Nat) (w : List ApiStep) (n : Int) (i : Nat) (x : ApiStep) (hx : w[i]? = some x) (acc : List UInt8) (hacc : acc.length ≤ 900) :
    path_Show.v29 κ w n (i : Int) (ints acc) = some (bif badS x then .inr B0 else .inl (w, n, (i : Int), ints (acc ++ txt1 x))) := by
  have : path_Show.v29 κ w n (i : Int) (ints acc) = path_Show.v24 κ w n (i : Int) (ints acc) := rfl
  rw [this]; exact v24_eq κ w n i x hx acc hacc
theorem txt1_len {x : ApiStep} (hb : badS x = false) : (txt1 x).length ≤ 30 := by
  have hi : idn x.name = true := (badS_no hb).1
  have hs := idn_size hi
  unfold txt1 key1
  cases hk : seq x.key B0
  · have hi : idn x.key = true := (badS_no hb).2 hk
    have hs2 := idn_size hi
    simp; omega
  · simp; omega

def endsS (w : List ApiStep) (acc : List UInt8) : Option (List UInt8) := bif w.any badS then none else some (acc ++ txt w)
def isEnd (o : Option ((List Int) ⊕ (ByteArray ⊕ (List Int)))) : Option (List UInt8) → Prop
  | none => o = some (.inr (.inl B0))
  | some l => o = some (.inl (ints l)) ∨ o = some (.inr (.inr (ints l)))
theorem show_loop (κ : Nat) (w : List ApiStep) (hw : w.length ≤ 6) : ∀ (d i K : Nat) (acc : List UInt8), w.length = i + d → acc.length ≤ 30 * i → d < K →
    isEnd (path_Show.l23 κ K (.inl (w, ((w.length : Nat) : Int), (i : Int), ints acc))) (endsS (w.drop i) acc) ∧ isEnd (path_Show.l23 κ K (.inr (w, ((w.length : Nat) : Int), (i : Int), ints acc))) (endsS (w.drop i) acc)
  | d, i, 0, acc, _, _, h => by omega
  | 0, i, K + 1, acc, hd, ha, _ => by
    have hn : w.drop i = [] := List.drop_eq_nil_of_le (by omega)
    rw [hn]
    unfold path_Show.l23 path_Show.w23 path_Show.w23_1 endsS
    rw [show decide ((i : Int) < ((w.length : Nat) : Int)) = false from by simp; omega]
    simp only [List.any_nil, bif_f, txt, List.flatMap_nil, List.append_nil]
    exact ⟨.inl rfl, .inr rfl⟩
  | d + 1, i, K + 1, acc, hd, ha, hk => by
    have hlt : i < w.length := by omega
    have hx : w[i]? = some w[i] := List.getElem?_eq_getElem hlt
    rw [List.drop_eq_getElem_cons hlt]
    unfold path_Show.l23 path_Show.w23 path_Show.w23_1
    rw [show decide ((i : Int) < ((w.length : Nat) : Int)) = true from by simp; omega]
    simp only [bif_t]
    rw [v24_eq κ w _ i _ hx acc (by omega), v29_eq κ w _ i _ hx acc (by omega)]
    unfold endsS
    cases hb : badS w[i]
    · have hl := txt1_len hb
      have ih := (show_loop κ w hw d (i + 1) K (acc ++ txt1 w[i]) (by omega) (by rw [List.length_append]; omega) (by omega)).2
      simp only [bif_f, Option.bind_some, List.any_cons, hb, Bool.false_or]
      rw [wrap_in _ (by omega) (by omega), show ((i : Int) + 1) = ((i + 1 : Nat) : Int) from by omega]
      have he : endsS (w.drop (i + 1)) (acc ++ txt1 w[i]) = bif (w.drop (i + 1)).any badS then none else some (acc ++ txt (w[i] :: w.drop (i + 1))) := by
        unfold endsS txt; simp only [List.flatMap_cons, List.append_assoc]
      rw [he] at ih
      exact ⟨ih, ih⟩
    · simp only [bif_t, Option.bind_some, List.any_cons, hb, Bool.true_or]
      exact ⟨rfl, rfl⟩

/-- What path.Show tells. -/
def showV (w : List ApiStep) : ByteArray := if w.length = 0 then ⟨⟨[47]⟩⟩ else if w.length > 6 then B0 else bif w.any badS then B0 else ⟨⟨txt w⟩⟩
theorem txt_len : ∀ {w : List ApiStep}, w.any badS = false → (txt w).length ≤ 30 * w.length
  | [], _ => by simp [txt]
  | x :: l, h => by
    simp only [List.any_cons, Bool.or_eq_false_iff] at h
    have h1 := txt1_len h.1
    have h2 := txt_len h.2
    unfold txt at h2 ⊢
    simp only [List.flatMap_cons, List.length_append, List.length_cons]
    omega
theorem show_eq (κ : Nat) (hκ : 10 ≤ κ) (w : List ApiStep) : path_Show κ w = some (showV w) := by
  unfold path_Show showV
  by_cases h0 : w.length = 0
  · rw [if_pos h0, h0]; rfl
  · rw [if_neg h0, show (((w.length : Nat) : Int) == 0) = false from beq_eq_false_iff_ne.2 (by omega)]
    simp only [bif_f]
    by_cases h6 : w.length > 6
    · rw [if_pos h6, show decide (((w.length : Nat) : Int) > 6) = true from by simp; omega]; rfl
    · have h6' : w.length ≤ 6 := Nat.le_of_not_gt h6
      rw [if_neg h6, show decide (((w.length : Nat) : Int) > 6) = false from decide_eq_false (by omega)]
      simp only [bif_f]
      have h := (show_loop κ w h6' w.length 0 κ [] (by omega) (by simp) (by omega)).1
      simp only [List.drop_zero, Int.natCast_zero] at h
      have e0 : ints [] = [] := rfl
      rw [e0] at h
      unfold endsS at h
      cases hb : w.any badS
      · rw [hb] at h
        simp only [bif_f, List.nil_append] at h ⊢
        have hl := txt_len hb
        rcases h with h | h
        · rw [h]
          simp only [Option.bind_some]
          unfold strings_Builder_String
          rw [ints_len, maxI_ok _ (by omega), bytes_ints]; simp
        · rw [h]
          simp only [Option.bind_some]
          unfold strings_Builder_String_2
          rw [ints_len, maxI_ok _ (by omega), bytes_ints]; simp
      · rw [hb] at h
        have h : path_Show.l23 κ κ _ = _ := h
        rw [h]; rfl
end Go.Proofs.YtooefkbecoopdaaDoor.Pa15


namespace Go.Proofs.YtooefkbecoopdaaDoor.Pa15
open Go Ev Ev.Seat

end Go.Proofs.YtooefkbecoopdaaDoor.Pa15
namespace Go.Proofs.YtooefkbecoopdaaDoor.Pa15
open Go Ev Ev.Seat
end Go.Proofs.YtooefkbecoopdaaDoor.Pa15


namespace Go.Proofs.YtooefkbecoopdaaDoor.Pa15
open Go Ev Ev.Seat Go.Lib

theorem mk_data (s : ByteArray) : (⟨s.data.toList.toArray⟩ : ByteArray) = s := by simp
theorem as_list (s : ByteArray) : ∃ l : List UInt8, s = ⟨l.toArray⟩ := ⟨s.data.toList, (mk_data s).symm⟩
theorem data_of (l : List UInt8) : (⟨l.toArray⟩ : ByteArray).data.toList = l := by simp
theorem sized (l : List UInt8) : (⟨l.toArray⟩ : ByteArray).size = l.length := by show l.toArray.size = _; simp
theorem seq_mk (a b : List UInt8) : seq ⟨a.toArray⟩ ⟨b.toArray⟩ = decide (a = b) := by
  unfold seq
  rw [data_of, data_of]; exact Bool.eq_iff_iff.2 (by simp)
theorem seq_B0 (a : List UInt8) : seq ⟨a.toArray⟩ B0 = decide (a = []) := seq_mk a []
theorem ext_mid (l : List UInt8) (a b : Nat) : (⟨l.toArray⟩ : ByteArray).extract a b = ⟨((l.drop a).take (b - a)).toArray⟩ := by
  rw [← mk_data ((⟨l.toArray⟩ : ByteArray).extract a b)]
  congr 2
  rw [← Lib.toList_data, Lib.extract_toList]

def small (c : UInt8) : Bool := decide (97 ≤ c.toNat ∧ c.toNat ≤ 122)
def okc (c : UInt8) : Bool := decide ((97 ≤ c.toNat ∧ c.toNat ≤ 122) ∨ c.toNat = 45 ∨ (48 ≤ c.toNat ∧ c.toNat ≤ 57))
def idB : List UInt8 → Bool
  | [] => false
  | c :: r => small c && r.all okc && decide (r.length < 12)
def smalls : List UInt8 := [97, 98, 99, 100, 101, 102, 103, 104, 105, 106, 107, 108, 109, 110, 111, 112, 113, 114, 115, 116, 117, 118, 119, 120, 121, 122]
def oks : List UInt8 := [97, 98, 99, 100, 101, 102, 103, 104, 105, 106, 107, 108, 109, 110, 111, 112, 113, 114, 115, 116, 117, 118, 119, 120, 121, 122, 48, 49, 50, 51, 52, 53, 54, 55, 56, 57, 45]
theorem ok_all : ∀ n : Fin 256, oks.contains (UInt8.ofNat n.val) = okc (UInt8.ofNat n.val) := by decide +kernel
theorem of_nat (c : UInt8) : UInt8.ofNat c.toNat = c := by simp
theorem ok_eq (c : UInt8) : oks.contains c = okc c := by
  have := ok_all ⟨c.toNat, c.toNat_lt⟩
  simpa only [of_nat] using this
theorem dropWhile_nil {p : UInt8 → Bool} : ∀ (l : List UInt8), (l.dropWhile p = []) ↔ l.all p = true
  | [] => by simp
  | c :: l => by
    rw [List.dropWhile_cons, List.all_cons]
    cases hc : p c
    · simp
    · simpa using dropWhile_nil l
theorem trim_nil (l : List UInt8) : (trimS l oks = []) ↔ l.all okc = true := by
  have e : (fun c => oks.contains c) = okc := funext ok_eq
  unfold trimS trimLeftS trimRightS
  rw [e, dropWhile_nil]
  constructor
  · intro h
    by_cases ha : l.all okc = true
    · exact ha
    · exfalso
      have h1 : l.reverse.dropWhile okc ≠ [] := fun z => ha (by have := (dropWhile_nil _).1 z; rwa [List.all_reverse] at this)
      obtain ⟨c, r, hcr⟩ := List.exists_cons_of_ne_nil h1
      have h2 : okc c = false := by
        have := List.head?_dropWhile_not okc l.reverse
        rw [hcr] at this
        simpa using this
      rw [hcr] at h
      simp [h2] at h
  · intro h
    have : l.reverse.dropWhile okc = [] := (dropWhile_nil _).2 (by rwa [List.all_reverse])
    rw [this]; rfl
theorem small_ok {c : UInt8} (h : small c = true) : okc c = true := by
  unfold small at h; unfold okc
  simp only [decide_eq_true_eq] at h ⊢
  exact .inl h
theorem con_all : ∀ n : Fin 256, Lib.contains smalls [UInt8.ofNat n.val] = small (UInt8.ofNat n.val) := by decide +kernel
theorem con_one (c : UInt8) : Lib.contains smalls [c] = small c := by
  have := con_all ⟨c.toNat, c.toNat_lt⟩
  simpa only [of_nat] using this
theorem idn_eq (l : List UInt8) : idn ⟨l.toArray⟩ = idB l := by
  have h := ident 0 ⟨l.toArray⟩
  unfold scalar_Ident scalar_Ident.v0 at h
  rw [show seq (⟨l.toArray⟩ : ByteArray) (ByteArray.mk (List.toArray [])) = decide (l = []) from seq_mk l []] at h
  cases l with
  | nil =>
    simp only [decide_true, Bool.not_true, bif_f, Option.bind_some] at h
    exact (Option.some.inj h).symm
  | cons c r =>
    simp only [reduceCtorEq, decide_false, Bool.not_false, bif_t, sized] at h
    by_cases h12 : (((c :: r).length : Nat) : Int) ≤ 12
    · have hl : r.length < 12 := by rw [List.length_cons] at h12; omega
      have h1 : (1 : Int) ≤ (((c :: r).length : Nat) : Int) := by rw [List.length_cons]; omega
      simp only [h12, h1, decide_true, bif_t, Int.le_refl, show (0 : Int) ≤ 1 from by decide, Bool.and_self, Int.toNat_zero, show (1 : Int).toNat = 1 from rfl] at h
      rw [ext_mid, data_of] at h
      simp only [List.drop_zero, Nat.sub_zero, List.take_succ_cons, List.take_zero] at h
      have hcon := con_one c
      have h : (bif Lib.contains smalls [c] then (strings_Trim 0 ⟨(c :: r).toArray⟩ ⟨oks.toArray⟩).bind (fun x0 => some (seq x0 B0)) else some false).bind (fun x0 => some x0) = some (idn ⟨(c :: r).toArray⟩) := h
      rw [hcon] at h
      show idn ⟨(c :: r).toArray⟩ = (small c && r.all okc && decide (r.length < 12))
      cases hs : small c
      · rw [hs] at h
        simp only [bif_f, Option.bind_some] at h
        rw [← Option.some.inj h]; rfl
      · rw [hs] at h
        simp only [bif_t] at h
        unfold strings_Trim at h
        rw [show asciiB _ = true from by decide +kernel] at h
        have hsz : Nat.ble (⟨(c :: r).toArray⟩ : ByteArray).size maxI = true := Nat.ble_eq_true_of_le (by rw [sized, List.length_cons]; unfold maxI; omega)
        rw [hsz] at h
        have h : some (seq (⟨(trimS (c :: r) oks).toArray⟩ : ByteArray) B0) = some (idn ⟨(c :: r).toArray⟩) := h
        rw [← Option.some.inj h, seq_B0]
        have hok := small_ok hs
        have hall : (c :: r).all okc = r.all okc := by rw [List.all_cons, hok, Bool.true_and]
        have hd : decide (r.length < 12) = true := by simp [hl]
        rw [hd, Bool.true_and, Bool.and_true]
        cases hr : r.all okc with
        | true => rw [(trim_nil _).2 (by rw [hall, hr])]; rfl
        | false =>
          refine decide_eq_false fun z => ?_
          have := (trim_nil _).1 z
          rw [hall, hr] at this; cases this
    · simp only [h12, decide_false, bif_f, Option.bind_some] at h
      rw [← Option.some.inj h]
      have hl : ¬ r.length < 12 := by rw [List.length_cons] at h12; omega
      unfold idB; simp [hl]

theorem v5_eq (κ : Nat) (l : List UInt8) (i : Nat) (c : UInt8) (h : l[i]? = some c) : tollbarref06_Ident.v5 κ ⟨l.toArray⟩ (i : Int) = some (⟨l.toArray⟩, (i : Int), small c) := by
  unfold tollbarref06_Ident.v5 small
  rw [show decide ((0 : Int) ≤ (i : Int)) = true from decide_eq_true (by omega)]
  simp only [bif_t, data_of, Int.toNat_natCast, h, Option.bind_some]
  by_cases h1 : ((c.toNat : Nat) : Int) ≥ 97
  · have : decide (97 ≤ c.toNat ∧ c.toNat ≤ 122) = decide (((c.toNat : Nat) : Int) ≤ 122) := by rw [decide_eq_decide]; omega
    simp only [h1, decide_true, bif_t, this]
  · have : decide (97 ≤ c.toNat ∧ c.toNat ≤ 122) = false := decide_eq_false (by omega)
    simp only [h1, decide_false, bif_f, this]
theorem v7_eq (κ : Nat) (l : List UInt8) (i : Nat) (c : UInt8) (h : l[i]? = some c) (b : Bool) : tollbarref06_Ident.v7 κ ⟨l.toArray⟩ (i : Int) b = some (⟨l.toArray⟩, (i : Int), !b && (decide (i = 0) || !(decide (c.toNat = 45 ∨ (48 ≤ c.toNat ∧ c.toNat ≤ 57))))) := by
  unfold tollbarref06_Ident.v7
  cases b
  · simp only [Bool.not_false, bif_t, Bool.true_and]
    by_cases h0 : i = 0
    · subst h0; rfl
    · rw [show ((i : Int) == 0) = false from beq_eq_false_iff_ne.2 (by omega), show decide (i = 0) = false from decide_eq_false h0, show decide ((0 : Int) ≤ (i : Int)) = true from decide_eq_true (by omega)]
      simp only [bif_t, bif_f, data_of, Int.toNat_natCast, h, Option.bind_some, Bool.false_or]
      by_cases h1 : ((c.toNat : Nat) : Int) = 45
      · rw [show (((c.toNat : Nat) : Int) != 45) = false from by simp [h1], show decide (c.toNat = 45 ∨ (48 ≤ c.toNat ∧ c.toNat ≤ 57)) = true from decide_eq_true (by omega)]
        rfl
      · rw [show (((c.toNat : Nat) : Int) != 45) = true from by simpa using h1]
        simp only [bif_t]
        by_cases h2 : ((c.toNat : Nat) : Int) < 48
        · rw [show decide (c.toNat = 45 ∨ (48 ≤ c.toNat ∧ c.toNat ≤ 57)) = false from decide_eq_false (by omega)]
          simp only [h2, decide_true, bif_t]; rfl
        · simp only [h2, decide_false, bif_f]
          congr 3
          by_cases h3 : ((c.toNat : Nat) : Int) > 57
          · rw [decide_eq_true h3, show decide (c.toNat = 45 ∨ (48 ≤ c.toNat ∧ c.toNat ≤ 57)) = false from decide_eq_false (by omega)]; rfl
          · rw [decide_eq_false h3, show decide (c.toNat = 45 ∨ (48 ≤ c.toNat ∧ c.toNat ≤ 57)) = true from decide_eq_true (by omega)]; rfl
  · rfl
theorem ref_loop (κ : Nat) (l : List UInt8) (hl : l.length ≤ 140737488351232) : ∀ (d i K : Nat), 1 ≤ i → l.length = i + d → d < K →
    tollbarref06_Ident.l4 κ K (⟨l.toArray⟩, (i : Int)) = some (bif (l.drop i).all okc then .inl ⟨l.toArray⟩ else .inr false)
  | d, i, 0, _, _, h => by omega
  | 0, i, K + 1, _, hd, _ => by
    have hn : l.drop i = [] := List.drop_eq_nil_of_le (by omega)
    rw [hn]
    unfold tollbarref06_Ident.l4 tollbarref06_Ident.w4
    rw [sized, show decide ((i : Int) < ((l.length : Nat) : Int)) = false from decide_eq_false (by omega)]
    rfl
  | d + 1, i, K + 1, hi, hd, hk => by
    have hlt : i < l.length := by omega
    have hx : l[i]? = some l[i] := List.getElem?_eq_getElem hlt
    unfold tollbarref06_Ident.l4 tollbarref06_Ident.w4
    rw [sized, show decide ((i : Int) < ((l.length : Nat) : Int)) = true from decide_eq_true (by omega)]
    simp only [bif_t, v5_eq κ l i _ hx, v7_eq κ l i _ hx, Option.bind_some]
    rw [List.drop_eq_getElem_cons hlt, List.all_cons]
    have hok : (!small l[i] && (decide (i = 0) || !(decide (l[i].toNat = 45 ∨ (48 ≤ l[i].toNat ∧ l[i].toNat ≤ 57))))) = !okc l[i] := by
      rw [show decide (i = 0) = false from decide_eq_false (by omega), Bool.false_or]
      unfold small okc
      by_cases h1 : 97 ≤ l[i].toNat ∧ l[i].toNat ≤ 122 <;> by_cases h2 : l[i].toNat = 45 ∨ (48 ≤ l[i].toNat ∧ l[i].toNat ≤ 57) <;> simp [h1, h2]
    rw [hok]
    cases okc l[i]
    · rfl
    · simp only [Bool.not_true, bif_f, Bool.true_and]
      rw [wrap_in _ (by omega) (by omega), show ((i : Int) + 1) = ((i + 1 : Nat) : Int) from by omega]
      exact ref_loop κ l hl d (i + 1) K (by omega) (by omega) (by omega)
theorem refIdent_eq (κ : Nat) (s : ByteArray) (hs : s.size ≤ 140737488351232) (hκ : s.size + 1 < κ) : tollbarref06_Ident κ s = some (idn s) := by
  obtain ⟨l, rfl⟩ := as_list s
  rw [idn_eq]
  rw [sized] at hs hκ
  unfold tollbarref06_Ident
  cases l with
  | nil =>
    obtain ⟨k, rfl⟩ : ∃ k, κ = k + 1 := ⟨κ - 1, by omega⟩
    rfl
  | cons c r =>
    obtain ⟨k, hk⟩ : ∃ k, κ = k + 1 := ⟨κ - 1, by omega⟩
    have hx : (c :: r)[0]? = some c := rfl
    have first : tollbarref06_Ident.l4 κ κ (⟨(c :: r).toArray⟩, (0 : Int)) = some (bif small c && r.all okc then .inl ⟨(c :: r).toArray⟩ else .inr false) := by
      conv => lhs; arg 2; rw [hk]
      unfold tollbarref06_Ident.l4 tollbarref06_Ident.w4
      rw [sized, show decide ((0 : Int) < (((c :: r).length : Nat) : Int)) = true from decide_eq_true (by rw [List.length_cons]; omega)]
      have e5 := v5_eq κ (c :: r) 0 c hx
      have e7 := v7_eq κ (c :: r) 0 c hx (small c)
      simp only [Int.natCast_zero] at e5 e7
      simp only [bif_t, e5, e7, Option.bind_some, decide_true, Bool.true_or, Bool.and_true]
      cases small c
      · rfl
      · simp only [Bool.not_true, bif_f, Bool.true_and]
        rw [wrap_in _ (by omega) (by omega), show ((0 : Int) + 1) = ((1 : Nat) : Int) from rfl, ref_loop κ (c :: r) hs r.length 1 k (by omega) (by rw [List.length_cons]; omega) (by rw [List.length_cons] at hκ; omega)]
        rfl
    rw [first]
    show _ = some (small c && r.all okc && decide (r.length < 12))
    cases hb : small c && r.all okc
    · rfl
    · simp only [bif_t, Option.bind_some, tollbarref06_Ident.v10]
      rw [show seq (⟨(c :: r).toArray⟩ : ByteArray) (ByteArray.mk (List.toArray [])) = decide ((c :: r) = []) from seq_mk _ []]
      simp only [reduceCtorEq, decide_false, Bool.not_false, bif_t, sized, Option.bind_some, Bool.true_and]
      congr 1
      rw [decide_eq_decide, List.length_cons]; omega
end Go.Proofs.YtooefkbecoopdaaDoor.Pa15


namespace Go.Proofs.YtooefkbecoopdaaDoor.Pa15
open Go Ev Ev.Seat Go.Lib

theorem toS_name (s : SpecSpec) : (toS s).name = s.name := by cases s; rfl
theorem toS_kind (s : SpecSpec) : (toS s).kind = s.kind := by cases s; rfl
theorem toS_kids (s : SpecSpec) : (toS s).kids = toL s.kids := by cases s; rfl
theorem toL_get : ∀ (l : List SpecSpec) (i : Nat), (toL l)[i]? = (l[i]?).map toS
  | [], i => by simp [toL]
  | s :: l, 0 => by simp [toL]
  | s :: l, i + 1 => by simp only [toL, List.getElem?_cons_succ]; exact toL_get l i
theorem toL_len : ∀ (l : List SpecSpec), (toL l).length = l.length
  | [] => rfl
  | s :: l => by simp only [toL, List.length_cons, toL_len l]

theorem find2_loop (κ : Nat) (n : ByteArray) (l : List SpecSpec) (hl : l.length < 1000000) (b0 : ByteArray) (b1 b2 b3 b4 : Int) (b5 : List ByteArray) (b6 : Bool) (b7 : Int) : ∀ (d i K : Nat), l.length = i + d → d < K →
    tollbarref07_Find_2.l0 κ K (n, (i : Int), b0, b1, b2, b3, b4, b5, b6, b7, toL l) = some (match fndL n (l.drop i) i with | some j => .inr (j : Int) | none => .inl ())
  | d, i, 0, _, h => by omega
  | 0, i, K + 1, hd, _ => by
    have hn : l.drop i = [] := List.drop_eq_nil_of_le (by omega)
    rw [hn]
    unfold tollbarref07_Find_2.l0 tollbarref07_Find_2.w0
    rw [toL_len, show decide ((i : Int) < ((l.length : Nat) : Int)) = false from decide_eq_false (by omega)]
    rfl
  | d + 1, i, K + 1, hd, hk => by
    have hlt : i < l.length := by omega
    unfold tollbarref07_Find_2.l0 tollbarref07_Find_2.w0
    rw [toL_len, show decide ((i : Int) < ((l.length : Nat) : Int)) = true from decide_eq_true (by omega), show decide ((0 : Int) ≤ (i : Int)) = true from decide_eq_true (by omega)]
    simp only [bif_t, Int.toNat_natCast, toL_get, List.getElem?_eq_getElem hlt, Option.map_some, Option.bind_some, toS_name]
    rw [List.drop_eq_getElem_cons hlt]
    unfold fndL
    cases hs : seq l[i].name n
    · simp only [bif_f]
      rw [wrap_in _ (by omega) (by omega), show ((i : Int) + 1) = ((i + 1 : Nat) : Int) from by omega]
      exact find2_loop κ n l hl b0 b1 b2 b3 b4 b5 b6 b7 d (i + 1) K (by omega) (by omega)
    · rfl
theorem find2_eq (κ : Nat) (n : ByteArray) (l : List SpecSpec) (hl : l.length < 1000000) (hκ : l.length < κ) (b0 : ByteArray) (b1 b2 b3 b4 : Int) (b5 : List ByteArray) (b6 : Bool) (b7 : Int) :
    tollbarref07_Find_2 κ b0 b1 b2 b3 b4 b5 b6 b7 (toL l) n = some (match fndL n l 0 with | some j => (j : Int) | none => -1) := by
  have h := find2_loop κ n l hl b0 b1 b2 b3 b4 b5 b6 b7 l.length 0 κ (by omega) hκ
  simp only [List.drop_zero, Int.natCast_zero] at h
  unfold tollbarref07_Find_2
  rw [h]
  cases fndL n l 0 <;> rfl

/-- How long the texts of a way are. -/
def Fits (κ : Nat) (w : List ApiStep) : Prop := ∀ x ∈ w, x.name.size ≤ 140737488351232 ∧ x.key.size ≤ 140737488351232 ∧ x.name.size + 1 < κ ∧ x.key.size + 1 < κ

theorem v11_eq (κ : Nat) (w : List ApiStep) (e : Int) (i : Nat) (x : ApiStep) (hx : w[i]? = some x) (t : SpecSpec) (z0 : ByteArray) (z1 z2 z3 z4 : Int) (z5 : Bool) (z6 : Int) :
    tollbarref15_At.v11 κ w e (i : Int) (idn x.key) z0 z1 z2 z3 z4 z5 z6 (toS t).name (toS t).kind (toS t).type_ (toS t).min (toS t).max (toS t).names (toS t).must (toS t).most (toS t).kids
      = some (w, e, (i : Int), badK t x, z0, z1, z2, z3, z4, z5, z6, fldS (toS t)) := by
  unfold tollbarref15_At.v11 badK fldS
  rw [toS_kind]
  cases hk : t.kind == 3
  · have : (t.kind != 3) = true := by unfold bne; rw [hk]; rfl
    rw [this]
    simp only [bif_f, bif_t, show decide ((0 : Int) ≤ (i : Int)) = true from decide_eq_true (by omega), Int.toNat_natCast, hx, Option.bind_some]
  · have : (t.kind != 3) = false := by unfold bne; rw [hk]; rfl
    rw [this]
    cases idn x.key <;> rfl

theorem refAt_loop (κ : Nat) (hκ : 20 ≤ κ) (w : List ApiStep) (hw : w.length < 1000000) (hf : Fits κ w) (z0 : ByteArray) (z1 z2 z3 z4 : Int) (z5 : Bool) (z6 : Int) : ∀ (d i K : Nat) (s : SpecSpec), s ∈ subs → w.length = i + d → d < K →
    tollbarref15_At.l8 κ K (w, (0 : Int), (i : Int), z0, z1, z2, z3, z4, z5, z6, fldS (toS s)) =
      some (match atW s (w.drop i) with | .inl t => .inl (0, z0, z1, z2, z3, z4, z5, z6, fldS (toS t)) | .inr e => .inr (e, B0, 0, 0, 0, 0, false, 0))
  | d, i, 0, s, _, _, h => by omega
  | 0, i, K + 1, s, hs, hd, _ => by
    have hn : w.drop i = [] := List.drop_eq_nil_of_le (by omega)
    rw [hn]
    unfold fldS tollbarref15_At.l8 tollbarref15_At.w8 tollbarref15_At.v9
    rw [show decide ((i : Int) < ((w.length : Nat) : Int)) = false from decide_eq_false (by omega)]
    rfl
  | d + 1, i, K + 1, s, hs, hd, hk => by
    have hlt : i < w.length := by omega
    have hx : w[i]? = some w[i] := List.getElem?_eq_getElem hlt
    obtain ⟨f1, f2, f3, f4⟩ := hf w[i] (List.getElem_mem hlt)
    have hfew := sub_few hs
    unfold fldS tollbarref15_At.l8 tollbarref15_At.w8 tollbarref15_At.v9
    rw [show decide ((i : Int) < ((w.length : Nat) : Int)) = true from decide_eq_true (by omega)]
    simp only [bif_t, show ((0 : Int) == 0) = true from rfl, Option.bind_some, show decide ((0 : Int) ≤ (i : Int)) = true from decide_eq_true (by omega), Int.toNat_natCast, hx, toS_kids,
      find2_eq κ _ s.kids (by omega) (by omega)]
    rw [List.drop_eq_getElem_cons hlt]
    simp only [atW]
    cases hfd : fndL w[i].name s.kids 0 with
    | none => rfl
    | some j =>
      obtain ⟨t, ht, hm⟩ := fnd_kid hfd
      simp only [Option.bind_some, ht, show decide (((j : Nat) : Int) < 0) = false from decide_eq_false (by omega), show decide ((0 : Int) ≤ ((j : Nat) : Int)) = true from decide_eq_true (by omega), bif_t, bif_f, Int.toNat_natCast, toL_get, Option.map_some, refIdent_eq κ _ f2 f4]
      have hv := v11_eq κ w 0 i w[i] hx t z0 z1 z2 z3 z4 z5 z6
      rw [hv]
      simp only [Option.bind_some]
      cases badK t w[i]
      · simp only [bif_f]
        rw [wrap_in _ (by omega) (by omega), show ((i : Int) + 1) = ((i + 1 : Nat) : Int) from by omega]
        have ih := refAt_loop κ hκ w hw hf z0 z1 z2 z3 z4 z5 z6 d (i + 1) K t (sub_kid hs hm) (by omega) (by omega)
        simp only [fldS, toS_kids] at ih ⊢
        exact ih
      · rfl

def rootT (v : Int) : ByteArray × Int × Int × Int × Int × Bool × Int × Int × List Tollbarref07S := match rootOf v with
  | some r => (B0, 2, 0, 0, 0, false, 0, 0, toL r.kids)
  | none => (B0, 0, 0, 0, 0, false, 0, 28, [])
theorem refRoot1 (κ : Nat) : tollbarref07_Root κ 1 = some (rootT 1) := by kernel_rfl
theorem refRoot2 (κ : Nat) : tollbarref07_Root κ 2 = some (rootT 2) := by kernel_rfl
theorem refRoot3 (κ : Nat) : tollbarref07_Root κ 3 = some (rootT 3) := by kernel_rfl
theorem refRoot_eq (κ : Nat) (v : Int) : tollbarref07_Root κ v = some (rootT v) := by
  by_cases h1 : v = 1
  · subst h1; exact refRoot1 κ
  · by_cases h2 : v = 2
    · subst h2; exact refRoot2 κ
    · by_cases h3 : v = 3
      · subst h3; exact refRoot3 κ
      · have : rootT v = (B0, 0, 0, 0, 0, false, 0, 28, []) := by unfold rootT rootOf; rw [if_neg h1, if_neg h2, if_neg h3]
        rw [this]
        unfold tollbarref07_Root tollbarref07_Root.v0
        by_cases h4 : v < 1
        · simp only [h4, decide_true, bif_t, Option.bind_some]
        · have h5 : v > 3 := by omega
          simp only [h4, h5, decide_true, decide_false, bif_f, bif_t, Option.bind_some]
theorem root_flds {v : Int} {r : SpecSpec} (h : rootOf v = some r) : fldS (toS r) = (B0, 2, 0, 0, 0, [], false, 0, toL r.kids) := by
  unfold rootOf at h
  split at h
  · cases h; rfl
  · split at h
    · cases h; rfl
    · split at h
      · cases h; rfl
      · cases h

def tupS (x : SpecSpec × Int) : ByteArray × Int × Int × Int × Int × List ByteArray × Bool × Int × List Tollbarref07S × Int := ((toS x.1).name, (toS x.1).kind, (toS x.1).type_, (toS x.1).min, (toS x.1).max, (toS x.1).names, (toS x.1).must, (toS x.1).most, (toS x.1).kids, x.2)
theorem refAt_eq (κ : Nat) (hκ : 20 ≤ κ) (v : Int) (w : List ApiStep) (hw : w.length < κ) (hw' : w.length < 1000000) (hf : Fits κ w) : tollbarref15_At κ v w = some (tupS (atV v w)) := by
  unfold tollbarref15_At
  rw [refRoot_eq]
  unfold rootT atV
  cases hr : rootOf v with
  | none =>
    obtain ⟨k, hk⟩ : ∃ k, κ = k + 1 := ⟨κ - 1, by omega⟩
    simp only [Option.bind_some]
    conv => lhs; arg 1; arg 2; rw [hk]
    unfold tollbarref15_At.l8 tollbarref15_At.w8 tollbarref15_At.v9
    cases decide ((0 : Int) < ((w.length : Nat) : Int)) <;> rfl
  | some r =>
    simp only [Option.bind_some]
    have h := refAt_loop κ hκ w hw' hf B0 0 0 0 0 false 0 w.length 0 κ r (rootOf_sub hr) (by omega) hw
    rw [root_flds hr] at h
    simp only [List.drop_zero, Int.natCast_zero] at h
    rw [h]
    cases atW r w with
    | inl t => rfl
    | inr e => rfl
end Go.Proofs.YtooefkbecoopdaaDoor.Pa15


namespace Go.Proofs.YtooefkbecoopdaaDoor.Pa15
open Go Ev Ev.Seat Go.Lib

theorem cat_mk (a b : List UInt8) : (⟨a.toArray⟩ : ByteArray) ++ (⟨b.toArray⟩ : ByteArray) = ⟨(a ++ b).toArray⟩ := by rw [ByteArray.mk_append_mk]
theorem cat_mk' (a : List UInt8) (s : ByteArray) : (⟨a.toArray⟩ : ByteArray) ++ s = ⟨(a ++ s.data.toList).toArray⟩ := by
  obtain ⟨b, rfl⟩ := as_list s
  rw [cat_mk, data_of]
theorem refv7_eq (κ : Nat) (w : List ApiStep) (hf : Fits κ w) (i : Nat) (x : ApiStep) (hx : w[i]? = some x) (acc : List UInt8) (hacc : acc.length ≤ 1000) :
    tollbarref15_Show.v7 κ w ⟨acc.toArray⟩ (i : Int) = some (bif badS x then .inr B0 else .inl (w, ⟨(acc ++ txt1 x).toArray⟩, (i : Int))) := by
  obtain ⟨f1, f2, f3, f4⟩ := hf x (List.mem_of_getElem? hx)
  unfold tollbarref15_Show.v7 tollbarref15_Show.v8
  simp only [show decide ((0 : Int) ≤ (i : Int)) = true from decide_eq_true (by omega), bif_t, Int.toNat_natCast, hx, Option.bind_some, refIdent_eq κ _ f1 f3, refIdent_eq κ _ f2 f4]
  unfold badS
  cases hn : idn x.name
  · rfl
  · have hs := idn_size hn
    simp only [Bool.not_true, bif_f, Bool.false_or]
    have s1 : (ByteArray.mk (List.toArray [(47 : UInt8)])).size = 1 := rfl
    have s2 : (ByteArray.mk (List.toArray [(91 : UInt8)])).size = 1 := rfl
    have s3 : (ByteArray.mk (List.toArray [(93 : UInt8)])).size = 1 := rfl
    cases hk : idn x.key
    · simp only [Bool.not_false, bif_t, Option.bind_some]
      cases hq : seq x.key B0
      · rfl
      · simp only [Bool.not_true, bif_f, Bool.false_and, show decide ((0 : Int) ≤ (i : Int)) = true from decide_eq_true (by omega), bif_t, Int.toNat_natCast, hx, Option.bind_some, s1, cat_size, sized]
        rw [maxI_ok _ (by omega), bif_t, maxI_ok _ (by omega), bif_t]
        unfold tollbarref15_Show.v10 txt1 key1
        rw [hq]
        simp only [bif_f, bif_t, Option.bind_some, cat_mk', cat_list]
        simp
    · have hq := idn_ne hk
      have hs2 := idn_size hk
      simp only [Bool.not_true, Bool.and_false, bif_f, show decide ((0 : Int) ≤ (i : Int)) = true from decide_eq_true (by omega), bif_t, Int.toNat_natCast, hx, Option.bind_some, s1, cat_size, sized]
      rw [maxI_ok _ (by omega), bif_t, maxI_ok _ (by omega), bif_t]
      unfold tollbarref15_Show.v10 txt1 key1
      rw [hq]
      simp only [bif_f, bif_t, Option.bind_some, show decide ((0 : Int) ≤ (i : Int)) = true from decide_eq_true (by omega), Int.toNat_natCast, hx, s1, s2, s3, cat_size, sized]
      rw [maxI_ok _ (by omega), bif_t, maxI_ok _ (by omega), bif_t, maxI_ok _ (by omega), bif_t]
      simp only [Option.bind_some, cat_mk', cat_list]
      simp
theorem refShow_loop (κ : Nat) (w : List ApiStep) (hw : w.length ≤ 30) (hf : Fits κ w) : ∀ (d i K : Nat) (acc : List UInt8), w.length = i + d → acc.length ≤ 30 * i → d < K →
    tollbarref15_Show.l6 κ K (w, ⟨acc.toArray⟩, (i : Int)) = some (bif (w.drop i).any badS then .inr B0 else .inl (w, ⟨(acc ++ txt (w.drop i)).toArray⟩))
  | d, i, 0, acc, _, _, h => by omega
  | 0, i, K + 1, acc, hd, ha, _ => by
    have hn : w.drop i = [] := List.drop_eq_nil_of_le (by omega)
    rw [hn]
    unfold tollbarref15_Show.l6 tollbarref15_Show.w6
    rw [show decide ((i : Int) < ((w.length : Nat) : Int)) = false from decide_eq_false (by omega)]
    simp only [bif_f, List.any_nil, txt, List.flatMap_nil, List.append_nil]
  | d + 1, i, K + 1, acc, hd, ha, hk => by
    have hlt : i < w.length := by omega
    have hx : w[i]? = some w[i] := List.getElem?_eq_getElem hlt
    rw [List.drop_eq_getElem_cons hlt]
    unfold tollbarref15_Show.l6 tollbarref15_Show.w6
    rw [show decide ((i : Int) < ((w.length : Nat) : Int)) = true from decide_eq_true (by omega)]
    simp only [bif_t, refv7_eq κ w hf i _ hx acc (by omega), Option.bind_some, List.any_cons]
    cases hb : badS w[i]
    · have hl := txt1_len hb
      simp only [bif_f, Bool.false_or]
      rw [wrap_in _ (by omega) (by omega), show ((i : Int) + 1) = ((i + 1 : Nat) : Int) from by omega, refShow_loop κ w hw hf d (i + 1) K (acc ++ txt1 w[i]) (by omega) (by rw [List.length_append]; omega) (by omega)]
      unfold txt
      simp only [List.flatMap_cons, List.append_assoc]
    · rfl
theorem refShow_eq (κ : Nat) (w : List ApiStep) (hw : w.length ≤ 30) (hκ : w.length < κ) (hf : Fits κ w) : tollbarref15_Show κ w = some (showV w) := by
  have h := refShow_loop κ w hw hf w.length 0 κ [] (by omega) (by simp) hκ
  simp only [List.drop_zero, Int.natCast_zero, List.nil_append] at h
  unfold tollbarref15_Show
  rw [show (ByteArray.mk (List.toArray [])) = (⟨([] : List UInt8).toArray⟩ : ByteArray) from rfl, h]
  unfold showV
  cases hb : w.any badS
  · simp only [bif_f, Option.bind_some]
    rw [show seq (⟨(txt w).toArray⟩ : ByteArray) ⟨([] : List UInt8).toArray⟩ = decide (txt w = []) from seq_mk _ _]
    cases w with
    | nil => rfl
    | cons x l =>
      rw [show decide (txt (x :: l) = []) = false from by simp [txt, txt1], if_neg (by simp)]
      simp only [bif_f]
      by_cases h6 : (x :: l).length > 6
      · rw [if_pos h6, show decide ((((x :: l).length : Nat) : Int) > 6) = true from decide_eq_true (by omega)]; rfl
      · rw [if_neg h6, show decide ((((x :: l).length : Nat) : Int) > 6) = false from decide_eq_false (by omega)]; rfl
  · simp only [bif_t, Option.bind_some]
    cases w with
    | nil => cases hb
    | cons x l =>
      rw [if_neg (by simp)]
      split <;> rfl

def sameS (a b : ApiStep) : Bool := seq a.name b.name && seq a.key b.key
def underL : List ApiStep → List ApiStep → Bool
  | _, [] => true
  | [], _ :: _ => false
  | a :: w, b :: f => sameS a b && underL w f
theorem under_loop (κ : Nat) (w f : List ApiStep) (hf : f.length < 1000000) : ∀ (d i K : Nat), f.length = i + d → d < K →
    path_Under.l2 κ K (w, f, ((f.length : Nat) : Int), (i : Int)) = some (bif underL (w.drop i) (f.drop i) then .inl () else .inr false) ∧
    tollbarref15_Under.l2 κ K (w, f, (i : Int)) = some (bif underL (w.drop i) (f.drop i) then .inl () else .inr false)
  | d, i, 0, _, h => by omega
  | 0, i, K + 1, hd, _ => by
    have hn : f.drop i = [] := List.drop_eq_nil_of_le (by omega)
    rw [hn]
    unfold path_Under.l2 path_Under.w2 tollbarref15_Under.l2 tollbarref15_Under.w2
    rw [show decide ((i : Int) < ((f.length : Nat) : Int)) = false from decide_eq_false (by omega)]
    unfold underL
    exact ⟨rfl, rfl⟩
  | d + 1, i, K + 1, hd, hk => by
    have hlt : i < f.length := by omega
    have hx : f[i]? = some f[i] := List.getElem?_eq_getElem hlt
    rw [List.drop_eq_getElem_cons hlt]
    unfold path_Under.l2 path_Under.w2 tollbarref15_Under.l2 tollbarref15_Under.w2 path_Under.v3 tollbarref15_Under.v3
    simp only [show decide ((i : Int) < ((f.length : Nat) : Int)) = true from decide_eq_true (by omega), show decide ((0 : Int) ≤ (i : Int)) = true from decide_eq_true (by omega), bif_t, Int.toNat_natCast, hx, Option.bind_some]
    by_cases hwl : w.length ≤ i
    · rw [List.drop_eq_nil_of_le hwl]
      simp only [show decide ((i : Int) ≥ ((w.length : Nat) : Int)) = true from decide_eq_true (by omega), bif_t, Option.bind_some]
      exact ⟨rfl, rfl⟩
    · have hlw : i < w.length := by omega
      have hy : w[i]? = some w[i] := List.getElem?_eq_getElem hlw
      rw [List.drop_eq_getElem_cons hlw]
      simp only [show decide ((i : Int) ≥ ((w.length : Nat) : Int)) = false from decide_eq_false (by omega), bif_f, hy, Option.bind_some]
      unfold underL
      have ih := under_loop κ w f hf d (i + 1) K (by omega) (by omega)
      rw [show (seq w[i].name f[i].name && seq w[i].key f[i].key) = sameS w[i] f[i] from rfl]
      cases sameS w[i] f[i]
      · exact ⟨rfl, rfl⟩
      · simp only [Bool.not_true, bif_f, Bool.true_and]
        rw [wrap_in _ (by omega) (by omega), show ((i : Int) + 1) = ((i + 1 : Nat) : Int) from by omega]
        exact ih
theorem under_eq (κ : Nat) (w f : List ApiStep) (hf : f.length < 1000000) (hκ : f.length < κ) : path_Under κ w f = some (underL w f) ∧ tollbarref15_Under κ w f = some (underL w f) := by
  obtain ⟨h1, h2⟩ := under_loop κ w f hf f.length 0 κ (by omega) hκ
  simp only [List.drop_zero, Int.natCast_zero] at h1 h2
  unfold path_Under tollbarref15_Under
  rw [h1, h2]
  cases underL w f <;> exact ⟨rfl, rfl⟩

theorem steps_loop (κ : Nat) (w : List ApiStep) (hw : w.length < 1000000) : ∀ (d i K : Nat), w.length = i + d → d < K → tollbarref10_Steps.l0 κ K (w, w, (i : Int)) = some (.inl ())
  | d, i, 0, _, h => by omega
  | 0, i, K + 1, hd, _ => by
    unfold tollbarref10_Steps.l0 tollbarref10_Steps.w0
    rw [show decide ((i : Int) < ((w.length : Nat) : Int)) = false from decide_eq_false (by omega)]
    rfl
  | d + 1, i, K + 1, hd, hk => by
    have hlt : i < w.length := by omega
    have hx : w[i]? = some w[i] := List.getElem?_eq_getElem hlt
    unfold tollbarref10_Steps.l0 tollbarref10_Steps.w0
    simp only [show decide ((i : Int) < ((w.length : Nat) : Int)) = true from decide_eq_true (by omega), show decide ((0 : Int) ≤ (i : Int)) = true from decide_eq_true (by omega), bif_t, Int.toNat_natCast, hx, Option.bind_some, seq_self, Bool.and_self, Bool.not_true, bif_f]
    rw [wrap_in _ (by omega) (by omega), show ((i : Int) + 1) = ((i + 1 : Nat) : Int) from by omega]
    exact steps_loop κ w hw d (i + 1) K (by omega) (by omega)
theorem steps_eq (κ : Nat) (w : List ApiStep) (hw : w.length < 1000000) (hκ : w.length < κ) : tollbarref10_Steps κ w w = some true := by
  unfold tollbarref10_Steps
  have h := steps_loop κ w hw w.length 0 κ (by omega) hκ
  simp only [Int.natCast_zero] at h
  rw [show (((w.length : Nat) : Int) != ((w.length : Nat) : Int)) = false from by simp, h]
  rfl
end Go.Proofs.YtooefkbecoopdaaDoor.Pa15


namespace Go.Proofs.YtooefkbecoopdaaDoor.Pa15
open Go Ev Ev.Seat Go.Lib

abbrev bs (l : List UInt8) : ByteArray := ⟨l.toArray⟩
theorem hasP (κ : Nat) (c : UInt8) (l : List UInt8) : internal_stringslite_HasPrefix κ (bs l) (bs [c]) = some (decide (l.head? = some c)) := by
  unfold internal_stringslite_HasPrefix internal_stringslite_HasPrefix.v0
  simp only [sized]
  cases l with
  | nil => simp
  | cons d r =>
    have h1 : (((d :: r).length : Nat) : Int) ≥ (([c].length : Nat) : Int) := by simp only [List.length_cons, List.length_nil]; omega
    have h2 : (([c].length : Nat) : Int) ≤ (((d :: r).length : Nat) : Int) := h1
    have h3 : (0 : Int) ≤ (([c].length : Nat) : Int) := by omega
    simp only [h1, h2, h3, decide_true, bif_t, Int.le_refl, Bool.and_self, Option.bind_some, Int.toNat_zero, Int.toNat_natCast]
    rw [ext_mid, seq_mk]
    congr 1
    simp
theorem has1 (κ : Nat) (c : UInt8) (l : List UInt8) : strings_HasPrefix κ (bs l) (bs [c]) = some (decide (l.head? = some c)) := by
  unfold strings_HasPrefix; rw [hasP]; rfl
theorem cut1 (κ : Nat) (c : UInt8) (r : List UInt8) : strings_CutPrefix κ (bs (c :: r)) (bs [c]) = some (bs r, true) := by
  unfold strings_CutPrefix internal_stringslite_CutPrefix
  rw [hasP]
  have h3 : (0 : Int) ≤ (([c].length : Nat) : Int) := by omega
  have h2 : (([c].length : Nat) : Int) ≤ (((c :: r).length : Nat) : Int) := by simp only [List.length_cons, List.length_nil]; omega
  simp only [List.head?_cons, decide_true, Option.bind_some, Bool.not_true, bif_f, sized, Int.le_refl, h2, h3, Bool.and_self, bif_t, Int.toNat_natCast]
  rw [ext_mid]
  simp
theorem sign1 (κ : Nat) (c : UInt8) (r : List UInt8) (L e a : Int) : path_reader_sign κ (bs [c]) (bs (c :: r)) L e a = some (bs r, L, e, a) := by
  unfold path_reader_sign
  rw [cut1]; rfl
theorem trimL : ∀ (nm rest : List UInt8), nm.all okc = true → (rest = [] ∨ ∃ d r, rest = d :: r ∧ okc d = false) → trimLeftS (nm ++ rest) oks = rest := by
  intro nm rest h hr
  have e : (fun c => oks.contains c) = okc := funext ok_eq
  unfold trimLeftS
  rw [e]
  induction nm with
  | nil =>
    rcases hr with rfl | ⟨d, r, rfl, hd⟩
    · rfl
    · rw [List.nil_append, List.dropWhile_cons, hd]; rfl
  | cons c l ih =>
    rw [List.all_cons, Bool.and_eq_true] at h
    rw [List.cons_append, List.dropWhile_cons, h.1]
    exact ih h.2
theorem name_def (κ : Nat) (s : ByteArray) (L e a : Int) : path_reader_name κ s L e a =
    (fun (r : ByteArray) => (fun (k : Int) =>
      bif (((decide ((0 : Int) ≤ k) && decide (k ≤ ((s.size : Nat) : Int))) && decide ((0 : Int) ≤ (0 : Int))) && decide ((0 : Int) ≤ k)) then
        Option.bind (scalar_Ident κ (s.extract (Int.toNat 0) (Int.toNat k))) fun x0 =>
          Option.bind (path_reader_name.v0 κ r (s.extract (Int.toNat 0) (Int.toNat k)) (!x0) s L e a) fun x1 =>
            some (x1.2.1, x1.1, x1.2.2.2.1, x1.2.2.2.2.1, x1.2.2.2.2.2)
      else none) (IntKind.wrap .i64 (((s.size : Nat) : Int) - ((r.size : Nat) : Int)))) (bs (trimLeftS s.data.toList oks)) := rfl
theorem idB_all {l : List UInt8} (h : idB l = true) : l.all okc = true := by
  cases l with
  | nil => rfl
  | cons c r =>
    unfold idB at h
    simp only [Bool.and_eq_true] at h
    rw [List.all_cons, small_ok h.1.1, h.1.2]; rfl
theorem name1 (κ : Nat) (nm rest : List UInt8) (L : Int) (h : idB nm = true) (hr : rest = [] ∨ ∃ d r, rest = d :: r ∧ okc d = false) (hl : (nm ++ rest).length ≤ 1000000) :
    path_reader_name κ (bs (nm ++ rest)) L 0 0 = some (bs nm, bs rest, L, 0, 0) := by
  rw [name_def, data_of, trimL nm rest (idB_all h) hr]
  simp only [sized]
  have hlen : (nm ++ rest).length = nm.length + rest.length := List.length_append
  have hw : IntKind.wrap .i64 ((((nm ++ rest).length : Nat) : Int) - ((rest.length : Nat) : Int)) = (nm.length : Int) := by
    rw [wrap_in _ (by omega) (by omega)]; omega
  rw [hw]
  rw [show decide ((0 : Int) ≤ (nm.length : Int)) = true from decide_eq_true (by omega), show decide ((nm.length : Int) ≤ (((nm ++ rest).length : Nat) : Int)) = true from decide_eq_true (by omega)]
  simp only [Int.le_refl, decide_true, Bool.and_self, bif_t, Int.toNat_natCast, Int.toNat_zero]
  rw [ext_mid]
  simp only [List.drop_zero, Nat.sub_zero, List.take_left]
  rw [ident, idn_eq, h]
  rfl
theorem step1 (κ : Nat) (n : Nat) (hn : n < 6) (x : ApiStep) (hx : badS x = false) (rest : List UInt8) (hr : rest = [] ∨ ∃ r, rest = 47 :: r) (L : Int) (hl : rest.length ≤ 1000) :
    path_reader_step κ (n : Int) (bs (txt1 x ++ rest)) L 0 0 = some (x.name, x.key, bs rest, L, 0, 0) := by
  obtain ⟨hi, hk⟩ := badS_no hx
  obtain ⟨nm, ky⟩ := x
  obtain ⟨l, rfl⟩ := as_list nm
  obtain ⟨q, rfl⟩ := as_list ky
  simp only [idn_eq] at hi hk
  have hll : l.length ≤ 12 := by have := idn_size (s := bs l) (by rw [idn_eq]; exact hi); rwa [sized] at this
  unfold path_reader_step path_reader_step.v0
  rw [show decide ((n : Int) ≥ 6) = false from decide_eq_false (by omega)]
  simp only [bif_f, Option.bind_some, path_reader_step.v2]
  have e1 : txt1 ⟨bs l, bs q⟩ ++ rest = 47 :: (l ++ (key1 ⟨bs l, bs q⟩ ++ rest)) := by simp [txt1]
  rw [e1, show (ByteArray.mk (List.toArray [(47 : UInt8)])) = bs [47] from rfl, sign1]
  simp only [Option.bind_some]
  unfold key1
  rw [seq_B0]
  have h47 : okc 47 = false := by decide
  have h91 : okc 91 = false := by decide
  have h93 : okc 93 = false := by decide
  by_cases hq : q = []
  · subst hq
    simp only [decide_true, bif_t, List.nil_append]
    rw [name1 κ l rest L hi (hr.imp id fun ⟨r, h⟩ => ⟨47, r, h, h47⟩) (by rw [List.length_append]; omega)]
    simp only [Option.bind_some]
    rw [show (ByteArray.mk (List.toArray [(91 : UInt8)])) = bs [91] from rfl, has1]
    have : decide (rest.head? = some 91) = false := by
      rcases hr with rfl | ⟨r, rfl⟩ <;> simp
    rw [this]
    rfl
  · rw [decide_eq_false hq]
    have hkq : idB q = true := hk (by rw [seq_B0]; exact decide_eq_false hq)
    have hql : q.length ≤ 12 := by have := idn_size (s := bs q) (by rw [idn_eq]; exact hkq); rwa [sized] at this
    simp only [bif_f, data_of]
    rw [show (91 :: (q ++ [93]) ++ rest : List UInt8) = 91 :: (q ++ (93 :: rest)) from by simp]
    rw [name1 κ l _ L hi (.inr ⟨91, _, rfl, h91⟩) (by simp; omega)]
    simp only [Option.bind_some]
    rw [show (ByteArray.mk (List.toArray [(91 : UInt8)])) = bs [91] from rfl, has1]
    simp only [List.head?_cons, decide_true, Option.bind_some, path_reader_step.v4, bif_t]
    rw [show (ByteArray.mk (List.toArray [(91 : UInt8)])) = bs [91] from rfl, sign1]
    simp only [Option.bind_some]
    rw [name1 κ q (93 :: rest) L hkq (.inr ⟨93, rest, rfl, h93⟩) (by simp; omega)]
    simp only [Option.bind_some]
    rw [show (ByteArray.mk (List.toArray [(93 : UInt8)])) = bs [93] from rfl, sign1]
    rfl
theorem txt_front : ∀ w : List ApiStep, txt w = [] ∨ ∃ r, txt w = 47 :: r
  | [] => .inl rfl
  | x :: l => .inr ⟨_, rfl⟩
theorem parse_loop (κ : Nat) (L : Int) : ∀ (w acc : List ApiStep) (K : Nat), w.any badS = false → acc.length + w.length ≤ 6 → w.length < K →
    path_Parse.l2 κ K (bs (txt w), L, 0, 0, acc) = some (bs [], L, 0, 0, acc ++ w)
  | w, acc, 0, _, _, h => by omega
  | [], acc, K + 1, _, _, _ => by
    unfold path_Parse.l2 path_Parse.w2 path_Parse.v3
    rw [show seq (bs (txt [])) (ByteArray.mk (List.toArray [])) = true from rfl]
    simp only [Bool.not_true, bif_f, Option.bind_some, List.append_nil]
    rfl
  | x :: l, acc, K + 1, hb, ha, hk => by
    have hb' := hb
    rw [List.any_cons, Bool.or_eq_false_iff] at hb
    rw [List.length_cons] at ha hk
    have hl := txt_len hb.2
    unfold path_Parse.l2 path_Parse.w2 path_Parse.v3
    rw [show seq (bs (txt (x :: l))) (ByteArray.mk (List.toArray [])) = false from by rw [show seq (bs (txt (x :: l))) (ByteArray.mk (List.toArray [])) = decide (txt (x :: l) = []) from seq_mk _ _]; simp [txt, txt1]]
    simp only [Bool.not_false, bif_t, Option.bind_some, show ((0 : Int) == 0) = true from rfl]
    rw [show bs (txt (x :: l)) = bs (txt1 x ++ txt l) from rfl, step1 κ acc.length (by omega) x hb.1 (txt l) (txt_front l) L (by omega)]
    simp only [Option.bind_some]
    rw [show Nat.ble (acc.length + ([(⟨x.name, x.key⟩ : ApiStep)]).length) (room (31 + 1)) = true from by rw [Nat.ble_eq]; exact Nat.le_trans (show _ ≤ 10 by simp; omega) (by decide)]
    simp only [bif_t]
    have ih := parse_loop κ L l (acc ++ [x]) K hb.2 (by rw [List.length_append, List.length_singleton]; omega) (by omega)
    rw [ih]
    simp
theorem parse_eq (κ : Nat) (hκ : 10 ≤ κ) (w : List ApiStep) (hb : w.any badS = false) (h0 : w ≠ []) (h6 : w.length ≤ 6) : path_Parse κ (bs (txt w)) = some (0, 0, w) := by
  cases w with
  | nil => exact (h0 rfl).elim
  | cons x l =>
    have hb' := hb
    rw [List.any_cons, Bool.or_eq_false_iff] at hb
    rw [List.length_cons] at h6
    have hl := txt_len hb.2
    have hi := (badS_no hb.1).1
    unfold path_Parse
    rw [show seq (bs (txt (x :: l))) (ByteArray.mk (List.toArray [(47 : UInt8)])) = decide (txt (x :: l) = [47]) from seq_mk _ _]
    rw [show decide (txt (x :: l) = [47]) = false from by
      refine decide_eq_false fun h => ?_
      have h2 : x.name.data.toList ++ key1 x ++ txt l = [] := by
        have : txt (x :: l) = 47 :: (x.name.data.toList ++ key1 x ++ txt l) := by simp [txt, txt1]
        rw [this] at h
        simpa using h
      have h3 : x.name.data.toList = [] := by simp at h2; simpa using h2.1
      have : x.name = bs [] := by rw [← mk_data x.name, h3]
      rw [this, idn_eq] at hi
      cases hi]
    simp only [bif_f]
    rw [show bs (txt (x :: l)) = bs (txt1 x ++ txt l) from rfl]
    have hs := step1 κ 0 (by omega) x hb.1 (txt l) (txt_front l) (((bs (txt1 x ++ txt l)).size : Nat) : Int) (by omega)
    simp only [Int.natCast_zero] at hs
    rw [hs]
    simp only [Option.bind_some]
    have h := parse_loop κ (((bs (txt1 x ++ txt l)).size : Nat) : Int) l [x] κ hb.2 (by simp; omega) (by omega)
    rw [show [(⟨x.name, x.key⟩ : ApiStep)] = [x] from rfl, h]
    rfl
theorem parse_none (k : Nat) : (path_Parse (k + 100) B0).isSome = true := by kernel_rfl
theorem parse_root (k : Nat) : path_Parse (k + 100) ⟨⟨[47]⟩⟩ = some (0, 0, []) := by kernel_rfl

theorem atV_sub (v : Int) (w : List ApiStep) : (atV v w).1 ∈ subs := by
  unfold atV
  have hz : specZero ∈ subs := by unfold subs; simp
  cases hr : rootOf v with
  | none => exact hz
  | some r =>
    simp only
    cases ha : atW r w with
    | inl t => exact atW_sub (rootOf_sub hr) ha
    | inr e => exact hz

theorem PathShows_eq (κ : Nat) (hκ : 100 ≤ κ) (v : Int) (w f : List ApiStep) (hf : Fits κ w) : tollbarlaw15_PathShows κ v w f = some true := by
  obtain ⟨k, hk⟩ : ∃ k, κ = k + 100 := ⟨κ - 100, by omega⟩
  unfold tollbarlaw15_PathShows tollbarlaw15_PathShows.v0
  rw [awake_eq hκ]
  simp only [Option.bind_some, Bool.not_true, bif_f]
  by_cases h1 : w.length > 20
  · rw [show decide (((w.length : Nat) : Int) > 20) = true from decide_eq_true (by omega)]; rfl
  · have h1' : w.length ≤ 20 := Nat.le_of_not_gt h1
    rw [show decide (((w.length : Nat) : Int) > 20) = false from decide_eq_false (by omega)]
    simp only [bif_f, Option.bind_some]
    by_cases h2 : f.length > 20
    · rw [show decide (((f.length : Nat) : Int) > 20) = true from decide_eq_true (by omega)]; rfl
    · have h2' : f.length ≤ 20 := Nat.le_of_not_gt h2
      rw [show decide (((f.length : Nat) : Int) > 20) = false from decide_eq_false (by omega)]
      simp only [bif_f, show_eq κ (by omega), at_eq κ (by omega) v w (by omega) (by omega), refAt_eq κ (by omega) v w (by omega) (by omega) hf, Option.bind_some]
      have hsub := atV_sub v w
      generalize atV v w = s at hsub
      have hp := plain_eq hκ hsub
      have hs := same_eq hκ hsub
      unfold same6 at hs
      obtain ⟨hu1, hu2⟩ := under_eq κ w f (by omega) (by omega)
      have hv2 : tollbarlaw15_PathShows.v2 κ w f (showV w) s.2 s.2 s.1.name s.1.kind s.1.type_ s.1.min s.1.max s.1.names s.1.must s.1.most s.1.kids (toS s.1).name (toS s.1).kind (toS s.1).type_ (toS s.1).min (toS s.1).max (toS s.1).names (toS s.1).must (toS s.1).most (toS s.1).kids = some (w, showV w, false) := by
        unfold tollbarlaw15_PathShows.v2
        rw [refShow_eq κ w (by omega) (by omega) hf]
        simp only [Option.bind_some, seq_self, Bool.not_true, bif_f, hp, fldS, hs, hu1, hu2]
        rw [show (s.2 != s.2) = false from by simp]
        simp
      simp only [tup, tupS]
      rw [hv2]
      simp only [Option.bind_some, bif_f]
      unfold tollbarlaw15_PathShows.v4
      by_cases h0 : w = []
      · subst h0
        have : showV [] = ⟨⟨[47]⟩⟩ := rfl
        rw [this, hk, parse_root]
        simp only [Option.bind_some]
        rw [show seq (⟨⟨[47]⟩⟩ : ByteArray) (ByteArray.mk (List.toArray [])) = false from rfl]
        simp only [bif_f]
        rw [steps_eq (k + 100) [] (by simp) (by simp)]
        rfl
      · have hl0 : ¬ w.length = 0 := fun h => h0 (List.length_eq_zero_iff.1 h)
        by_cases h6 : w.length > 6
        · have : showV w = B0 := by unfold showV; rw [if_neg hl0, if_pos h6]
          rw [this, hk]
          obtain ⟨q, hq⟩ := Option.isSome_iff_exists.1 (parse_none k)
          rw [hq]; rfl
        · cases hb : w.any badS
          · have : showV w = bs (txt w) := by unfold showV; rw [if_neg hl0, if_neg h6, hb]; rfl
            rw [this, parse_eq κ (by omega) w hb h0 (Nat.le_of_not_gt h6)]
            simp only [Option.bind_some]
            rw [show seq (bs (txt w)) (ByteArray.mk (List.toArray [])) = decide (txt w = []) from seq_mk _ _]
            rw [steps_eq κ w (by omega) (by omega)]
            cases decide (txt w = []) <;> rfl
          · have : showV w = B0 := by unfold showV; rw [if_neg hl0, if_neg h6, hb]; rfl
            rw [this, hk]
            obtain ⟨q, hq⟩ := Option.isSome_iff_exists.1 (parse_none k)
            rw [hq]; rfl

def bigW : List ApiStep → Nat
  | [] => 0
  | x :: l => x.name.size + x.key.size + bigW l
theorem bigW_le : ∀ (l : List ApiStep) (x : ApiStep), x ∈ l → x.name.size + x.key.size ≤ bigW l
  | [], _, h => by cases h
  | y :: l, x, h => by
    unfold bigW
    rcases List.mem_cons.1 h with rfl | h
    · omega
    · have := bigW_le l x h; omega
theorem PathShows_row {n1 n2 : Nat} {p : Prop} {wf2 : ApiStep → Prop} (v : Int) (hv : p) (w : List ApiStep) (hw : WfL n1 (fun x : ApiStep => x.name.size ≤ 140737488351232 ∧ x.key.size ≤ 140737488351232) w) (f : List ApiStep) (hf : WfL n2 wf2 f) :
    tollbarlaw15_PathShows (bigW w + 100) v w f = some true := by
  refine PathShows_eq _ (by omega) v w f fun x hx => ?_
  have h1 := bigW_le w x hx
  have h2 := hw.2.2 x hx
  omega
end Go.Proofs.YtooefkbecoopdaaDoor.Pa15

