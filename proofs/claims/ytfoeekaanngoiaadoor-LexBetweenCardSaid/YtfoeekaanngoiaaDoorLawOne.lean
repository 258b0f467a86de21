import Derived.Test.YtfoeekaanngoiaaDoorEvPlain
import Derived.Lib.MapLaws
import Derived.Lib.ValidLaws
import Derived.Lib.RuneCountTail
import Derived.Lib.IndexMore
import Derived.Lib.SlTrimSet
import Derived.Lib.RuneBytes
import Derived.Lib.IndexAny
set_option linter.unusedVariables false
set_option linter.unusedSimpArgs false
namespace Go.Proofs.YtfoeekaanngoiaaDoor.Lex5
open Go Go.Lib

def wd (l : List UInt8) : Nat := (decodeL l).2
def okS (l : List UInt8) : Bool := !(decide ((decodeL l).1 = 65533) && decide ((decodeL l).2 = 1))
structure Sg where
  t : List UInt8
  ok : Bool
  deriving DecidableEq

theorem wd_pos (l : List UInt8) : 1 ≤ wd l := decodeL_width l
theorem wd_le (l : List UInt8) (h : l ≠ []) : wd l ≤ l.length := decodeL_le l h

def signs (l : List UInt8) : List Sg :=
  if h : l = [] then [] else ⟨l.take (wd l), okS l⟩ :: signs (l.drop (wd l))
termination_by l.length
decreasing_by
  have := wd_pos l
  have : 0 < l.length := List.length_pos_iff.2 h
  rw [List.length_drop]; omega

theorem signs_nil : signs [] = [] := by rw [signs]; simp
theorem signs_ne (l : List UInt8) (h : l ≠ []) : signs l = ⟨l.take (wd l), okS l⟩ :: signs (l.drop (wd l)) := by
  rw [signs, dif_neg h]

/-- A byte below 128 in front is a sign. -/
theorem wd_ascii (b : UInt8) (t : List UInt8) (h : b.toNat < 128) : wd (b :: t) = 1 := by
  unfold wd; rw [decodeL_ascii b t h]
theorem okS_ascii (b : UInt8) (t : List UInt8) (h : b.toNat < 128) : okS (b :: t) = true := by
  unfold okS; rw [decodeL_ascii b t h]
  have : b.toNat ≠ 65533 := by omega
  simp [this]
theorem signs_ascii (b : UInt8) (t : List UInt8) (h : b.toNat < 128) : signs (b :: t) = ⟨[b], true⟩ :: signs t := by
  rw [signs_ne _ (by simp), wd_ascii b t h, okS_ascii b t h]; rfl

/-- What stands in front of a sign's end matters alone. -/
theorem getD_append_l (a r : List UInt8) (k : Nat) (h : k < a.length) : (a ++ r).getD k 0 = a.getD k 0 := by
  simp [List.getD, List.getElem?_append_left h]
set_option maxRecDepth 100000 in
set_option maxHeartbeats 4000000 in
/-- With a byte below 128 behind it a text's first sign is as without. -/
theorem decodeN_front (n n' b0 b1 b2 b3 c1 c2 c3 : Nat) (hn : 1 ≤ n) (hnn : n ≤ n') (e1 : 1 < n → c1 = b1) (e2 : 2 < n → c2 = b2) (e3 : 3 < n → c3 = b3)
    (x1 : n = 1 → c1 / 64 ≠ 2) (x2 : n = 2 → c2 / 64 ≠ 2) (x3 : n = 3 → c3 / 64 ≠ 2) : decodeN n' b0 c1 c2 c3 = decodeN n b0 b1 b2 b3 := by
  have cs : n = 1 ∨ n = 2 ∨ n = 3 ∨ 4 ≤ n := by omega
  rcases cs with rfl | rfl | rfl | h4
  · have h := x1 rfl
    unfold decodeN
    repeat' split
    all_goals first | rfl | (exfalso; omega)
  · have h := x2 rfl
    have E1 := e1 (by omega)
    subst E1
    unfold decodeN
    repeat' split
    all_goals first | rfl | (exfalso; omega)
  · have h := x3 rfl
    have E1 := e1 (by omega)
    have E2 := e2 (by omega)
    subst E1; subst E2
    unfold decodeN
    repeat' split
    all_goals first | rfl | (exfalso; omega)
  · have E1 := e1 (by omega)
    have E2 := e2 (by omega)
    have E3 := e3 (by omega)
    subst E1; subst E2; subst E3
    unfold decodeN
    have k1 : (1 < n) = True := by simp; omega
    have k2 : (2 < n) = True := by simp; omega
    have k3 : (3 < n) = True := by simp; omega
    have k1' : (1 < n') = True := by simp; omega
    have k2' : (2 < n') = True := by simp; omega
    have k3' : (3 < n') = True := by simp; omega
    simp only [k1, k2, k3, k1', k2', k3']

theorem decodeL_front (a : List UInt8) (b : UInt8) (r : List UInt8) (ha : a ≠ []) (hb : b.toNat < 128) : decodeL (a ++ b :: r) = decodeL a := by
  have hl : 0 < a.length := List.length_pos_iff.2 ha
  rw [decodeL_N, decodeL_N, getD_append_l a _ 0 hl]
  have nx : (a ++ b :: r).getD a.length 0 = b := by simp [List.getD]
  refine decodeN_front _ _ _ _ _ _ _ _ _ hl (by simp) (fun h => by rw [getD_append_l a _ 1 h]) (fun h => by rw [getD_append_l a _ 2 h]) (fun h => by rw [getD_append_l a _ 3 h]) (fun h => ?_) (fun h => ?_) (fun h => ?_)
  all_goals (rw [← h, nx]; omega)

/-- The signs of a text that goes on behind a byte below 128. -/
theorem signs_front (a : List UInt8) (b : UInt8) (r : List UInt8) (hb : b.toNat < 128) : signs (a ++ b :: r) = signs a ++ ⟨[b], true⟩ :: signs r := by
  induction h : a.length using Nat.strongRecOn generalizing a with
  | _ n ih =>
    by_cases ha : a = []
    · subst ha; simp [signs_nil, signs_ascii b r hb]
    · have hd := decodeL_front a b r ha hb
      have hl := wd_le a ha
      have hp := wd_pos a
      have hw : wd (a ++ b :: r) = wd a := by unfold wd; rw [hd]
      rw [signs_ne (a ++ b :: r) (by simp), signs_ne a ha, hw, List.take_append_of_le_length hl, List.drop_append_of_le_length hl]
      have hk : okS (a ++ b :: r) = okS a := by unfold okS; rw [hd]
      rw [hk, ih (a.drop (wd a)).length (by rw [List.length_drop]; omega) _ rfl]
      rfl

structure Tk where
  kind : Int
  text : List UInt8
  line : Int
  col : Int
  deriving DecidableEq

abbrev Ps := Int × Int
def adv (p : Ps) (t : List UInt8) : Ps := if t = [10] then (p.1 + 1, 1) else (p.1, p.2 + 1)

def letterB (b : UInt8) : Bool :=
  (97 ≤ b.toNat && b.toNat ≤ 122) || (65 ≤ b.toNat && b.toNat ≤ 90) || (48 ≤ b.toNat && b.toNat ≤ 57) || b.toNat == 95 || b.toNat == 45 || b.toNat == 46
def letter : List UInt8 → Bool
  | [b] => letterB b
  | _ => false
def hexB (b : UInt8) : Option Nat :=
  if 48 ≤ b.toNat ∧ b.toNat ≤ 57 then some (b.toNat - 48) else if 97 ≤ b.toNat ∧ b.toNat ≤ 102 then some (b.toNat - 87) else none
def hexv : List UInt8 → Option Nat
  | [b] => hexB b
  | _ => none

inductive St
  | idle
  | note
  | word (acc : List UInt8) (at_ : Ps)
  | str (acc : List UInt8) (at_ : Ps)
  | esc (acc : List UInt8) (at_ : Ps)
  | hx1 (acc : List UInt8) (at_ : Ps)
  | hx2 (acc : List UInt8) (at_ : Ps) (d : Nat)

def blank (t : List UInt8) : Bool := t = [32] || t = [9] || t = [13] || t = [10]

def idleStep (c : Sg) (p : Ps) : Option (St × List Tk) :=
  if blank c.t then some (.idle, [])
  else if c.t = [35] then some (.note, [])
  else if c.t = [123] then some (.idle, [⟨3, [], p.1, p.2⟩])
  else if c.t = [125] then some (.idle, [⟨4, [], p.1, p.2⟩])
  else if c.t = [59] then some (.idle, [⟨5, [], p.1, p.2⟩])
  else if c.t = [34] then some (.str [] p, [])
  else if letter c.t then some (.word c.t p, [])
  else none

def step : St → Sg → Ps → Option (St × List Tk)
  | .idle, c, p => idleStep c p
  | .note, c, _ => if c.t = [10] then some (.idle, []) else some (.note, [])
  | .word acc at_, c, p => if letter c.t then some (.word (acc ++ c.t) at_, []) else (idleStep c p).map fun x => (x.1, ⟨1, acc, at_.1, at_.2⟩ :: x.2)
  | .str acc at_, c, _ =>
    if c.t = [34] then some (.idle, [⟨2, acc, at_.1, at_.2⟩])
    else if c.t = [10] || !c.ok then none
    else if c.t = [92] then some (.esc acc at_, [])
    else some (.str (acc ++ c.t) at_, [])
  | .esc acc at_, c, _ =>
    if c.t = [34] || c.t = [92] then some (.str (acc ++ c.t) at_, [])
    else if c.t = [110] then some (.str (acc ++ [10]) at_, [])
    else if c.t = [116] then some (.str (acc ++ [9]) at_, [])
    else if c.t = [120] then some (.hx1 acc at_, [])
    else none
  | .hx1 acc at_, c, _ => (hexv c.t).map fun d => (.hx2 acc at_ d, [])
  | .hx2 acc at_ d, c, _ => (hexv c.t).map fun e => (.str (acc ++ [UInt8.ofNat (16 * d + e)]) at_, [])

def fin : St → Option (List Tk)
  | .idle => some []
  | .note => some []
  | .word acc at_ => some [⟨1, acc, at_.1, at_.2⟩]
  | _ => none

/-- What it comes to: where it is wrong, or the tokens, without the last one, and where that is. -/
def run : St → Ps → List Sg → Ps ⊕ (List Tk × Ps)
  | s, p, [] => match fin s with
    | some ts => .inr (ts, p)
    | none => .inl p
  | s, p, c :: l => match step s c p with
    | none => .inl p
    | some (s', ts) => match run s' (adv p c.t) l with
      | .inl q => .inl q
      | .inr (us, q) => .inr (ts ++ us, q)

def pre (ts : List Tk) : Ps ⊕ (List Tk × Ps) → Ps ⊕ (List Tk × Ps)
  | .inl q => .inl q
  | .inr (us, q) => .inr (ts ++ us, q)
theorem run_cons (s : St) (p : Ps) (c : Sg) (l : List Sg) : run s p (c :: l) = match step s c p with
    | none => .inl p
    | some (s', ts) => pre ts (run s' (adv p c.t) l) := by
  cases h : step s c p with
  | none => simp [run, h]
  | some x =>
    obtain ⟨s', ts⟩ := x
    simp only [run, h]
    cases run s' (adv p c.t) l <;> rfl
theorem pre_nil (x : Ps ⊕ (List Tk × Ps)) : pre [] x = x := by cases x <;> rfl
theorem pre_pre (a b : List Tk) (x : Ps ⊕ (List Tk × Ps)) : pre a (pre b x) = pre (a ++ b) x := by cases x <;> simp [pre]

/-- The tokens of a text, or where it is wrong. -/
def lexAll (l : List UInt8) : Ps ⊕ (List Tk × Ps) := run .idle (1, 1) (signs l)
/-- With the last token. -/
def full : List Tk × Ps → List Tk
  | (ts, p) => ts ++ [⟨0, [], p.1, p.2⟩]
attribute [irreducible] okS hexB letterB
end Go.Proofs.YtfoeekaanngoiaaDoor.Lex5


namespace Go.Proofs.YtfoeekaanngoiaaDoor.Ev
open Go Go.Lib

theorem bs_size (l : List UInt8) : (ByteArray.mk (List.toArray l)).size = l.length := by simp [Lib.size_eq]
theorem bs_data (l : List UInt8) : Array.toList (ByteArray.data (ByteArray.mk (List.toArray l))) = l := by simp
theorem bs_seq (a b : List UInt8) : Ev.seq (ByteArray.mk (List.toArray a)) (ByteArray.mk (List.toArray b)) = (a == b) := by simp [seq]
theorem bs_extract (l : List UInt8) (i j : Nat) : ByteArray.extract (ByteArray.mk (List.toArray l)) i j = ByteArray.mk (List.toArray ((l.drop i).take (j - i))) := by
  rw [Lib.extract_eq]
theorem bs_decode (l : List UInt8) (i : Nat) : Go.Utf8.decode (ByteArray.mk (List.toArray l)) i = decodeL (l.drop i) := by
  rw [← decodeL_drop]
theorem bs_append (a b : List UInt8) : ByteArray.mk (List.toArray a) ++ ByteArray.mk (List.toArray b) = ByteArray.mk (List.toArray (a ++ b)) := by
  apply ByteArray.ext
  rw [ByteArray.data_append]
  simp
theorem bs_of (s : ByteArray) : s = ByteArray.mk (List.toArray s.data.toList) := by cases s; simp
theorem wrap_in (n : Int) (h0 : -9223372036854775808 ≤ n) (h1 : n ≤ 9223372036854775807) : IntKind.wrap IntKind.i64 n = n := by
  rw [IntKind.wrap_i64]; omega
theorem wrap_u8 (n : Int) (h0 : 0 ≤ n) (h1 : n ≤ 255) : IntKind.wrap IntKind.u8 n = n := by
  unfold IntKind.wrap; simp [IntKind.bits, IntKind.signed]; omega
end Go.Proofs.YtfoeekaanngoiaaDoor.Ev


namespace Go.Proofs.YtfoeekaanngoiaaDoor.Lex5
open Go Go.Lib Ev Ev.Seat

def sgn (l : List UInt8) : List UInt8 := l.take (wd l)
def rst (l : List UInt8) : List UInt8 := l.drop (wd l)
theorem signs_sgn (l : List UInt8) (h : l ≠ []) : signs l = ⟨sgn l, okS l⟩ :: signs (rst l) := signs_ne l h
theorem rst_lt (l : List UInt8) (h : l ≠ []) : (rst l).length < l.length := by
  unfold rst
  have := wd_pos l
  have : 0 < l.length := List.length_pos_iff.2 h
  rw [List.length_drop]; omega
theorem sgn_ne (l : List UInt8) (h : l ≠ []) : sgn l ≠ [] := by
  unfold sgn
  have hw := wd_pos l
  intro h0
  have h1 := congrArg List.length h0
  rw [List.length_take] at h1
  have h2 : 0 < l.length := List.length_pos_iff.2 h
  simp only [List.length_nil] at h1; omega
theorem sgn_nil : sgn [] = [] := rfl
/-- A sign of one byte below 128, or one of whose bytes the first one is above. -/
theorem sgn_cases (l : List UInt8) (h : l ≠ []) : (∃ b t, l = b :: t ∧ b.toNat < 128 ∧ sgn l = [b] ∧ rst l = t) ∨ (∃ b t, sgn l = b :: t ∧ 128 ≤ b.toNat) := by
  cases l with
  | nil => exact absurd rfl h
  | cons b t =>
    by_cases hb : b.toNat < 128
    · exact .inl ⟨b, t, rfl, hb, by unfold sgn; rw [wd_ascii b t hb]; rfl, by unfold rst; rw [wd_ascii b t hb]; rfl⟩
    · refine .inr ⟨b, t.take (wd (b :: t) - 1), ?_, by omega⟩
      unfold sgn
      have := wd_pos (b :: t)
      obtain ⟨k, hk⟩ : ∃ k, wd (b :: t) = k + 1 := ⟨wd (b :: t) - 1, by omega⟩
      rw [hk]; simp

/-- Lines and columns that are far from an int's end. -/
def Ok (p : Ps) (n : Nat) : Prop := 1 ≤ p.1 ∧ 1 ≤ p.2 ∧ p.1 + n ≤ 1000000 ∧ p.2 + n ≤ 1000000
theorem Ok.adv {p : Ps} {n m : Nat} (h : Ok p n) (t : List UInt8) (hm : m < n) : Ok (adv p t) m := by
  unfold Ok Lex5.adv at *
  split <;> simp only <;> omega
theorem Ok.le {p : Ps} {n m : Nat} (h : Ok p n) (hm : m ≤ n) : Ok p m := by
  unfold Ok at *; omega

theorem bif_t {α : Type} (a b : α) : (bif true then a else b) = a := rfl
theorem bif_f {α : Type} (a b : α) : (bif false then a else b) = b := rfl

theorem next_eq {κ : Nat} (hκ : 2 ≤ κ) (l : List UInt8) (a b : Int) : lex_reader_next κ ((ByteArray.mk (List.toArray l))) a b = some ((ByteArray.mk (List.toArray (sgn l))), (ByteArray.mk (List.toArray l)), a, b) := by
  obtain ⟨k, rfl⟩ : ∃ k, κ = k + 2 := ⟨κ - 2, by omega⟩
  by_cases h : l = []
  · subst h
    simp [lex_reader_next, lex_reader_next.l0, lex_reader_next.w0, bs_size, sgn_nil, Nat.blt_eq]
    rfl
  · have hp := wd_pos l
    have hl := wd_le l h
    have h0 : 0 < l.length := List.length_pos_iff.2 h
    have e1 : Nat.blt 0 l.length = true := by simp [Nat.blt_eq, h0]
    have e2 : decide (((0 : Nat) : Int) > 0) = false := by decide
    have e3 : (decodeL (l.drop 0)).2 = wd l := rfl
    simp only [lex_reader_next, lex_reader_next.l0, lex_reader_next.w0, bs_size, bs_decode, bs_extract, e1, e2, e3, bif_t, bif_f, Nat.zero_add]
    by_cases hlt : wd l < l.length
    · have e4 : Nat.blt (wd l) l.length = true := by simp [Nat.blt_eq, hlt]
      have e5 : decide (((wd l : Nat) : Int) > 0) = true := by simp; omega
      have e6 : decide (((wd l : Nat) : Int) ≤ (l.length : Int)) = true := by simp; omega
      have e7 : decide ((0 : Int) ≤ ((wd l : Nat) : Int)) = true := by simp
      rw [e4, e5, e6, e7]
      simp [sgn, Option.bind_some]
    · have e4 : Nat.blt (wd l) l.length = false := by
        cases hh : Nat.blt (wd l) l.length
        · rfl
        · rw [Nat.blt_eq] at hh; exact absurd hh hlt
      rw [e4]
      have : l.take (wd l) = l := List.take_of_length_le (by omega)
      simp [sgn, Option.bind_some, this]

theorem take_eq {κ : Nat} (hκ : 2 ≤ κ) (l : List UInt8) {p : Ps} {n : Nat} (hp : Ok p n) : lex_reader_take κ ((ByteArray.mk (List.toArray l))) p.1 p.2 = some ((ByteArray.mk (List.toArray (sgn l))), (ByteArray.mk (List.toArray (rst l))), (adv p (sgn l)).1, (adv p (sgn l)).2) := by
  have hlen : (sgn l).length ≤ l.length := by unfold sgn; rw [List.length_take]; omega
  have hr : (l.drop (sgn l).length).take (l.length - (sgn l).length) = rst l := by
    rw [List.take_of_length_le (by rw [List.length_drop]; omega)]
    unfold rst sgn
    rw [List.length_take]
    by_cases h : wd l ≤ l.length
    · rw [Nat.min_eq_left h]
    · rw [Nat.min_eq_right (by omega), List.drop_eq_nil_of_le (by omega), List.drop_eq_nil_of_le (by omega)]
  have w1 : IntKind.wrap IntKind.i64 (p.2 + 1) = p.2 + 1 := wrap_in _ (by have := hp.2.1; omega) (by have := hp.2.2.2; omega)
  have w2 : IntKind.wrap IntKind.i64 (p.1 + 1) = p.1 + 1 := wrap_in _ (by have := hp.1; omega) (by have := hp.2.2.1; omega)
  simp only [lex_reader_take, lex_reader_take.v0, next_eq hκ, Option.bind_some, bs_size, bs_extract, bs_seq, w1, w2]
  have e1 : decide ((l.length : Int) ≤ (l.length : Int)) = true := by simp
  have e2 : decide ((0 : Int) ≤ (((sgn l).length : Nat) : Int)) = true := by simp
  have e3 : decide ((((sgn l).length : Nat) : Int) ≤ (l.length : Int)) = true := by simp; omega
  rw [e1, e2, e3]
  simp only [Bool.and_self, bif_t, Int.toNat_natCast, hr]
  by_cases h10 : sgn l = [10]
  · rw [h10]; simp [adv, h10]
  · have : (sgn l == [10]) = false := by simp [h10]
    rw [this]; simp [adv, h10]

theorem index_high (hs : List UInt8) (hh : ∀ b ∈ hs, b.toNat < 128) (b : UInt8) (t : List UInt8) (hb : 128 ≤ b.toNat) : index hs (b :: t) = -1 := by
  induction hs with
  | nil => simp [index]
  | cons x hs ih =>
    have hx : x.toNat < 128 := hh x (by simp)
    have hne : (b == x) = false := by
      simp only [beq_eq_false_iff_ne]; rintro rfl; omega
    rw [index, ih fun y hy => hh y (by simp [hy])]
    simp [List.isPrefixOf, hne]

theorem all_bytes {p : UInt8 → Prop} [DecidablePred p] (h : ∀ i : Fin 256, p (UInt8.ofNat i.val)) (b : UInt8) : p b := by
  have := h ⟨b.toNat, b.toNat_lt⟩
  simpa using this
theorem index_hex (b : UInt8) : index [48, 49, 50, 51, 52, 53, 54, 55, 56, 57, 97, 98, 99, 100, 101, 102] [b] = (match hexB b with | some d => (d : Int) | none => -1) := by
  refine all_bytes (p := fun b => index [48, 49, 50, 51, 52, 53, 54, 55, 56, 57, 97, 98, 99, 100, 101, 102] [b] = (match hexB b with | some d => (d : Int) | none => -1)) ?_ b
  decide +kernel
theorem hexB_lt (b : UInt8) (d : Nat) (h : hexB b = some d) : d < 16 ∧ b.toNat < 128 := by
  unfold hexB at h
  split at h
  · cases h; omega
  · split at h
    · cases h; omega
    · cases h

theorem hexv_sgn (l : List UInt8) (h : l ≠ []) : (hexv (sgn l) = none) ∨ ∃ b t d, l = b :: t ∧ sgn l = [b] ∧ hexB b = some d := by
  rcases sgn_cases l h with ⟨b, t, rfl, hb, h1, h2⟩ | ⟨b, t, h1, hb⟩
  · rw [h1]
    cases hd : hexB b with
    | none => left; simp [hexv, hd]
    | some d => right; exact ⟨b, t, d, rfl, rfl, hd⟩
  · left
    rw [h1]
    cases t with
    | nil =>
      simp only [hexv]
      cases hd : hexB b with
      | none => rfl
      | some d => have := (hexB_lt b d hd).2; omega
    | cons => rfl

/-- What the program's panic carries. -/
abbrev Pn := Int × Int × ByteArray × Int × Int
theorem digit_eq {κ : Nat} (hκ : 2 ≤ κ) (l : List UInt8) {p : Ps} {n : Nat} (hp : Ok p n) :
    match hexv (sgn l) with
    | some d => lex_reader_digit κ ((ByteArray.mk (List.toArray l))) p.1 p.2 = some (.inl ((d : Int), (ByteArray.mk (List.toArray (rst l))), (adv p (sgn l)).1, (adv p (sgn l)).2))
    | none => ∃ b, lex_reader_digit κ ((ByteArray.mk (List.toArray l))) p.1 p.2 = some (.inr (p.1, p.2, b, p.1, p.2)) := by
  simp only [lex_reader_digit, lex_reader_digit.v0, lex_reader_digit.v2, next_eq hκ, Option.bind_some, bs_seq, bs_data, bs_size]
  by_cases h : l = []
  · subst h
    simp [sgn_nil, hexv]
  · have h0 : (l == []) = false := by simp [h]
    rw [h0]
    simp only [bif_f]
    rcases hexv_sgn l h with hn | ⟨b, t, d, rfl, h1, hd⟩
    · rw [hn]
      simp only
      by_cases hlen : (sgn l).length > 1
      · have : decide ((((sgn l).length : Nat) : Int) > 1) = true := by simp; omega
        rw [this]; simp
      · have e : decide ((((sgn l).length : Nat) : Int) > 1) = false := by simp; omega
        rw [e]
        simp only [bif_f]
        have hs := sgn_ne l h
        obtain ⟨b, hb⟩ : ∃ b, sgn l = [b] := by
          cases hh : sgn l with
          | nil => exact absurd hh hs
          | cons b t =>
            cases t with
            | nil => exact ⟨b, rfl⟩
            | cons => rw [hh] at hlen; simp at hlen
        rw [hb, index_hex]
        rw [hb] at hn
        simp only [hexv] at hn
        rw [hn]
        simp
    · rw [h1]
      simp only [hexv, hd]
      rw [index_hex, hd]
      have e : decide ((([b].length : Nat) : Int) > 1) = false := by simp
      rw [e]
      have e2 : decide ((d : Int) < 0) = false := by simp
      simp only [bif_f, e2, Option.bind_some, take_eq hκ _ hp, h1]
      rw [wrap_u8 _ (by omega) (by have := (hexB_lt b d hd).1; omega)]
attribute [irreducible] sgn rst
end Go.Proofs.YtfoeekaanngoiaaDoor.Lex5


namespace Go.Proofs.YtfoeekaanngoiaaDoor.Lex5
open Go Go.Lib Ev Ev.Seat

def escB (b : UInt8) : Option UInt8 := if b = 34 then some 34 else if b = 92 then some 92 else if b = 110 then some 10 else if b = 116 then some 9 else none
def escL : List UInt8 → Option UInt8
  | [b] => escB b
  | _ => none
def escI (b : UInt8) : Int := if b = 34 then 0 else if b = 92 then 1 else if b = 110 then 2 else if b = 116 then 3 else -1
theorem index_esc (b : UInt8) : index [34, 92, 110, 116] [b] = escI b := by
  refine all_bytes (p := fun b => index [34, 92, 110, 116] [b] = escI b) ?_ b
  decide +kernel
theorem byte_of (d e : Nat) (hd : d < 16) (he : e < 16) : UInt8.ofNat (Int.toNat (IntKind.wrap IntKind.u8 (((BitVec.toNat (HOr.hOr (BitVec.ofInt (IntKind.bits IntKind.u8) (IntKind.wrap IntKind.u8 ((d : Int) * ((2 : Int) ^ (Min.min (Int.toNat (4 : Int)) (IntKind.bits IntKind.u8)))))) (BitVec.ofInt (IntKind.bits IntKind.u8) (e : Int)))) : Nat) : Int))) = UInt8.ofNat (16 * d + e) := by
  have : ∀ d e : Fin 16, UInt8.ofNat (Int.toNat (IntKind.wrap IntKind.u8 (((BitVec.toNat (HOr.hOr (BitVec.ofInt (IntKind.bits IntKind.u8) (IntKind.wrap IntKind.u8 ((d.val : Int) * ((2 : Int) ^ (Min.min (Int.toNat (4 : Int)) (IntKind.bits IntKind.u8)))))) (BitVec.ofInt (IntKind.bits IntKind.u8) (e.val : Int)))) : Nat) : Int))) = UInt8.ofNat (16 * d.val + e.val) := by decide +kernel
  exact this ⟨d, hd⟩ ⟨e, he⟩

/-- What is behind a backslash: where it is wrong, or what it says, and what is left. -/
def escS (l : List UInt8) (p : Ps) : Ps ⊕ (UInt8 × List UInt8 × Ps) :=
  if sgn l = [120] then
    match hexv (sgn (rst l)) with
    | none => .inl (adv p (sgn l))
    | some d => match hexv (sgn (rst (rst l))) with
      | none => .inl (adv (adv p (sgn l)) (sgn (rst l)))
      | some e => .inr (UInt8.ofNat (16 * d + e), rst (rst (rst l)), adv (adv (adv p (sgn l)) (sgn (rst l))) (sgn (rst (rst l))))
  else match escL (sgn l) with
    | some x => .inr (x, rst l, adv p (sgn l))
    | none => .inl p

theorem hexv_lt (t : List UInt8) (d : Nat) (h : hexv t = some d) : d < 16 := by
  unfold hexv at h
  split at h
  · exact (hexB_lt _ _ h).1
  · cases h
theorem Ok.step {p : Ps} {n : Nat} (h : Ok p (n + 1)) (t : List UInt8) : Ok (Lex5.adv p t) n := h.adv t (by omega)

theorem escape_eq {κ : Nat} (hκ : 2 ≤ κ) (l : List UInt8) {p : Ps} {n : Nat} (hp : Ok p (n + 3)) :
    match escS l p with
    | .inl q => ∃ b, lex_reader_escape κ ((ByteArray.mk (List.toArray l))) p.1 p.2 = some (.inr (q.1, q.2, b, q.1, q.2))
    | .inr (x, m, q) => lex_reader_escape κ ((ByteArray.mk (List.toArray l))) p.1 p.2 = some (.inl ((ByteArray.mk (List.toArray [x])), (ByteArray.mk (List.toArray m)), q.1, q.2)) := by
  unfold escS
  simp only [lex_reader_escape, next_eq hκ, Option.bind_some, bs_seq, take_eq hκ _ hp]
  by_cases hx : sgn l = [120]
  · have e : (sgn l == [120]) = true := by simp [hx]
    rw [e]
    simp only [bif_t, hx, if_true]
    have hp1 : Ok (adv p [120]) (n + 2) := hp.step _
    have h1 := digit_eq hκ (rst l) hp1
    cases hd : hexv (sgn (rst l)) with
    | none =>
      rw [hd] at h1
      obtain ⟨b, h1⟩ := h1
      exact ⟨b, by rw [h1]; simp only [Option.bind_some]⟩
    | some d =>
      rw [hd] at h1
      simp only at h1
      rw [h1]
      have hp2 : Ok (adv (adv p [120]) (sgn (rst l))) (n + 1) := hp1.step _
      have h2 := digit_eq hκ (rst (rst l)) hp2
      simp only
      cases he : hexv (sgn (rst (rst l))) with
      | none =>
        rw [he] at h2
        obtain ⟨b, h2⟩ := h2
        exact ⟨b, by simp only [Option.bind_some, h2]⟩
      | some e =>
        rw [he] at h2
        simp only at h2
        simp only [Option.bind_some, h2, List.map_cons, List.map_nil]
        rw [byte_of d e (hexv_lt _ _ hd) (hexv_lt _ _ he)]
  · have e : (sgn l == [120]) = false := by simp [hx]
    rw [e]
    simp only [bif_f, hx, if_false, lex_reader_escape.v0, lex_reader_escape.v2, bs_seq, bs_data, Option.bind_some]
    by_cases h : l = []
    · subst h
      simp only [sgn_nil, escL]
      exact ⟨_, rfl⟩
    · have hs : (sgn l == []) = false := by simp [sgn_ne l h]
      rw [hs]
      simp only [bif_f]
      rcases sgn_cases l h with ⟨b, t, rfl, hb, h1, h2⟩ | ⟨b, t, h1, hb⟩
      · have ht := take_eq hκ (b :: t) hp
        rw [h1] at ht ⊢
        rw [index_esc]
        have w : ∀ i : Nat, i < 4 → IntKind.wrap IntKind.i64 ((i : Int) + 1) = ((i + 1 : Nat) : Int) := fun i hi => by rw [wrap_in _ (by omega) (by omega)]; rfl
        have w0 := w 0 (by omega)
        have w1 := w 1 (by omega)
        have w2 := w 2 (by omega)
        have w3 := w 3 (by omega)
        by_cases c1 : b = 34
        · subst c1
          simp only [escL, show escB 34 = some 34 from rfl, show escI 34 = ((0 : Nat) : Int) from rfl, Option.bind_some, show decide (((0 : Nat) : Int) < 0) = false from rfl, bif_f, ht, w0]
          rfl
        by_cases c2 : b = 92
        · subst c2
          simp only [escL, show escB 92 = some 92 from rfl, show escI 92 = ((1 : Nat) : Int) from rfl, Option.bind_some, show decide (((1 : Nat) : Int) < 0) = false from rfl, bif_f, ht, w1]
          rfl
        by_cases c3 : b = 110
        · subst c3
          simp only [escL, show escB 110 = some 10 from rfl, show escI 110 = ((2 : Nat) : Int) from rfl, Option.bind_some, show decide (((2 : Nat) : Int) < 0) = false from rfl, bif_f, ht, w2]
          rfl
        by_cases c4 : b = 116
        · subst c4
          simp only [escL, show escB 116 = some 9 from rfl, show escI 116 = ((3 : Nat) : Int) from rfl, Option.bind_some, show decide (((3 : Nat) : Int) < 0) = false from rfl, bif_f, ht, w3]
          rfl
        simp only [escL, escB, escI, c1, c2, c3, c4, if_false]
        exact ⟨_, rfl⟩
      · rw [h1, index_high [34, 92, 110, 116] (by decide) b t hb]
        have : escL (b :: t) = none := by
          cases t with
          | nil =>
            simp only [escL, escB]
            rw [if_neg (by rintro rfl; exact absurd hb (by decide)), if_neg (by rintro rfl; exact absurd hb (by decide)), if_neg (by rintro rfl; exact absurd hb (by decide)), if_neg (by rintro rfl; exact absurd hb (by decide))]
          | cons => rfl
        rw [this]
        exact ⟨_, rfl⟩

/-- The machine goes the same way. -/
theorem run_esc (acc : List UInt8) (at_ : Ps) (l : List UInt8) (p : Ps) : run (.esc acc at_) p (signs l) = match escS l p with
    | .inl q => .inl q
    | .inr (x, m, q) => run (.str (acc ++ [x]) at_) q (signs m) := by
  unfold escS
  by_cases h : l = []
  · subst h; simp [signs_nil, run, fin, sgn_nil, escL]
  · rw [signs_sgn l h, run_cons]
    by_cases hx : sgn l = [120]
    · simp only [hx, if_true, step]
      have e1 : ([120] : List UInt8) ≠ [34] := by decide
      have e2 : ([120] : List UInt8) ≠ [92] := by decide
      have e3 : ([120] : List UInt8) ≠ [110] := by decide
      have e4 : ([120] : List UInt8) ≠ [116] := by decide
      simp only [e1, e2, e3, e4, decide_false, Bool.or_self, if_false, Bool.false_eq_true, pre_nil, false_or]
      by_cases h2 : rst l = []
      · simp [h2, signs_nil, run, fin, sgn_nil, hexv]
      · rw [signs_sgn _ h2, run_cons]
        simp only [step]
        cases hd : hexv (sgn (rst l)) with
        | none => rfl
        | some d =>
          simp only [Option.map_some, pre_nil]
          by_cases h3 : rst (rst l) = []
          · simp [h3, signs_nil, run, fin, sgn_nil, hexv]
          · rw [signs_sgn _ h3, run_cons]
            simp only [step]
            cases he : hexv (sgn (rst (rst l))) with
            | none => rfl
            | some e => simp only [Option.map_some, pre_nil]
    · simp only [hx, if_false, step]
      rcases sgn_cases l h with ⟨b, t, rfl, hb, h1, h2⟩ | ⟨b, t, h1, hb⟩
      · rw [h1] at hx ⊢
        simp only [escL]
        have hx' : b ≠ 120 := fun h => hx (by rw [h])
        by_cases c1 : b = 34
        · subst c1; simp [escB, pre_nil]
        by_cases c2 : b = 92
        · subst c2; simp [escB, pre_nil]
        by_cases c3 : b = 110
        · subst c3; simp [escB, pre_nil]
        by_cases c4 : b = 116
        · subst c4; simp [escB, pre_nil]
        simp [escB, c1, c2, c3, c4, hx']
      · rw [h1] at hx ⊢
        have n1 : b ≠ 34 := by rintro rfl; exact absurd hb (by decide)
        have n2 : b ≠ 92 := by rintro rfl; exact absurd hb (by decide)
        have n3 : b ≠ 110 := by rintro rfl; exact absurd hb (by decide)
        have n4 : b ≠ 116 := by rintro rfl; exact absurd hb (by decide)
        have n5 : b ≠ 120 := by rintro rfl; exact absurd hb (by decide)
        have : escL (b :: t) = none := by
          cases t with
          | nil => simp [escL, escB, n1, n2, n3, n4]
          | cons => rfl
        simp [this, n1, n2, n3, n4, n5]
end Go.Proofs.YtfoeekaanngoiaaDoor.Lex5


namespace Go.Proofs.YtfoeekaanngoiaaDoor.Lex5
open Go Go.Lib Ev Ev.Seat

set_option maxRecDepth 100000 in
set_option maxHeartbeats 4000000 in
theorem decodeN_self (n b0 b1 b2 b3 k c1 c2 c3 : Nat) (h0 : b0 < 256) (hk : (decodeN n b0 b1 b2 b3).2 = k) (e1 : 1 < k → c1 = b1) (e2 : 2 < k → c2 = b2) (e3 : 3 < k → c3 = b3) :
    decodeN k b0 c1 c2 c3 = decodeN n b0 b1 b2 b3 := by
  rcases decodeN_shape n b0 b1 b2 b3 with ⟨c, e⟩ | ⟨d1, d2, d3, cv, e⟩ | ⟨d1, d2, d3, d4, cv, cs, e⟩ | ⟨d1, d2, d3, d4, d5, cv, cw, e⟩ | e
  · rw [e, decodeN_ascii _ _ _ _ _ c]
  · rw [e] at hk ⊢
    simp only at hk
    subst hk
    have E1 := e1 (by omega)
    subst E1
    unfold decodeN
    repeat' split
    all_goals first | rfl | (exfalso; omega)
  · rw [e] at hk ⊢
    simp only at hk
    subst hk
    have E1 := e1 (by omega)
    have E2 := e2 (by omega)
    subst E1; subst E2
    unfold decodeN
    repeat' split
    all_goals first | rfl | (exfalso; omega)
  · rw [e] at hk ⊢
    simp only at hk
    subst hk
    have E1 := e1 (by omega)
    have E2 := e2 (by omega)
    have E3 := e3 (by omega)
    subst E1; subst E2; subst E3
    unfold decodeN
    repeat' split
    all_goals first | rfl | (exfalso; omega)
  · have hb : 128 ≤ b0 := by
      by_cases hb : b0 < 128
      · rw [decodeN_ascii _ _ _ _ _ hb] at e
        have := congrArg Prod.fst e
        simp only at this; omega
      · omega
    rw [e] at hk ⊢
    simp only at hk
    subst hk
    exact decodeN_alone _ _ _ _ _ hb (.inl (Nat.le_refl _))

theorem sgn_def (l : List UInt8) : sgn l = l.take (wd l) := by unfold sgn; rfl
theorem rst_def (l : List UInt8) : rst l = l.drop (wd l) := by unfold rst; rfl
theorem sgn_rst (l : List UInt8) : sgn l ++ rst l = l := by rw [sgn_def, rst_def]; exact List.take_append_drop _ _
theorem sgn_len (l : List UInt8) (h : l ≠ []) : (sgn l).length = wd l := by
  rw [sgn_def, List.length_take, Nat.min_eq_left (wd_le l h)]
theorem decodeL_sgn (l : List UInt8) (h : l ≠ []) : decodeL (sgn l) = decodeL l := by
  have hl := wd_le l h
  have hp := wd_pos l
  have g : ∀ i, i < wd l → (sgn l).getD i 0 = l.getD i 0 := fun i hi => by rw [sgn_def]; simp [List.getD, hi]
  rw [decodeL_N (sgn l), decodeL_N l, g 0 (by omega), sgn_len l h]
  refine decodeN_self _ _ _ _ _ _ _ _ _ (UInt8.toNat_lt _) ?_ (fun hi => by rw [g 1 hi]) (fun hi => by rw [g 2 hi]) (fun hi => by rw [g 3 hi])
  rw [← decodeL_N]; rfl
theorem validD_sgn (l : List UInt8) (h : l ≠ []) : validD (sgn l) = okS l := by
  rw [validD_step _ (sgn_ne l h), decodeL_sgn l h]
  have : (sgn l).drop (decodeL l).2 = [] := List.drop_eq_nil_of_le (by rw [sgn_len l h]; exact Nat.le_refl _)
  rw [this, validD_nil]
  unfold okS
  by_cases h1 : (decodeL l).1 = 65533 <;> by_cases h2 : (decodeL l).2 = 1 <;> simp [h1, h2]

theorem ok_rst {l : List UInt8} (h : l ≠ []) {p : Ps} {c : Nat} (hp : Ok p (l.length + c)) (t : List UInt8) : Ok (adv p t) ((rst l).length + c) :=
  hp.adv t (by have := rst_lt l h; omega)
theorem ne_of_hexv {l : List UInt8} {d : Nat} (h : hexv (sgn l) = some d) : l ≠ [] := by
  rintro rfl; rw [sgn_nil] at h; cases h
theorem escS_ok (l : List UInt8) (p : Ps) (c : Nat) (hp : Ok p (l.length + c)) (x : UInt8) (m : List UInt8) (q : Ps) (h : escS l p = .inr (x, m, q)) : m.length < l.length ∧ Ok q (m.length + c) := by
  unfold escS at h
  split at h
  · rename_i h1
    have n1 : l ≠ [] := by rintro rfl; rw [sgn_nil] at h1; cases h1
    split at h
    · cases h
    · rename_i d hd
      have n2 := ne_of_hexv hd
      split at h
      · cases h
      · rename_i e he
        have n3 := ne_of_hexv he
        cases h
        have k1 := rst_lt l n1
        have k2 := rst_lt _ n2
        have k3 := rst_lt _ n3
        exact ⟨by omega, ok_rst n3 (ok_rst n2 (ok_rst n1 hp _) _) _⟩
  · split at h
    · rename_i y hy
      have n1 : l ≠ [] := by rintro rfl; rw [sgn_nil] at hy; cases hy
      cases h
      exact ⟨rst_lt l n1, ok_rst n1 hp _⟩
    · cases h

def ints (l : List UInt8) : List Int := l.map fun b => ((b.toNat : Nat) : Int)
theorem bytes_ints (l : List UInt8) : Ev.bytesOfA Ev.Seat.C (ints l) = (ByteArray.mk (List.toArray l)) := by
  unfold bytesOfA
  congr 2
  show List.map (fun x : Int => UInt8.ofNat x.toNat) (ints l) = l
  unfold ints
  rw [List.map_map]
  conv => rhs; rw [← List.map_id l]
  apply List.map_congr_left
  intro b _
  simp
theorem ints_append (a b : List UInt8) : ints a ++ ints b = ints (a ++ b) := by simp [ints]
theorem ints_len (a : List UInt8) : (ints a).length = a.length := by simp [ints]
theorem room_ok (n : Nat) (h : n ≤ 3000000) : Nat.ble n (room (0 + 1)) = true := by
  rw [Nat.ble_eq]; exact Nat.le_trans h (by decide)
theorem maxI_ok (n : Nat) (h : n ≤ 3000000) : Nat.ble n maxI = true := by
  rw [Nat.ble_eq]; exact Nat.le_trans h (by decide)

theorem write2 {κ : Nat} (a acc : List UInt8) (h : acc.length + a.length ≤ 3000000) : strings_Builder_WriteString_2 κ ((ByteArray.mk (List.toArray a))) (ints acc) = some ((a.length : Int), ints (acc ++ a)) := by
  unfold strings_Builder_WriteString_2
  have e : List.map (fun b : UInt8 => ((UInt8.toNat b : Nat) : Int)) a = ints a := rfl
  rw [bs_data, bs_size, e, ints_len, ints_len, room_ok _ h, bif_t, ints_append]
theorem write3 {κ : Nat} (a acc : List UInt8) (h : acc.length + a.length ≤ 3000000) : strings_Builder_WriteString_3 κ ((ByteArray.mk (List.toArray a))) (ints acc) = some ((a.length : Int), ints (acc ++ a)) := by
  unfold strings_Builder_WriteString_3
  have e : List.map (fun b : UInt8 => ((UInt8.toNat b : Nat) : Int)) a = ints a := rfl
  rw [bs_data, bs_size, e, ints_len, ints_len, room_ok _ h, bif_t, ints_append]
theorem string3 {κ : Nat} (acc : List UInt8) (h : acc.length ≤ 3000000) : strings_Builder_String_3 κ (ints acc) = some ((ByteArray.mk (List.toArray acc))) := by
  unfold strings_Builder_String_3
  rw [ints_len, maxI_ok _ h, bytes_ints]
  simp
theorem string2 {κ : Nat} (acc : List UInt8) (h : acc.length ≤ 3000000) : strings_Builder_String_2 κ (ints acc) = some ((ByteArray.mk (List.toArray acc))) := by
  unfold strings_Builder_String_2
  rw [ints_len, maxI_ok _ h, bytes_ints]
  simp
theorem valid_eq {κ : Nat} (l : List UInt8) (hl : l ≠ []) (h : l.length ≤ 3000000) : unicode_utf8_ValidString κ ((ByteArray.mk (List.toArray (sgn l)))) = some (okS l) := by
  unfold unicode_utf8_ValidString
  have : (sgn l).length ≤ l.length := by rw [sgn_len l hl]; exact wd_le l hl
  rw [bs_size, bs_data, maxI_ok _ (by omega), bif_t, validD_sgn l hl]

/-- What a string's rest comes to, in the program's words and in the machine's. -/
def TextOk (r : Option (Pn ⊕ (ByteArray × ByteArray × Int × Int))) (l acc : List UInt8) (p : Ps) : Prop :=
  (∃ q b, r = some (.inl (q.1, q.2, b, q.1, q.2)) ∧ ∀ at_, run (.str acc at_) p (signs l) = .inl q) ∨
  (∃ out m q, r = some (.inr ((ByteArray.mk (List.toArray out)), (ByteArray.mk (List.toArray m)), q.1, q.2)) ∧ m.length ≤ l.length ∧ Ok q (m.length + 10) ∧ ∀ at_ : Ps, run (.str acc at_) p (signs l) = pre [⟨2, out, at_.1, at_.2⟩] (run .idle q (signs m)))

theorem run_str_end (acc : List UInt8) (at_ p : Ps) : run (.str acc at_) p (signs []) = .inl p := by rw [signs_nil]; rfl

theorem text_loop {κ : Nat} (hκ : 2 ≤ κ) : ∀ (k : Nat) (l acc : List UInt8) (p : Ps), l.length < k → Ok p (l.length + 10) → acc.length + l.length ≤ 2000000 →
    TextOk (lex_reader_text.l31 κ k (.inr ((ByteArray.mk (List.toArray l)), p.1, p.2, ints acc))) l acc p := by
  intro k
  induction k with
  | zero => intro l acc p h; omega
  | succ k ih =>
    intro l acc p hk hp hlen
    simp only [lex_reader_text.l31, lex_reader_text.w31_1, lex_reader_text.v39, lex_reader_text.v40, lex_reader_text.v42, next_eq hκ, Option.bind_some, bs_seq]
    by_cases h : l = []
    · subst h
      rw [sgn_nil]
      exact .inl ⟨p, _, rfl, fun at_ => run_str_end acc at_ p⟩
    · have hne : (sgn l == []) = false := by simp [sgn_ne l h]
      rw [hne, bif_f]
      by_cases h10 : sgn l = [10]
      · have e : (sgn l == [10]) = true := by simp [h10]
        rw [e, bif_t]
        refine .inl ⟨p, _, rfl, fun at_ => ?_⟩
        rw [signs_sgn l h, run_cons, h10]
        rfl
      · have e : (sgn l == [10]) = false := by simp [h10]
        rw [e, bif_f, valid_eq l h (by omega)]
        simp only [Option.bind_some]
        cases hok : okS l
        · simp only [Bool.not_false, bif_t]
          refine .inl ⟨p, _, rfl, fun at_ => ?_⟩
          rw [signs_sgn l h, run_cons, hok]
          simp only [step, h10, Bool.not_false, Bool.or_true, if_true]
          by_cases h34 : sgn l = [34]
          · exfalso
            rcases sgn_cases l h with ⟨b, t, rfl, hb, h1, h2⟩ | ⟨b, t, h1, hb⟩
            · rw [okS_ascii b t hb] at hok; cases hok
            · rw [h34] at h1
              cases h1
              exact absurd hb (by decide)
          · simp [h34]
        · simp only [Bool.not_true, bif_f]
          have hp1 : Ok (adv p (sgn l)) ((rst l).length + 10) := ok_rst h hp _
          have hlt := rst_lt l h
          by_cases h34 : sgn l = [34]
          · have e : (sgn l == [34]) = true := by simp [h34]
            rw [bs_seq, e, bif_t, take_eq hκ l hp, string3 acc (by omega)]
            refine .inr ⟨acc, rst l, adv p (sgn l), rfl, by omega, hp1, fun at_ => ?_⟩
            rw [signs_sgn l h, run_cons, h34]
            rfl
          · have e : (sgn l == [34]) = false := by simp [h34]
            rw [bs_seq, e, bif_f]
            simp only [lex_reader_text.v43, bs_seq, take_eq hκ l hp, Option.bind_some]
            by_cases h92 : sgn l = [92]
            · have e : (sgn l == [92]) = true := by simp [h92]
              rw [e, bif_t]
              have he := escape_eq hκ (rst l) (n := (rst l).length + 7) hp1
              have hs : ∀ at_, run (.str acc at_) p (signs l) = run (.esc acc at_) (adv p (sgn l)) (signs (rst l)) := fun at_ => by
                rw [signs_sgn l h, run_cons, hok, h92]
                simp [step, pre_nil]
              cases hE : escS (rst l) (adv p (sgn l)) with
              | inl q =>
                rw [hE] at he
                obtain ⟨b, he⟩ := he
                rw [he]
                refine .inl ⟨q, b, rfl, fun at_ => ?_⟩
                rw [hs, run_esc, hE]
              | inr y =>
                obtain ⟨x, m, q⟩ := y
                rw [hE] at he
                simp only at he
                rw [he]
                obtain ⟨m1, m2⟩ := escS_ok _ _ 10 hp1 x m q hE
                simp only [Option.bind_some]
                rw [write3 [x] acc (by simp; omega)]
                simp only [Option.bind_some]
                rcases ih m (acc ++ [x]) q (by omega) m2 (by simp; omega) with ⟨q', b, r1, r2⟩ | ⟨out, m', q', r1, r2, r3, r4⟩
                · refine .inl ⟨q', b, r1, fun at_ => ?_⟩
                  rw [hs, run_esc, hE]
                  exact r2 at_
                · refine .inr ⟨out, m', q', r1, by omega, r3, fun at_ => ?_⟩
                  rw [hs, run_esc, hE]
                  exact r4 at_
            · have e : (sgn l == [92]) = false := by simp [h92]
              have hsl : (sgn l).length + (rst l).length = l.length := by rw [← List.length_append, sgn_rst]
              rw [e, bif_f, write3 (sgn l) acc (by omega)]
              have hs : ∀ at_, run (.str acc at_) p (signs l) = run (.str (acc ++ sgn l) at_) (adv p (sgn l)) (signs (rst l)) := fun at_ => by
                rw [signs_sgn l h, run_cons, hok]
                simp [step, pre_nil, h10, h34, h92]
              simp only [Option.bind_some]
              rcases ih (rst l) (acc ++ sgn l) (adv p (sgn l)) (by omega) hp1 (by rw [List.length_append]; omega) with ⟨q', b, r1, r2⟩ | ⟨out, m', q', r1, r2, r3, r4⟩
              · exact .inl ⟨q', b, r1, fun at_ => by rw [hs]; exact r2 at_⟩
              · exact .inr ⟨out, m', q', r1, by omega, r3, fun at_ => by rw [hs]; exact r4 at_⟩
end Go.Proofs.YtfoeekaanngoiaaDoor.Lex5


namespace Go.Proofs.YtfoeekaanngoiaaDoor.Lex5
open Go Go.Lib Ev Ev.Seat
theorem text_first {κ : Nat} (hκ : 2 ≤ κ) (k : Nat) (l acc : List UInt8) (p : Ps) (hk : l.length < k) (hp : Ok p (l.length + 10)) (hlen : acc.length + l.length ≤ 2000000) :
    TextOk (lex_reader_text.l31 κ k (.inl ((ByteArray.mk (List.toArray l)), p.1, p.2, ints acc))) l acc p := by
  cases k with
  | zero => omega
  | succ k =>
    have ih := text_loop hκ k
    simp only [lex_reader_text.l31, lex_reader_text.w31, lex_reader_text.v32, lex_reader_text.v33, lex_reader_text.v35, next_eq hκ, Option.bind_some, bs_seq]
    by_cases h : l = []
    · subst h
      rw [sgn_nil]
      exact .inl ⟨p, _, rfl, fun at_ => run_str_end acc at_ p⟩
    · have hne : (sgn l == []) = false := by simp [sgn_ne l h]
      rw [hne, bif_f]
      by_cases h10 : sgn l = [10]
      · have e : (sgn l == [10]) = true := by simp [h10]
        rw [e, bif_t]
        refine .inl ⟨p, _, rfl, fun at_ => ?_⟩
        rw [signs_sgn l h, run_cons, h10]
        rfl
      · have e : (sgn l == [10]) = false := by simp [h10]
        rw [e, bif_f, valid_eq l h (by omega)]
        simp only [Option.bind_some]
        cases hok : okS l
        · simp only [Bool.not_false, bif_t]
          refine .inl ⟨p, _, rfl, fun at_ => ?_⟩
          rw [signs_sgn l h, run_cons, hok]
          simp only [step, h10, Bool.not_false, Bool.or_true, if_true]
          by_cases h34 : sgn l = [34]
          · exfalso
            rcases sgn_cases l h with ⟨b, t, rfl, hb, h1, h2⟩ | ⟨b, t, h1, hb⟩
            · rw [okS_ascii b t hb] at hok; cases hok
            · rw [h34] at h1
              cases h1
              exact absurd hb (by decide)
          · simp [h34]
        · simp only [Bool.not_true, bif_f]
          have hp1 : Ok (adv p (sgn l)) ((rst l).length + 10) := ok_rst h hp _
          have hlt := rst_lt l h
          by_cases h34 : sgn l = [34]
          · have e : (sgn l == [34]) = true := by simp [h34]
            rw [bs_seq, e, bif_t, take_eq hκ l hp, string2 acc (by omega)]
            refine .inr ⟨acc, rst l, adv p (sgn l), rfl, by omega, hp1, fun at_ => ?_⟩
            rw [signs_sgn l h, run_cons, h34]
            rfl
          · have e : (sgn l == [34]) = false := by simp [h34]
            rw [bs_seq, e, bif_f]
            simp only [lex_reader_text.v36, bs_seq, take_eq hκ l hp, Option.bind_some]
            by_cases h92 : sgn l = [92]
            · have e : (sgn l == [92]) = true := by simp [h92]
              rw [e, bif_t]
              have he := escape_eq hκ (rst l) (n := (rst l).length + 7) hp1
              have hs : ∀ at_, run (.str acc at_) p (signs l) = run (.esc acc at_) (adv p (sgn l)) (signs (rst l)) := fun at_ => by
                rw [signs_sgn l h, run_cons, hok, h92]
                simp [step, pre_nil]
              cases hE : escS (rst l) (adv p (sgn l)) with
              | inl q =>
                rw [hE] at he
                obtain ⟨b, he⟩ := he
                rw [he]
                refine .inl ⟨q, b, rfl, fun at_ => ?_⟩
                rw [hs, run_esc, hE]
              | inr y =>
                obtain ⟨x, m, q⟩ := y
                rw [hE] at he
                simp only at he
                rw [he]
                obtain ⟨m1, m2⟩ := escS_ok _ _ 10 hp1 x m q hE
                simp only [Option.bind_some]
                rw [write2 [x] acc (by simp; omega)]
                simp only [Option.bind_some]
                rcases ih m (acc ++ [x]) q (by omega) m2 (by simp; omega) with ⟨q', b, r1, r2⟩ | ⟨out, m', q', r1, r2, r3, r4⟩
                · refine .inl ⟨q', b, r1, fun at_ => ?_⟩
                  rw [hs, run_esc, hE]
                  exact r2 at_
                · refine .inr ⟨out, m', q', r1, by omega, r3, fun at_ => ?_⟩
                  rw [hs, run_esc, hE]
                  exact r4 at_
            · have e : (sgn l == [92]) = false := by simp [h92]
              have hsl : (sgn l).length + (rst l).length = l.length := by rw [← List.length_append, sgn_rst]
              rw [e, bif_f, write2 (sgn l) acc (by omega)]
              have hs : ∀ at_, run (.str acc at_) p (signs l) = run (.str (acc ++ sgn l) at_) (adv p (sgn l)) (signs (rst l)) := fun at_ => by
                rw [signs_sgn l h, run_cons, hok]
                simp [step, pre_nil, h10, h34, h92]
              simp only [Option.bind_some]
              rcases ih (rst l) (acc ++ sgn l) (adv p (sgn l)) (by omega) hp1 (by rw [List.length_append]; omega) with ⟨q', b, r1, r2⟩ | ⟨out, m', q', r1, r2, r3, r4⟩
              · exact .inl ⟨q', b, r1, fun at_ => by rw [hs]; exact r2 at_⟩
              · exact .inr ⟨out, m', q', r1, by omega, r3, fun at_ => by rw [hs]; exact r4 at_⟩

theorem text_eq {κ : Nat} (l : List UInt8) (hκ : l.length + 2 < κ) (p : Ps) (hp : Ok p (l.length + 10)) : TextOk (lex_reader_text κ ((ByteArray.mk (List.toArray l))) p.1 p.2) l [] p := by
  have hl : l.length ≤ 1000000 := by have := hp.1; have := hp.2.2.1; omega
  rcases text_first (κ := κ) (by omega) κ l [] p (by omega) hp (by simp; omega) with ⟨q, b, r1, r2⟩ | ⟨out, m, q, r1, r2, r3, r4⟩
  · refine .inl ⟨q, b, ?_, r2⟩
    unfold lex_reader_text
    have r1' : lex_reader_text.l31 κ κ (Sum.inl (Prod.mk ((ByteArray.mk (List.toArray l))) (Prod.mk p.1 (Prod.mk p.2 [])))) = _ := r1
    rw [r1']; rfl
  · refine .inr ⟨out, m, q, ?_, r2, r3, r4⟩
    unfold lex_reader_text
    have r1' : lex_reader_text.l31 κ κ (Sum.inl (Prod.mk ((ByteArray.mk (List.toArray l))) (Prod.mk p.1 (Prod.mk p.2 [])))) = _ := r1
    rw [r1']; rfl

def letters : List UInt8 := (List.append (97::98::99::100::101::102::103::104::105::106::107::108::109::110::111::112::113::114::115::116::117::118::119::120::121::122::65::66::67::68::69::70::[]) (71::72::73::74::75::76::77::78::79::80::81::82::83::84::85::86::87::88::89::90::48::49::50::51::52::53::54::55::56::57::95::45::46::[]))
theorem letters_mem (b : UInt8) : letters.contains b = letterB b := by
  refine all_bytes (p := fun b => letters.contains b = letterB b) ?_ b
  decide +kernel
theorem letters_index (b : UInt8) : contains letters [b] = letterB b := by
  refine all_bytes (p := fun b => contains letters [b] = letterB b) ?_ b
  decide +kernel
theorem letterB_lt (b : UInt8) (h : letterB b = true) : b.toNat < 128 := by
  unfold letterB at h
  simp only [Bool.or_eq_true, Bool.and_eq_true, decide_eq_true_eq, beq_iff_eq] at h
  omega
theorem trim_letters (l : List UInt8) : trimLeftS l letters = l.dropWhile letterB := by
  unfold trimLeftS
  congr 1
  funext b
  exact letters_mem b

theorem take_drop_while (f : UInt8 → Bool) (l : List UInt8) : (l.takeWhile f).length + (l.dropWhile f).length = l.length := by
  rw [← List.length_append, List.takeWhile_append_dropWhile]
theorem take_while_len (f : UInt8 → Bool) (l : List UInt8) : l.take (l.takeWhile f).length = l.takeWhile f := by
  calc l.take (l.takeWhile f).length = (l.takeWhile f ++ l.dropWhile f).take (l.takeWhile f).length := by rw [List.takeWhile_append_dropWhile]
    _ = l.takeWhile f := List.take_left

theorem word_eq {κ : Nat} (l : List UInt8) (p : Ps) (hp : Ok p (l.length + 10)) :
    lex_reader_word κ ((ByteArray.mk (List.toArray l))) p.1 p.2 = some ((ByteArray.mk (List.toArray (l.takeWhile letterB))), (ByteArray.mk (List.toArray (l.dropWhile letterB))), p.1, p.2 + ((l.takeWhile letterB).length : Int)) := by
  have hl := take_drop_while letterB l
  have hb : l.length ≤ 1000000 := by have := hp.1; have := hp.2.2.1; omega
  have h2 := hp.2.1
  have h3 := hp.2.2.2
  have e : (l.length : Int) - ((l.dropWhile letterB).length : Int) = ((l.takeWhile letterB).length : Int) := by omega
  have w1 : IntKind.wrap IntKind.i64 ((l.takeWhile letterB).length : Int) = ((l.takeWhile letterB).length : Int) := wrap_in _ (by omega) (by omega)
  have w2 : IntKind.wrap IntKind.i64 (p.2 + ((l.takeWhile letterB).length : Int)) = p.2 + ((l.takeWhile letterB).length : Int) := wrap_in _ (by omega) (by omega)
  have hL := trim_letters l
  unfold letters at hL
  unfold lex_reader_word
  simp only [bs_size, bs_data, hL, e, w1, w2, bs_extract, Int.toNat_natCast, Int.toNat_zero, List.drop_zero, Nat.sub_zero, take_while_len]
  have d1 : decide ((0 : Int) ≤ ((l.takeWhile letterB).length : Int)) = true := by simp
  have d2 : decide (((l.takeWhile letterB).length : Int) ≤ (l.length : Int)) = true := by simp; omega
  have d3 : decide ((0 : Int) ≤ 0) = true := by decide
  simp only [d1, d2, d3, Bool.and_self, bif_t]

theorem letter_cons (b : UInt8) (t : List UInt8) (h : letterB b = true) : sgn (b :: t) = [b] ∧ rst (b :: t) = t ∧ letter (sgn (b :: t)) = true := by
  have hb := letterB_lt b h
  have h1 : sgn (b :: t) = [b] := by rw [sgn_def, wd_ascii b t hb]; rfl
  refine ⟨h1, by rw [rst_def, wd_ascii b t hb]; rfl, ?_⟩
  rw [h1]; exact h
theorem letter_not (l : List UInt8) (hne : l ≠ []) (h : ∀ b t, l = b :: t → letterB b = false) : letter (sgn l) = false := by
  rcases sgn_cases l hne with ⟨b, t, rfl, hb, h1, h2⟩ | ⟨b, t, h1, hb⟩
  · rw [h1]; exact h b t rfl
  · rw [h1]
    cases t with
    | nil =>
      cases hh : letterB b with
      | false => exact hh
      | true => have := letterB_lt b hh; omega
    | cons => rfl

/-- The machine passes a word's letters by. -/
theorem run_word (l : List UInt8) : ∀ (acc : List UInt8) (at_ p : Ps), run (.word acc at_) p (signs l) = run (.word (acc ++ l.takeWhile letterB) at_) (p.1, p.2 + ((l.takeWhile letterB).length : Int)) (signs (l.dropWhile letterB)) := by
  induction l with
  | nil => intro acc at_ p; simp
  | cons b t ih =>
    intro acc at_ p
    cases hb : letterB b
    · simp [hb]
    · obtain ⟨h1, h2, h3⟩ := letter_cons b t hb
      rw [signs_sgn _ (by simp), run_cons]
      simp only [step, h3, if_true, pre_nil]
      rw [h1, h2, ih]
      have h10 : ([b] : List UInt8) ≠ [10] := by
        intro h; cases h; unfold letterB at hb; revert hb; decide
      simp [adv, h10, hb]
      congr 2
      omega
/-- Behind it the word is told. -/
theorem run_word_end (acc : List UInt8) (at_ p : Ps) (l : List UInt8) (h : ∀ b t, l = b :: t → letterB b = false) : run (.word acc at_) p (signs l) = pre [⟨1, acc, at_.1, at_.2⟩] (run .idle p (signs l)) := by
  by_cases hl : l = []
  · subst hl; rw [signs_nil]; rfl
  · rw [signs_sgn l hl, run_cons, run_cons]
    simp only [step, letter_not l hl h, Bool.false_eq_true, if_false]
    cases hs : idleStep ⟨sgn l, okS l⟩ p with
    | none => rfl
    | some x =>
      obtain ⟨s, ts⟩ := x
      simp only [Option.map_some, pre_pre]
      rfl
theorem dropWhile_head (f : UInt8 → Bool) (l : List UInt8) : ∀ b t, l.dropWhile f = b :: t → f b = false := by
  intro b t h
  have := List.head?_dropWhile_not f l
  rw [h] at this
  simpa using this
end Go.Proofs.YtfoeekaanngoiaaDoor.Lex5


namespace Go.Proofs.YtfoeekaanngoiaaDoor.Lex5
open Go Go.Lib Ev Ev.Seat

theorem note_loop {κ : Nat} (hκ : 2 ≤ κ) (r : Int × ByteArray × Int × Int × Int × ByteArray × Int × Int) : ∀ (k : Nat) (l : List UInt8) (p : Ps), l.length < k → Ok p (l.length + 10) →
    ∃ m q, lex_reader_one.l3 κ k ((ByteArray.mk (List.toArray l)), p.1, p.2, r) = some ((ByteArray.mk (List.toArray m)), q.1, q.2, r) ∧ m.length ≤ l.length ∧ Ok q (m.length + 10) ∧ run .note p (signs l) = run .idle q (signs m) ∧ (l ≠ [] → sgn l ≠ [10] → m.length < l.length) := by
  intro k
  obtain ⟨r1, r2, r3, r4, r5, r6, r7, r8⟩ := r
  induction k with
  | zero => intro l p h; omega
  | succ k ih =>
    intro l p hk hp
    simp only [lex_reader_one.l3, lex_reader_one.w3, lex_reader_one.v4, next_eq hκ, Option.bind_some, bs_seq]
    by_cases h : l = []
    · subst h
      exact ⟨[], p, rfl, Nat.le_refl _, hp, by rw [signs_nil]; rfl, fun h => absurd rfl h⟩
    · have e : (l == []) = false := by simp [h]
      rw [e]
      simp only [Bool.not_false, bif_t, Option.bind_some]
      by_cases h10 : sgn l = [10]
      · have e : (sgn l == [10]) = true := by simp [h10]
        rw [e]
        refine ⟨l, p, rfl, Nat.le_refl _, hp, ?_, fun _ h => absurd h10 h⟩
        rw [signs_sgn l h, run_cons, run_cons, h10]
        rfl
      · have e : (sgn l == [10]) = false := by simp [h10]
        rw [e]
        simp only [Bool.not_false, bif_t, take_eq hκ l hp, Option.bind_some]
        have hlt := rst_lt l h
        obtain ⟨m, q, k1, k2, k3, k4, k5⟩ := ih (rst l) (adv p (sgn l)) (by omega) (ok_rst h hp _)
        refine ⟨m, q, k1, by omega, k3, ?_, fun _ _ => by omega⟩
        rw [signs_sgn l h, run_cons]
        simp only [step, h10, if_false, pre_nil]
        exact k4

theorem contains_blank (l : List UInt8) (h : l ≠ []) : contains [32, 9, 13, 10] (sgn l) = blank (sgn l) := by
  rcases sgn_cases l h with ⟨b, t, rfl, hb, h1, h2⟩ | ⟨b, t, h1, hb⟩
  · rw [h1]
    refine all_bytes (p := fun b => contains [32, 9, 13, 10] [b] = blank [b]) ?_ b
    decide +kernel
  · rw [h1]
    unfold contains
    rw [index_high [32, 9, 13, 10] (by decide) b t hb]
    have n1 : b ≠ 32 := by rintro rfl; exact absurd hb (by decide)
    have n2 : b ≠ 9 := by rintro rfl; exact absurd hb (by decide)
    have n3 : b ≠ 13 := by rintro rfl; exact absurd hb (by decide)
    have n4 : b ≠ 10 := by rintro rfl; exact absurd hb (by decide)
    simp [blank, n1, n2, n3, n4]

def OneOk (r : Option (Pn ⊕ (Int × ByteArray × Int × Int × Bool × ByteArray × Int × Int))) (l : List UInt8) (p : Ps) : Prop :=
  (∃ q b, r = some (.inl (q.1, q.2, b, q.1, q.2)) ∧ run .idle p (signs l) = .inl q) ∨
  (∃ kind text line col is m q, r = some (.inr (kind, (ByteArray.mk (List.toArray text)), line, col, is, (ByteArray.mk (List.toArray m)), q.1, q.2)) ∧ m.length < l.length ∧ Ok q (m.length + 10) ∧
    run .idle p (signs l) = pre (if is = true then [⟨kind, text, line, col⟩] else []) (run .idle q (signs m)))

theorem letter_len (l : List UInt8) (h : l ≠ []) : letter (sgn l) = (((((sgn l).length : Nat) : Int) == (1 : Int)) && contains letters (sgn l)) := by
  rcases sgn_cases l h with ⟨b, t, rfl, hb, h1, h2⟩ | ⟨b, t, h1, hb⟩
  · rw [h1, letters_index]
    simp [letter]
  · rw [h1]
    unfold contains
    rw [index_high letters (by decide) b t hb]
    have : letter (b :: t) = false := by
      rw [← h1]
      refine letter_not l h ?_
      rintro c u rfl
      cases hh : letterB c with
      | false => rfl
      | true =>
        obtain ⟨k1, _, _⟩ := letter_cons c u hh
        rw [k1] at h1
        cases h1
        have := letterB_lt b hh
        omega
    rw [this]
    simp

theorem one_eq {κ : Nat} (l : List UInt8) (hl : l ≠ []) (hκ : l.length + 2 < κ) (p : Ps) (hp : Ok p (l.length + 10)) : OneOk (lex_reader_one κ ((ByteArray.mk (List.toArray l))) p.1 p.2) l p := by
  have hκ2 : 2 ≤ κ := by omega
  have hlt := rst_lt l hl
  have hp1 : Ok (adv p (sgn l)) ((rst l).length + 10) := ok_rst hl hp _
  have hr : run .idle p (signs l) = match idleStep ⟨sgn l, okS l⟩ p with
    | none => .inl p
    | some (s', ts) => pre ts (run s' (adv p (sgn l)) (signs (rst l))) := by rw [signs_sgn l hl, run_cons]; rfl
  unfold lex_reader_one
  simp only [next_eq hκ2, Option.bind_some, lex_reader_one.v0, bs_data, contains_blank l hl]
  cases hb : blank (sgn l)
  · rw [bif_f, bs_seq]
    by_cases h35 : sgn l = [35]
    · have e : (sgn l == [35]) = true := by simp [h35]
      rw [e, bif_t]
      obtain ⟨m, q, k1, k2, k3, k4, k5⟩ := note_loop hκ2 (0, ByteArray.mk (List.toArray []), 0, 0, 0, ByteArray.mk (List.toArray []), p.1, p.2) κ l p (by omega) hp
      rw [k1]
      refine .inr ⟨0, [], p.1, p.2, false, m, q, rfl, k5 hl (by rw [h35]; decide), k3, ?_⟩
      have e2 : run .note p (signs l) = run .note (adv p (sgn l)) (signs (rst l)) := by
        rw [signs_sgn l hl, run_cons, h35]; exact pre_nil _
      have hi : idleStep ⟨sgn l, okS l⟩ p = some (.note, []) := by
        unfold idleStep
        rw [if_neg (by simp [hb]), if_pos h35]
      rw [hr, hi, ← k4, e2]
      rfl
    · have e : (sgn l == [35]) = false := by simp [h35]
      rw [e, bif_f]
      simp only [lex_reader_one.v7, bs_seq]
      by_cases h3 : sgn l = [123] ∨ sgn l = [125] ∨ sgn l = [59]
      · have e : (bif sgn l == [123] then some ((ByteArray.mk (List.toArray (sgn l))), true, (ByteArray.mk (List.toArray l)), p.1, p.2, (0 : Int), ByteArray.mk (List.toArray []), (0 : Int), (0 : Int), (0 : Int), ByteArray.mk (List.toArray []), p.1, p.2) else bif sgn l == [125] then some ((ByteArray.mk (List.toArray (sgn l))), true, (ByteArray.mk (List.toArray l)), p.1, p.2, (0 : Int), ByteArray.mk (List.toArray []), (0 : Int), (0 : Int), (0 : Int), ByteArray.mk (List.toArray []), p.1, p.2) else some ((ByteArray.mk (List.toArray (sgn l))), (sgn l == [59]), (ByteArray.mk (List.toArray l)), p.1, p.2, (0 : Int), ByteArray.mk (List.toArray []), (0 : Int), (0 : Int), (0 : Int), ByteArray.mk (List.toArray []), p.1, p.2))
            = some ((ByteArray.mk (List.toArray (sgn l))), true, (ByteArray.mk (List.toArray l)), p.1, p.2, (0 : Int), ByteArray.mk (List.toArray []), (0 : Int), (0 : Int), (0 : Int), ByteArray.mk (List.toArray []), p.1, p.2) := by
          rcases h3 with h | h | h <;> rw [h] <;> rfl
        rw [e]
        simp only [Option.bind_some, lex_reader_one.v9, bif_t, take_eq hκ2 l hp, bs_data]
        rcases h3 with h | h | h
        · refine .inr ⟨3, [], p.1, p.2, true, rst l, adv p (sgn l), ?_, hlt, hp1, ?_⟩
          · rw [h]; rfl
          · rw [hr]; simp only [idleStep, hb, h]; rfl
        · refine .inr ⟨4, [], p.1, p.2, true, rst l, adv p (sgn l), ?_, hlt, hp1, ?_⟩
          · rw [h]; rfl
          · rw [hr]; simp only [idleStep, hb, h]; rfl
        · refine .inr ⟨5, [], p.1, p.2, true, rst l, adv p (sgn l), ?_, hlt, hp1, ?_⟩
          · rw [h]; rfl
          · rw [hr]; simp only [idleStep, hb, h]; rfl
      · have n1 : sgn l ≠ [123] := fun h => h3 (.inl h)
        have n2 : sgn l ≠ [125] := fun h => h3 (.inr (.inl h))
        have n3 : sgn l ≠ [59] := fun h => h3 (.inr (.inr h))
        have e1 : (sgn l == [123]) = false := by simp [n1]
        have e2 : (sgn l == [125]) = false := by simp [n2]
        have e3 : (sgn l == [59]) = false := by simp [n3]
        simp only [e1, e2, e3, bif_f, Option.bind_some, lex_reader_one.v9, lex_reader_one.v10, bs_seq]
        by_cases h34 : sgn l = [34]
        · have e : (sgn l == [34]) = true := by simp [h34]
          simp only [e, bif_t, take_eq hκ2 l hp, Option.bind_some]
          rcases text_eq (κ := κ) (rst l) (by omega) (adv p (sgn l)) hp1 with ⟨q, b, k1, k2⟩ | ⟨out, m, q, k1, k2, k3, k4⟩
          · rw [k1]
            refine .inl ⟨q, b, rfl, ?_⟩
            rw [hr]
            simp only [idleStep, hb, h34]
            exact (pre_nil _).trans (by rw [← h34]; exact k2 p)
          · rw [k1]
            refine .inr ⟨2, out, p.1, p.2, true, m, q, rfl, by omega, k3, ?_⟩
            rw [hr]
            simp only [idleStep, hb, h34]
            exact (pre_nil _).trans (by rw [← h34]; exact k4 p)
        · have e : (sgn l == [34]) = false := by simp [h34]
          have hlet := letter_len l hl
          simp only [e, bif_f, Option.bind_some, lex_reader_one.v11, bs_size, bs_data]
          change OneOk _ l p at *
          have hcut : ∀ (X : Bool → ByteArray × Int × Int × Int × ByteArray × Int × Int × Int × ByteArray × Int × Int), True := fun _ => trivial
          cases hL : letter (sgn l)
          · rw [hL] at hlet
            have hfin : run .idle p (signs l) = .inl p := by
              rw [hr]
              simp only [idleStep, hb, h35, n1, n2, n3, h34, hL, if_false, Bool.false_eq_true]
            cases hlen : ((((sgn l).length : Nat) : Int) == (1 : Int))
            · exact .inl ⟨p, _, rfl, hfin⟩
            · rw [hlen, Bool.true_and] at hlet
              unfold letters at hlet
              simp only [bif_t, ← hlet, Option.bind_some]
              exact .inl ⟨p, _, rfl, hfin⟩
          · rw [hL] at hlet
            have h12 := (Bool.and_eq_true _ _).mp hlet.symm
            obtain ⟨c1, c2⟩ := h12
            unfold letters at c2
            simp only [c1, c2, bif_t, Option.bind_some, lex_reader_one.v13, word_eq l p hp]
            have htw : 0 < (l.takeWhile letterB).length := by
              cases l with
              | nil => exact absurd rfl hl
              | cons b t =>
                cases hbb : letterB b
                · have := letter_not (b :: t) (by simp) (fun c u h => by cases h; exact hbb)
                  rw [this] at hL; cases hL
                · simp [hbb]
            have hsum := take_drop_while letterB l
            refine .inr ⟨1, l.takeWhile letterB, p.1, p.2, true, l.dropWhile letterB, (p.1, p.2 + ((l.takeWhile letterB).length : Int)), rfl, by omega, ?_, ?_⟩
            · unfold Ok at hp ⊢
              simp only
              omega
            · have hw : run .idle p (signs l) = run (.word [] p) p (signs l) := by
                rw [hr, signs_sgn l hl, run_cons]
                simp only [idleStep, hb, h35, n1, n2, n3, h34, hL, if_false, if_true, Bool.false_eq_true, step, List.nil_append]
              rw [hw, run_word, List.nil_append, run_word_end _ _ _ _ (dropWhile_head letterB l)]
              rfl
  · rw [bif_t, take_eq hκ2 l hp]
    refine .inr ⟨0, [], p.1, p.2, false, rst l, adv p (sgn l), rfl, hlt, hp1, ?_⟩
    rw [hr]
    simp only [idleStep, hb, if_true]
    rfl
end Go.Proofs.YtfoeekaanngoiaaDoor.Lex5


namespace Go.Proofs.YtfoeekaanngoiaaDoor.Lex5
open Go Go.Lib Ev Ev.Seat

def tkL (t : Tk) : LexToken := ⟨t.kind, (ByteArray.mk (List.toArray t.text)), t.line, t.col⟩
theorem room40 (n : Nat) (h : n ≤ 3000000) : Nat.ble n (room (39 + 1)) = true := by
  rw [Nat.ble_eq]; exact Nat.le_trans h (by decide)

def AllOk (r : Option ((Int × Int × Int × ByteArray × Int × Int × (List LexToken)) ⊕ (Int × Int × Int × Int × Int × (List LexToken)))) (l : List UInt8) (p : Ps) (acc : List Tk) : Prop :=
  (∃ q x, r = some (.inr (q.1, q.2, x)) ∧ run .idle p (signs l) = .inl q) ∨
  (∃ ts q, r = some (.inl (0, 0, 0, (ByteArray.mk (List.toArray [])), q.1, q.2, (acc ++ ts).map tkL)) ∧ ts.length ≤ l.length ∧ run .idle p (signs l) = .inr (ts, q))

theorem all_loop {κ : Nat} : ∀ (k : Nat) (l : List UInt8) (p : Ps) (acc : List Tk), l.length < k → l.length + 2 < κ → Ok p (l.length + 10) → acc.length + l.length ≤ 2000000 →
    AllOk (lex_All.l8 κ k (0, 0, 0, (ByteArray.mk (List.toArray l)), p.1, p.2, acc.map tkL)) l p acc := by
  intro k
  induction k with
  | zero => intro l p acc h; omega
  | succ k ih =>
    intro l p acc hk hκ hp hacc
    simp only [lex_All.l8, lex_All.w8, bs_seq]
    by_cases h : l = []
    · subst h
      refine .inr ⟨[], p, ?_, Nat.le_refl _, by rw [signs_nil]; rfl⟩
      rw [List.append_nil]; rfl
    · have e : (l == []) = false := by simp [h]
      rw [e]
      simp only [Bool.not_false, bif_t, lex_All.v9]
      rcases one_eq (κ := κ) l h hκ p hp with ⟨q, b, k1, k2⟩ | ⟨kind, text, line, col, is, m, q, k1, k2, k3, k4⟩
      · rw [k1]
        exact .inl ⟨q, _, rfl, k2⟩
      · rw [k1]
        simp only [Option.bind_some, lex_All.v10]
        cases is
        · simp only [bif_f, Option.bind_some]
          simp only [Bool.false_eq_true, if_false, pre_nil] at k4
          rcases ih m q acc (by omega) (by omega) k3 (by omega) with ⟨q', x, r1, r2⟩ | ⟨ts, q', r1, r2, r3⟩
          · exact .inl ⟨q', x, r1, k4.trans r2⟩
          · exact .inr ⟨ts, q', r1, by omega, k4.trans r3⟩
        · have hroom : Nat.ble ((acc.map tkL).length + [LexToken.mk kind ((ByteArray.mk (List.toArray text))) line col].length) (room (39 + 1)) = true := room40 _ (by simp; omega)
          simp only [bif_t, hroom, Option.bind_some]
          simp only [if_true] at k4
          have hmap : acc.map tkL ++ [LexToken.mk kind ((ByteArray.mk (List.toArray text))) line col] = (acc ++ [(⟨kind, text, line, col⟩ : Tk)]).map tkL := by simp [tkL]
          rw [hmap]
          rcases ih m q (acc ++ [⟨kind, text, line, col⟩]) (by omega) (by omega) k3 (by simp; omega) with ⟨q', x, r1, r2⟩ | ⟨ts, q', r1, r2, r3⟩
          · exact .inl ⟨q', x, r1, by rw [k4, r2]; rfl⟩
          · refine .inr ⟨⟨kind, text, line, col⟩ :: ts, q', ?_, by simp; omega, by rw [k4, r3]; rfl⟩
            rw [r1]; simp

theorem all_eq {κ : Nat} (l : List UInt8) (hκ : l.length + 2 < κ) (hl : l.length ≤ 8192) :
    lex_All κ ((ByteArray.mk (List.toArray l))) = some (match lexAll l with | .inl q => (20, q.1, q.2, []) | .inr x => (0, 0, 0, (full x).map tkL)) := by
  have hd : decide ((l.length : Int) > 8192) = false := by simp; omega
  unfold lex_All
  rw [bs_size, hd, bif_f]
  have hp : Ok (1, 1) (l.length + 10) := by unfold Ok; simp only; omega
  unfold lexAll
  rcases all_loop (κ := κ) κ l (1, 1) [] (by omega) hκ hp (by simp; omega) with ⟨q, x, r1, r2⟩ | ⟨ts, q, r1, r2, r3⟩
  · simp only [List.map_nil] at r1
    rw [r1, r2]; rfl
  · simp only [List.map_nil, List.nil_append] at r1
    rw [r1, r3]
    simp only [Option.bind_some]
    have hroom : Nat.ble ((ts.map tkL).length + [LexToken.mk 0 (ByteArray.mk (List.toArray [])) q.1 q.2].length) (room (39 + 1)) = true := room40 _ (by simp; omega)
    rw [hroom, bif_t]
    simp [full, tkL]
end Go.Proofs.YtfoeekaanngoiaaDoor.Lex5


namespace Go.Proofs.YtfoeekaanngoiaaDoor.Lex5
open Go Go.Lib Ev Ev.Seat

theorem valid_of (n : Nat) (h : n < 55296 ∨ (57344 ≤ n ∧ n ≤ 1114111)) : Go.Utf8.valid (n : Int) = true := by
  unfold Go.Utf8.valid; simp; omega
def sizeN (r : Nat) : Nat := if r < 128 then 1 else if r < 2048 then 2 else if r < 65536 then 3 else 4

theorem bad_dec (l : List UInt8) (hne : l ≠ []) (hok : okS l = false) : (decodeL l).1 = 65533 ∧ wd l = 1 ∧ l.take 3 ≠ [239, 191, 189] := by
  unfold okS at hok
  have h : (decodeL l).1 = 65533 ∧ (decodeL l).2 = 1 := by simpa using hok
  refine ⟨h.1, h.2, fun h3 => ?_⟩
  have : 3 ≤ l.length := by
    have := congrArg List.length h3
    rw [List.length_take] at this
    simp at this; omega
  obtain ⟨t, rfl⟩ : ∃ t, l = 239 :: 191 :: 189 :: t := by
    match l, this, h3 with
    | a :: b :: c :: t, _, h3 =>
      simp at h3
      obtain ⟨rfl, rfl, rfl⟩ := h3
      exact ⟨t, rfl⟩
  rw [decodeL_N] at h
  have e := h.2
  simp [decodeN] at e

theorem size_eq {κ : Nat} (r : Nat) : tollbarref05_size κ (r : Int) = some ((sizeN r : Nat) : Int) := by
  unfold tollbarref05_size sizeN
  by_cases h1 : r < 128
  · have : decide ((r : Int) < 128) = true := by simp; omega
    rw [this, if_pos h1]; rfl
  · have e1 : decide ((r : Int) < 128) = false := by simp; omega
    rw [e1, if_neg h1, bif_f]
    by_cases h2 : r < 2048
    · have : decide ((r : Int) < 2048) = true := by simp; omega
      rw [this, if_pos h2]; rfl
    · have e2 : decide ((r : Int) < 2048) = false := by simp; omega
      rw [e2, if_neg h2, bif_f]
      by_cases h3 : r < 65536
      · have : decide ((r : Int) < 65536) = true := by simp; omega
        rw [this, if_pos h3]; rfl
      · have e3 : decide ((r : Int) < 65536) = false := by simp; omega
        rw [e3, if_neg h3]; rfl
/-- The document's signs, with their places. -/
def posS : Ps → List Sg → List Tollbarref05S
  | p, [] => [⟨(ByteArray.mk (List.toArray [])), false, p.1, p.2⟩]
  | p, c :: cs => ⟨(ByteArray.mk (List.toArray c.t)), c.ok, p.1, p.2⟩ :: posS (adv p c.t) cs
end Go.Proofs.YtfoeekaanngoiaaDoor.Lex5


namespace Go.Proofs.YtfoeekaanngoiaaDoor.Lex5
open Go Go.Lib Ev Ev.Seat

theorem signs_len (l : List UInt8) : (signs l).length ≤ l.length := by
  induction h : l.length using Nat.strongRecOn generalizing l with
  | _ n ih =>
    by_cases hl : l = []
    · subst hl; rw [signs_nil]; simp
    · rw [signs_sgn l hl]
      have := rst_lt l hl
      have := ih (rst l).length (by omega) (rst l) rfl
      simp; omega

end Go.Proofs.YtfoeekaanngoiaaDoor.Lex5


namespace Go.Proofs.YtfoeekaanngoiaaDoor.Lex5
open Go Go.Lib Ev Ev.Seat

def tx : List Sg → List UInt8
  | [] => []
  | c :: _ => c.t
def okx : List Sg → Bool
  | [] => false
  | c :: _ => c.ok
def At (L : List Tollbarref05S) (i : Nat) (p : Ps) (cs : List Sg) : Prop := L.drop i = posS p cs
def hdS (p : Ps) (cs : List Sg) : Tollbarref05S := ⟨(ByteArray.mk (List.toArray (tx cs))), okx cs, p.1, p.2⟩
theorem At.get {L : List Tollbarref05S} {i : Nat} {p : Ps} {cs : List Sg} (h : At L i p cs) : L[i]? = some (hdS p cs) := by
  have : L[i]? = (L.drop i)[0]? := by rw [List.getElem?_drop]; rfl
  rw [this, h]
  cases cs <;> rfl
theorem At.lt {L : List Tollbarref05S} {i : Nat} {p : Ps} {cs : List Sg} (h : At L i p cs) : i < L.length := by
  have := h.get
  exact (List.getElem?_eq_some_iff.1 this).1
theorem At.next {L : List Tollbarref05S} {i : Nat} {p : Ps} {c : Sg} {cs : List Sg} (h : At L i p (c :: cs)) : At L (i + 1) (adv p c.t) cs := by
  unfold At at *
  rw [← List.drop_drop, h]; rfl
theorem blt_of {i n : Nat} (h : i < n) : Nat.blt i n = true := by rw [Nat.blt_eq]; exact h

end Go.Proofs.YtfoeekaanngoiaaDoor.Lex5


namespace Go.Proofs.YtfoeekaanngoiaaDoor.Lex5
open Go Go.Lib Ev Ev.Seat

def NE (cs : List Sg) : Prop := ∀ c ∈ cs, c.t ≠ [] ∧ c.t.length ≤ 4
end Go.Proofs.YtfoeekaanngoiaaDoor.Lex5


namespace Go.Proofs.YtfoeekaanngoiaaDoor.Lex5
open Go Go.Lib Ev Ev.Seat

theorem wrap_succ {i n : Nat} (h : i + n ≤ 2000000) : IntKind.wrap IntKind.i64 ((i : Int) + (n : Int)) = ((i + n : Nat) : Int) := by
  rw [wrap_in _ (by omega) (by omega)]; omega
theorem wrap_succ1 {i : Nat} (h : i + 1 ≤ 2000000) : IntKind.wrap IntKind.i64 ((i : Int) + 1) = ((i + 1 : Nat) : Int) := wrap_succ (n := 1) h
theorem d0n (n : Nat) : decide ((0 : Int) ≤ (n : Int)) = true := by simp

theorem NE.drop {cs : List Sg} (h : NE cs) (n : Nat) : NE (cs.drop n) := fun c hc => h c (List.mem_of_mem_drop hc)

end Go.Proofs.YtfoeekaanngoiaaDoor.Lex5


namespace Go.Proofs.YtfoeekaanngoiaaDoor.Lex5
open Go Go.Lib Ev Ev.Seat

end Go.Proofs.YtfoeekaanngoiaaDoor.Lex5


namespace Go.Proofs.YtfoeekaanngoiaaDoor.Lex5
open Go Go.Lib Ev Ev.Seat

def conv (t : LexToken) : Tollbarref05T := ⟨t.kind, t.text, t.at__line, t.at__col⟩
theorem seq_self (s : ByteArray) : Ev.seq s s = true := by simp [seq]
end Go.Proofs.YtfoeekaanngoiaaDoor.Lex5


namespace Go.Proofs.YtfoeekaanngoiaaDoor.Lex5
open Go Go.Lib

theorem letter10 : letter [10] = false := by
  show letterB 10 = false
  unfold letterB; decide
end Go.Proofs.YtfoeekaanngoiaaDoor.Lex5


namespace Go.Proofs.YtfoeekaanngoiaaDoor.Lex5
open Go Go.Lib Ev Ev.Seat

end Go.Proofs.YtfoeekaanngoiaaDoor.Lex5


namespace Go.Proofs.YtfoeekaanngoiaaDoor.Lex5
open Go Go.Lib

set_option maxRecDepth 100000 in
set_option maxHeartbeats 4000000 in
/-- A sign that is a rune is told by its own bytes alone. -/
theorem decodeN_own (n n' b0 b1 b2 b3 c1 c2 c3 r w : Nat) (h : decodeN n b0 b1 b2 b3 = (r, w)) (hok : ¬ (r = 65533 ∧ w = 1)) (hw : w ≤ n') (e1 : 1 < w → c1 = b1) (e2 : 2 < w → c2 = b2) (e3 : 3 < w → c3 = b3)
    (hn : 1 ≤ n) (hn' : 1 ≤ n') : decodeN n' b0 c1 c2 c3 = (r, w) := by
  unfold decodeN at h
  by_cases h0 : b0 < 128
  · rw [if_pos h0] at h
    cases h
    unfold decodeN
    rw [if_pos h0]
  rw [if_neg h0] at h
  by_cases h1 : b0 / 32 = 6 ∧ (1 < n ∧ b1 / 64 = 2)
  · rw [if_pos h1] at h
    split at h
    · rename_i hh
      cases h
      obtain rfl := e1 (by omega)
      unfold decodeN
      rw [if_neg h0, if_pos ⟨h1.1, by omega, h1.2.2⟩, if_pos hh]
    · cases h; exact absurd ⟨rfl, rfl⟩ hok
  rw [if_neg h1] at h
  by_cases h2 : b0 / 16 = 14 ∧ (1 < n ∧ b1 / 64 = 2) ∧ (2 < n ∧ b2 / 64 = 2)
  · rw [if_pos h2] at h
    split at h
    · rename_i hh
      cases h
      obtain rfl := e1 (by omega)
      obtain rfl := e2 (by omega)
      unfold decodeN
      rw [if_neg h0, if_neg (by have := h2.1; omega), if_pos ⟨h2.1, ⟨by omega, h2.2.1.2⟩, by omega, h2.2.2.2⟩, if_pos hh]
    · cases h; exact absurd ⟨rfl, rfl⟩ hok
  rw [if_neg h2] at h
  by_cases h3 : b0 / 8 = 30 ∧ (1 < n ∧ b1 / 64 = 2) ∧ (2 < n ∧ b2 / 64 = 2) ∧ (3 < n ∧ b3 / 64 = 2)
  · rw [if_pos h3] at h
    split at h
    · rename_i hh
      cases h
      obtain rfl := e1 (by omega)
      obtain rfl := e2 (by omega)
      obtain rfl := e3 (by omega)
      unfold decodeN
      rw [if_neg h0, if_neg (by have := h3.1; omega), if_neg (by have := h3.1; omega), if_pos ⟨h3.1, ⟨by omega, h3.2.1.2⟩, ⟨by omega, h3.2.2.1.2⟩, by omega, h3.2.2.2.2⟩, if_pos hh]
    · cases h; exact absurd ⟨rfl, rfl⟩ hok
  · rw [if_neg h3] at h
    cases h; exact absurd ⟨rfl, rfl⟩ hok

theorem getD_take (l : List UInt8) (w k : Nat) (h : k < w) : (l.take w).getD k 0 = l.getD k 0 := by
  simp [List.getD, List.getElem?_take, h]

theorem okS_iff (l : List UInt8) : okS l = true ↔ ¬ ((decodeL l).1 = 65533 ∧ (decodeL l).2 = 1) := by
  unfold okS; simp only [Bool.not_eq_true', Bool.and_eq_false_iff, decide_eq_false_iff_not]
  exact Decidable.not_and_iff_not_or_not.symm

theorem decodeL_own (l r : List UInt8) (hl : l ≠ []) (hok : okS l = true) : decodeL (l.take (wd l) ++ r) = decodeL l := by
  have h0 := (okS_iff l).1 hok
  have hp := wd_pos l
  have hle := wd_le l hl
  have hlen : (l.take (wd l)).length = wd l := by rw [List.length_take]; omega
  have hl0 : 0 < l.length := List.length_pos_iff.2 hl
  have hg : ∀ k, k < wd l → (l.take (wd l) ++ r).getD k 0 = l.getD k 0 := fun k hk => by
    rw [getD_append_l _ _ _ (by omega), getD_take _ _ _ hk]
  rw [decodeL_N (l.take (wd l) ++ r), hg 0 (by omega)]
  have e := decodeL_N l
  unfold wd at hp hle hlen hg ⊢
  generalize hd : decodeL l = d at *
  obtain ⟨a, w⟩ := d
  simp only at h0 hp hle hlen hg ⊢
  refine decodeN_own _ _ _ _ _ _ _ _ _ _ _ e.symm h0 ?_ (fun h => ?_) (fun h => ?_) (fun h => ?_) hl0 ?_
  · rw [List.length_append]; omega
  · rw [hg 1 h]
  · rw [hg 2 h]
  · rw [hg 3 h]
  · rw [List.length_append]; omega

/-- A rune in front of anything is a sign. -/
theorem signs_own (l r : List UInt8) (hl : l ≠ []) (hok : okS l = true) : signs (l.take (wd l) ++ r) = ⟨l.take (wd l), true⟩ :: signs r := by
  have hd := decodeL_own l r hl hok
  have hp := wd_pos l
  have hle := wd_le l hl
  have hlen : (l.take (wd l)).length = wd l := by rw [List.length_take]; omega
  have hne : l.take (wd l) ++ r ≠ [] := by
    intro h; have := congrArg List.length h; rw [List.length_append] at this; simp only [List.length_nil] at this; omega
  have hw : wd (l.take (wd l) ++ r) = wd l := by unfold wd; unfold wd at hd; rw [hd]
  have hk : okS (l.take (wd l) ++ r) = true := by rw [okS_iff, hd, ← okS_iff]; exact hok
  rw [signs_ne _ hne, hw, hk, List.take_append_of_le_length (by omega), List.take_take, Nat.min_self, List.drop_append_of_le_length (by omega)]
  rw [List.drop_of_length_le (by omega), List.nil_append]

/-- What a sign of a text is. -/
def SgOk (c : Sg) : Prop := (c.ok = true ∧ c.t ≠ [] ∧ (∀ r, signs (c.t ++ r) = ⟨c.t, true⟩ :: signs r)) ∨ (c.ok = false ∧ ∃ b : UInt8, c.t = [b] ∧ 128 ≤ b.toNat)
theorem sg_ok (l : List UInt8) : ∀ c ∈ signs l, SgOk c := by
  induction h : l.length using Nat.strongRecOn generalizing l with
  | _ n ih =>
    intro c hc
    by_cases hl : l = []
    · subst hl; rw [signs_nil] at hc; cases hc
    · have hp := wd_pos l
      have hl0 : 0 < l.length := List.length_pos_iff.2 hl
      have hle := wd_le l hl
      rw [signs_ne l hl] at hc
      rcases List.mem_cons.1 hc with rfl | hc
      · cases hok : okS l with
        | true =>
          refine .inl ⟨rfl, ?_, fun r => signs_own l r hl hok⟩
          intro h; have := congrArg List.length h; simp only [List.length_take, List.length_nil] at this; omega
        | false =>
          refine .inr ⟨rfl, ?_⟩
          obtain ⟨b, t, rfl⟩ := List.exists_cons_of_ne_nil hl
          have hn : ¬ okS (b :: t) = true := by rw [hok]; simp
          rw [okS_iff, Classical.not_not] at hn
          refine ⟨b, ?_, ?_⟩
          · unfold wd; rw [hn.2]; rfl
          · refine Nat.le_of_not_lt fun hb => ?_
            rw [okS_ascii b t hb] at hok; cases hok
      · exact ih (l.drop (wd l)).length (by rw [List.length_drop]; omega) _ rfl c hc
theorem signs_flat (l : List UInt8) : (signs l).flatMap (fun c => c.t) = l := by
  induction h : l.length using Nat.strongRecOn generalizing l with
  | _ n ih =>
    by_cases hl : l = []
    · subst hl; rw [signs_nil]; rfl
    · have hp := wd_pos l
      have hl0 : 0 < l.length := List.length_pos_iff.2 hl
      rw [signs_ne l hl, List.flatMap_cons, ih (l.drop (wd l)).length (by rw [List.length_drop]; omega) _ rfl]
      exact List.take_append_drop _ _

def hexd (n : Nat) : UInt8 := UInt8.ofNat (if n < 10 then 48 + n else 87 + n)
theorem hexB_d : ∀ n : Nat, n < 16 → hexB (hexd n) = some n := by
  unfold hexB hexd; decide
def qsign (c : Sg) : List UInt8 :=
  if c.t = [34] ∨ c.t = [92] then 92 :: c.t
  else if c.t = [10] then [92, 110]
  else if c.t = [9] then [92, 116]
  else match c.t with
    | b :: t => if c.ok = false ∨ b.toNat < 32 ∨ b.toNat = 127 then [92, 120, hexd (b.toNat / 16), hexd (b.toNat % 16)] else b :: t
    | [] => []
def quote (l : List UInt8) : List UInt8 := 34 :: ((signs l).flatMap qsign ++ [34])

theorem hexd_lt (n : Nat) (h : n < 16) : (hexd n).toNat < 128 := by
  revert n; unfold hexd; decide

theorem run_step {s s' : St} {c : Sg} {p : Ps} {l : List Sg} (h : step s c p = some (s', [])) : run s p (c :: l) = run s' (adv p c.t) l := by
  rw [run_cons, h]; exact pre_nil _
/-- Read as a part of a string it says the sign. -/
theorem adv1 (p : Ps) (t : List UInt8) (h : t ≠ [10]) : (adv p t).1 = p.1 := by unfold adv; rw [if_neg h]
theorem run_qsign (c : Sg) (hc : SgOk c) (r acc : List UInt8) (at_ p : Ps) : ∃ q : Ps, q.1 = p.1 ∧ run (.str acc at_) p (signs (qsign c ++ r)) = run (.str (acc ++ c.t) at_) q (signs r) := by
  obtain ⟨t, ok⟩ := c
  have hbs : ∀ (l : List Sg) (p : Ps), run (.str acc at_) p (⟨[92], true⟩ :: l) = run (.esc acc at_) (adv p [92]) l := fun l p => run_step rfl
  unfold qsign
  simp only
  by_cases h1 : t = [34] ∨ t = [92]
  · rw [if_pos h1]
    rcases h1 with rfl | rfl
    · exact ⟨adv (adv p [92]) [34], by rw [adv1 _ _ (by decide), adv1 _ _ (by decide)], by rw [List.cons_append, List.cons_append, List.nil_append, signs_ascii 92 _ (by decide), signs_ascii 34 _ (by decide), hbs, run_step rfl]⟩
    · exact ⟨adv (adv p [92]) [92], by rw [adv1 _ _ (by decide), adv1 _ _ (by decide)], by rw [List.cons_append, List.cons_append, List.nil_append, signs_ascii 92 _ (by decide), signs_ascii 92 _ (by decide), hbs, run_step rfl]⟩
  rw [if_neg h1]
  by_cases h2 : t = [10]
  · subst h2
    rw [if_pos rfl]
    exact ⟨adv (adv p [92]) [110], by rw [adv1 _ _ (by decide), adv1 _ _ (by decide)], by rw [List.cons_append, List.cons_append, List.nil_append, signs_ascii 92 _ (by decide), signs_ascii 110 _ (by decide), hbs, run_step rfl]⟩
  rw [if_neg h2]
  by_cases h3 : t = [9]
  · subst h3
    rw [if_pos rfl]
    exact ⟨adv (adv p [92]) [116], by rw [adv1 _ _ (by decide), adv1 _ _ (by decide)], by rw [List.cons_append, List.cons_append, List.nil_append, signs_ascii 92 _ (by decide), signs_ascii 116 _ (by decide), hbs, run_step rfl]⟩
  rw [if_neg h3]
  cases t with
  | nil =>
    exfalso
    rcases hc with ⟨_, h, _⟩ | ⟨_, b, h, _⟩
    · exact h rfl
    · cases h
  | cons b t =>
    simp only
    by_cases h4 : ok = false ∨ b.toNat < 32 ∨ b.toNat = 127
    · rw [if_pos h4]
      have ht : t = [] := by
        rcases hc with ⟨k1, k2, k3⟩ | ⟨k1, b', k2, k3⟩
        · simp only at k1 k3
          have hb : b.toNat < 128 := by rcases h4 with h | h | h <;> first | (rw [k1] at h; cases h) | omega
          have := k3 []
          rw [List.append_nil, signs_ascii b t hb] at this
          have := (List.cons.inj this).1
          have := congrArg Sg.t this
          simp only at this
          exact ((List.cons.inj this).2).symm
        · exact (List.cons.inj k2).2
      subst ht
      have hb : b.toNat < 256 := b.toNat_lt
      have x1 : hexv [hexd (b.toNat / 16)] = some (b.toNat / 16) := hexB_d _ (by omega)
      have x2 : hexv [hexd (b.toNat % 16)] = some (b.toNat % 16) := hexB_d _ (by omega)
      have x3 : UInt8.ofNat (16 * (b.toNat / 16) + b.toNat % 16) = b := by
        rw [show 16 * (b.toNat / 16) + b.toNat % 16 = b.toNat by omega]; exact UInt8.ofNat_toNat
      have s1 : ∀ p, step (.hx1 acc at_) ⟨[hexd (b.toNat / 16)], true⟩ p = some (.hx2 acc at_ (b.toNat / 16), []) := fun p => by simp only [step, x1, Option.map_some]
      have s2 : ∀ p, step (.hx2 acc at_ (b.toNat / 16)) ⟨[hexd (b.toNat % 16)], true⟩ p = some (.str (acc ++ [b]) at_, []) := fun p => by simp only [step, x2, Option.map_some, x3]
      have s3 : ∀ p, step (.esc acc at_) ⟨[120], true⟩ p = some (.hx1 acc at_, []) := fun p => rfl
      simp only [List.cons_append, List.nil_append]
      have hx : ∀ n, n < 16 → [hexd n] ≠ [(10 : UInt8)] := by unfold hexd; decide
      exact ⟨adv (adv (adv (adv p [92]) [120]) [hexd (b.toNat / 16)]) [hexd (b.toNat % 16)], by rw [adv1 _ _ (hx _ (by omega)), adv1 _ _ (hx _ (by omega)), adv1 _ _ (by decide), adv1 _ _ (by decide)], by rw [signs_ascii 92 _ (by decide), signs_ascii 120 _ (by decide), signs_ascii _ _ (hexd_lt (b.toNat / 16) (by omega)), signs_ascii _ _ (hexd_lt (b.toNat % 16) (by omega)), hbs, run_step (s3 _), run_step (s1 _), run_step (s2 _)]⟩
    · rw [if_neg h4]
      have k : ok = true := by cases ok; exact absurd (.inl rfl) h4; rfl
      rcases hc with ⟨k1, k2, k3⟩ | ⟨k1, b', k2, k3⟩
      · have n1 : ¬ (b :: t = [34]) := fun h => h1 (.inl h)
        have n2 : ¬ (b :: t = [92]) := fun h => h1 (.inr h)
        have s1 : ∀ p, step (.str acc at_) ⟨b :: t, true⟩ p = some (.str (acc ++ b :: t) at_, []) := fun p => by
          simp only [step]
          rw [if_neg n1, if_neg (by simp only [Bool.or_eq_true, decide_eq_true_eq, Bool.not_true]; rintro (h | h); exact h2 h; cases h), if_neg n2]
        simp only at k3
        exact ⟨adv p (b :: t), adv1 _ _ h2, by rw [k3 r, run_step (s1 _)]⟩
      · simp only at k1; rw [k] at k1; cases k1

theorem run_qsigns (cs : List Sg) (hcs : ∀ c ∈ cs, SgOk c) : ∀ (r acc : List UInt8) (at_ p : Ps), ∃ q : Ps, q.1 = p.1 ∧ run (.str acc at_) p (signs (cs.flatMap qsign ++ r)) = run (.str (acc ++ cs.flatMap fun c => c.t) at_) q (signs r) := by
  induction cs with
  | nil => intro r acc at_ p; exact ⟨p, rfl, by simp⟩
  | cons c cs ih =>
    intro r acc at_ p
    obtain ⟨q1, l1, h1⟩ := run_qsign c (hcs c (by simp)) (cs.flatMap qsign ++ r) acc at_ p
    obtain ⟨q2, l2, h2⟩ := ih (fun c hc => hcs c (by simp [hc])) r (acc ++ c.t) at_ q1
    refine ⟨q2, l2.trans l1, ?_⟩
    rw [List.flatMap_cons, List.append_assoc, h1, h2, List.flatMap_cons, List.append_assoc]

/-- Quoted, with anything behind it: from the sign ahead of it on. -/
theorem run_quote (l r : List UInt8) (p : Ps) : ∃ q : Ps, q.1 = p.1 ∧ run .idle p (signs (quote l ++ r)) = pre [⟨2, l, p.1, p.2⟩] (run .idle q (signs r)) := by
  unfold quote
  have h0 : step .idle ⟨[34], true⟩ p = some (.str [] p, []) := rfl
  obtain ⟨q, l1, hq⟩ := run_qsigns (signs l) (sg_ok l) ([34] ++ r) [] p (adv p [34])
  have s1 : step (.str l p) ⟨[34], true⟩ q = some (.idle, [⟨2, l, p.1, p.2⟩]) := rfl
  refine ⟨adv q [34], by rw [adv1 _ _ (by decide), l1, adv1 _ _ (by decide)], ?_⟩
  rw [List.cons_append, List.append_assoc, signs_ascii 34 _ (by decide), run_step h0, hq, List.nil_append, signs_flat, List.cons_append, List.nil_append, signs_ascii 34 _ (by decide), run_cons, s1]
theorem letter_ne (b : UInt8) (h : letterB b = true) : b.toNat < 128 ∧ blank [b] = false ∧ b.toNat ≠ 35 ∧ b.toNat ≠ 123 ∧ b.toNat ≠ 125 ∧ b.toNat ≠ 59 ∧ b.toNat ≠ 34 := by
  have hne : ∀ k : UInt8, b.toNat ≠ k.toNat → ([b] = [k]) = False := fun k hk => eq_false fun hh => hk (by rw [(List.cons.inj hh).1])
  unfold letterB at h
  simp only [Bool.or_eq_true, Bool.and_eq_true, decide_eq_true_eq, beq_iff_eq] at h
  refine ⟨by omega, ?_, by omega, by omega, by omega, by omega, by omega⟩
  unfold blank
  rw [decide_eq_false (by rw [hne 32 (by simp; omega)]; simp), decide_eq_false (by rw [hne 9 (by simp; omega)]; simp), decide_eq_false (by rw [hne 13 (by simp; omega)]; simp), decide_eq_false (by rw [hne 10 (by simp; omega)]; simp)]; rfl
theorem idle_letter (b : UInt8) (h : letterB b = true) (p : Ps) : idleStep ⟨[b], true⟩ p = some (.word [b] p, []) := by
  obtain ⟨_, h1, h2, h3, h4, h5, h6⟩ := letter_ne b h
  unfold idleStep
  have e : ∀ k : UInt8, b.toNat ≠ k.toNat → ¬ ([b] = [k]) := fun k hk hh => hk (by rw [(List.cons.inj hh).1])
  simp only
  rw [h1, if_neg (by simp), if_neg (e 35 h2), if_neg (e 123 h3), if_neg (e 125 h4), if_neg (e 59 h5), if_neg (e 34 h6), if_pos (show letter [b] = true from h)]
theorem letter_ne10 (b : UInt8) (h : letterB b = true) : [b] ≠ [(10 : UInt8)] := by
  intro hh; have := letter10; rw [← hh] at this; exact absurd h (by rw [show letterB b = false from this]; simp)
theorem run_words (l : List UInt8) : ∀ (acc r : List UInt8) (at_ p : Ps), (∀ b ∈ l, letterB b = true) → ∃ q : Ps, q.1 = p.1 ∧ run (.word acc at_) p (signs (l ++ r)) = run (.word (acc ++ l) at_) q (signs r) := by
  induction l with
  | nil => intro acc r at_ p _; exact ⟨p, rfl, by simp⟩
  | cons b l ih =>
    intro acc r at_ p h
    have hb := h b (by simp)
    obtain ⟨q, l1, hq⟩ := ih (acc ++ [b]) r at_ (adv p [b]) (fun c hc => h c (by simp [hc]))
    refine ⟨q, l1.trans (adv1 _ _ (letter_ne10 b hb)), ?_⟩
    rw [List.cons_append, signs_ascii b _ (letter_ne b hb).1, run_cons]
    simp only [step]
    rw [if_pos (show letter [b] = true from hb)]
    simp only [pre_nil]
    rw [hq, List.append_assoc]; rfl
theorem run_words0 (l r : List UInt8) (p : Ps) (hl : l ≠ []) (h : ∀ b ∈ l, letterB b = true) : ∃ q : Ps, q.1 = p.1 ∧ run .idle p (signs (l ++ r)) = run (.word l p) q (signs r) := by
  obtain ⟨b, t, rfl⟩ := List.exists_cons_of_ne_nil hl
  have hb := h b (by simp)
  obtain ⟨q, l1, hq⟩ := run_words t [b] r p (adv p [b]) (fun c hc => h c (by simp [hc]))
  refine ⟨q, l1.trans (adv1 _ _ (letter_ne10 b hb)), ?_⟩
  rw [List.cons_append, signs_ascii b _ (letter_ne b hb).1, run_cons]
  simp only [step, idle_letter b hb, pre_nil]
  exact hq
end Go.Proofs.YtfoeekaanngoiaaDoor.Lex5


namespace Go.Proofs.YtfoeekaanngoiaaDoor.Lex5
open Go Go.Lib Ev Ev.Seat

def plainB (l : List UInt8) : Bool := l != [] && l.all letterB
theorem dropWhile_nil {f : UInt8 → Bool} : ∀ {l : List UInt8}, l.dropWhile f = [] ↔ l.all f = true
  | [] => by simp
  | b :: l => by
    rw [List.dropWhile_cons, List.all_cons]
    cases f b
    · simp
    · simp only [if_true, Bool.true_and]; exact dropWhile_nil
theorem trim_nil (l : List UInt8) : (trimS l letters = []) ↔ l.all letterB = true := by
  have hf : (fun b => letters.contains b) = letterB := funext letters_mem
  unfold trimS trimLeftS trimRightS
  rw [hf, dropWhile_nil]
  constructor
  · intro h
    rw [List.all_reverse] at h
    have h2 : l.reverse.all letterB = true := by
      have h3 := List.takeWhile_append_dropWhile (p := letterB) (l := l.reverse)
      rw [← h3, List.all_append, Bool.and_eq_true]
      refine ⟨?_, h⟩
      rw [List.all_eq_true]
      intro x hx
      exact List.all_eq_true.1 (List.all_takeWhile (l := l.reverse) (p := letterB)) x hx
    rw [List.all_reverse] at h2
    exact h2
  · intro h
    have h2 : l.reverse.dropWhile letterB = [] := dropWhile_nil.2 (by rw [List.all_reverse]; exact h)
    rw [h2]; rfl

theorem plain_word {κ : Nat} (l : List UInt8) (hl : l.length ≤ 3000000) : lex_Plain κ ((ByteArray.mk (List.toArray l))) = some (plainB l) := by
  unfold lex_Plain lex_Plain.v0 plainB
  have e1 : Ev.seq ((ByteArray.mk (List.toArray l))) ((ByteArray.mk (List.toArray []))) = (l == []) := bs_seq l []
  rw [e1]
  by_cases h : l = []
  · subst h; rfl
  · have e2 : (l == []) = false := by simp [h]
    have e3 : (l != []) = true := by simp [h]
    rw [e2, e3]
    simp only [Bool.not_false, bif_t, Bool.true_and]
    have hd : ByteArray.mk (List.toArray (List.append (97::98::99::100::101::102::103::104::105::106::107::108::109::110::111::112::113::114::115::116::117::118::119::120::121::122::65::66::67::68::69::70::[]) (71::72::73::74::75::76::77::78::79::80::81::82::83::84::85::86::87::88::89::90::48::49::50::51::52::53::54::55::56::57::95::45::46::[]))) = (ByteArray.mk (List.toArray letters)) := rfl
    rw [hd]
    unfold strings_Trim
    have g1 : asciiB ((ByteArray.mk (List.toArray letters))) = true := by unfold asciiB; rw [bs_data]; decide +kernel
    have g2 : Nat.blt ((ByteArray.mk (List.toArray letters))).size 4294967281 = true := by rw [bs_size]; decide +kernel
    have g3 : Nat.ble ((ByteArray.mk (List.toArray l))).size maxI = true := by rw [bs_size]; exact maxI_ok _ hl
    rw [g1, g2, g3]
    simp only [Bool.and_self, bif_t, Option.bind_some, bs_data, bs_seq]
    congr 1
    cases hall : l.all letterB
    · have : ¬ trimS l letters = [] := fun hh => by rw [(trim_nil l).1 hh] at hall; cases hall
      simp [this]
    · have := (trim_nil l).2 hall
      simp [this]

theorem plainB_iff (l : List UInt8) : plainB l = true ↔ l ≠ [] ∧ ∀ b ∈ l, letterB b = true := by
  unfold plainB
  rw [Bool.and_eq_true, List.all_eq_true]
  simp
end Go.Proofs.YtfoeekaanngoiaaDoor.Lex5


namespace Go.Proofs.YtfoeekaanngoiaaDoor.Lex5
open Go Go.Lib Ev Ev.Seat

theorem or128 : ∀ n : Nat, n < 64 → (BitVec.ofInt 8 128 ||| BitVec.ofInt 8 (n : Int)).toNat = 128 + n := by decide +kernel
theorem or192 : ∀ n : Nat, n < 32 → (BitVec.ofInt 8 192 ||| BitVec.ofInt 8 (n : Int)).toNat = 192 + n := by decide +kernel
theorem or224 : ∀ n : Nat, n < 16 → (BitVec.ofInt 8 224 ||| BitVec.ofInt 8 (n : Int)).toNat = 224 + n := by decide +kernel
theorem or240 : ∀ n : Nat, n < 8 → (BitVec.ofInt 8 240 ||| BitVec.ofInt 8 (n : Int)).toNat = 240 + n := by decide +kernel
theorem and63 : ∀ n : Nat, n < 256 → (BitVec.ofInt 8 (n : Int) &&& BitVec.ofInt 8 63).toNat = n % 64 := by decide +kernel
theorem wu8 (n : Nat) : IntKind.wrap IntKind.u8 (n : Int) = ((n % 256 : Nat) : Int) := by
  unfold IntKind.wrap; simp [IntKind.bits, IntKind.signed]
theorem wu32 (n : Nat) (h : n < 4294967296) : IntKind.wrap IntKind.u32 (n : Int) = (n : Int) := by
  unfold IntKind.wrap; simp [IntKind.bits, IntKind.signed]; omega
theorem sh (n k : Nat) (h : k ≤ 32) : Int.fdiv (n : Int) ((2 : Int) ^ (Min.min (Int.toNat (k : Int)) (IntKind.bits IntKind.i32))) = ((n / 2 ^ k : Nat) : Int) := by
  have : Min.min (Int.toNat (k : Int)) (IntKind.bits IntKind.i32) = k := by simp [IntKind.bits]; omega
  rw [this, show ((2 : Int) ^ k) = ((2 ^ k : Nat) : Int) by push_cast; rfl, Int.fdiv_eq_ediv_of_nonneg _ (Int.natCast_nonneg _)]
  norm_cast
theorem cont (n k : Nat) (h : k ≤ 32) : IntKind.wrap IntKind.u8 (((BitVec.toNat (HOr.hOr (BitVec.ofInt (IntKind.bits IntKind.u8) (128 : Int)) (BitVec.ofInt (IntKind.bits IntKind.u8) (IntKind.wrap IntKind.u8 (((BitVec.toNat (HAnd.hAnd (BitVec.ofInt (IntKind.bits IntKind.u8) (IntKind.wrap IntKind.u8 (Int.fdiv (n : Int) ((2 : Int) ^ (Min.min (Int.toNat (k : Int)) (IntKind.bits IntKind.i32)))))) (BitVec.ofInt (IntKind.bits IntKind.u8) (63 : Int)))) : Nat) : Int))))) : Nat) : Int) = ((128 + n / 2 ^ k % 64 : Nat) : Int) := by
  rw [sh n k h, wu8 (n / 2 ^ k)]
  have h1 : (BitVec.toNat (HAnd.hAnd (BitVec.ofInt (IntKind.bits IntKind.u8) ((n / 2 ^ k % 256 : Nat) : Int)) (BitVec.ofInt (IntKind.bits IntKind.u8) (63 : Int)))) = n / 2 ^ k % 256 % 64 := and63 _ (Nat.mod_lt _ (by omega))
  rw [h1, wu8 (n / 2 ^ k % 256 % 64)]
  have h2 : (BitVec.toNat (HOr.hOr (BitVec.ofInt (IntKind.bits IntKind.u8) (128 : Int)) (BitVec.ofInt (IntKind.bits IntKind.u8) ((n / 2 ^ k % 256 % 64 % 256 : Nat) : Int)))) = 128 + n / 2 ^ k % 256 % 64 % 256 := or128 _ (by omega)
  rw [h2, wu8]; omega
theorem cont0 (n : Nat) : IntKind.wrap IntKind.u8 (((BitVec.toNat (HOr.hOr (BitVec.ofInt (IntKind.bits IntKind.u8) (128 : Int)) (BitVec.ofInt (IntKind.bits IntKind.u8) (IntKind.wrap IntKind.u8 (((BitVec.toNat (HAnd.hAnd (BitVec.ofInt (IntKind.bits IntKind.u8) (IntKind.wrap IntKind.u8 (n : Int))) (BitVec.ofInt (IntKind.bits IntKind.u8) (63 : Int)))) : Nat) : Int))))) : Nat) : Int) = ((128 + n % 64 : Nat) : Int) := by
  have := cont n 0 (by omega)
  have e : Int.fdiv (n : Int) ((2 : Int) ^ (Min.min (Int.toNat ((0 : Nat) : Int)) (IntKind.bits IntKind.i32))) = (n : Int) := by rw [sh n 0 (by omega)]; simp
  rw [e] at this
  rw [this]; simp
theorem lead192 (n : Nat) (h : n / 64 < 32) : IntKind.wrap IntKind.u8 (((BitVec.toNat (HOr.hOr (BitVec.ofInt (IntKind.bits IntKind.u8) (192 : Int)) (BitVec.ofInt (IntKind.bits IntKind.u8) (IntKind.wrap IntKind.u8 (Int.fdiv (n : Int) ((2 : Int) ^ (Min.min (Int.toNat (6 : Int)) (IntKind.bits IntKind.i32)))))))) : Nat) : Int) = ((192 + n / 64 : Nat) : Int) := by
  have e := sh n 6 (by omega)
  have e' : Int.fdiv (n : Int) ((2 : Int) ^ (Min.min (Int.toNat (6 : Int)) (IntKind.bits IntKind.i32))) = ((n / 64 : Nat) : Int) := e
  rw [e', wu8 (n / 64)]
  have h2 : (BitVec.toNat (HOr.hOr (BitVec.ofInt (IntKind.bits IntKind.u8) (192 : Int)) (BitVec.ofInt (IntKind.bits IntKind.u8) ((n / 64 % 256 : Nat) : Int)))) = 192 + n / 64 % 256 := or192 _ (by omega)
  rw [h2, wu8]; omega
theorem lead224 (n : Nat) (h : n / 4096 < 16) : IntKind.wrap IntKind.u8 (((BitVec.toNat (HOr.hOr (BitVec.ofInt (IntKind.bits IntKind.u8) (224 : Int)) (BitVec.ofInt (IntKind.bits IntKind.u8) (IntKind.wrap IntKind.u8 (Int.fdiv (n : Int) ((2 : Int) ^ (Min.min (Int.toNat (12 : Int)) (IntKind.bits IntKind.i32)))))))) : Nat) : Int) = ((224 + n / 4096 : Nat) : Int) := by
  have e := sh n 12 (by omega)
  have e' : Int.fdiv (n : Int) ((2 : Int) ^ (Min.min (Int.toNat (12 : Int)) (IntKind.bits IntKind.i32))) = ((n / 4096 : Nat) : Int) := e
  rw [e', wu8 (n / 4096)]
  have h2 : (BitVec.toNat (HOr.hOr (BitVec.ofInt (IntKind.bits IntKind.u8) (224 : Int)) (BitVec.ofInt (IntKind.bits IntKind.u8) ((n / 4096 % 256 : Nat) : Int)))) = 224 + n / 4096 % 256 := or224 _ (by omega)
  rw [h2, wu8]; omega
theorem lead240 (n : Nat) (h : n / 262144 < 8) : IntKind.wrap IntKind.u8 (((BitVec.toNat (HOr.hOr (BitVec.ofInt (IntKind.bits IntKind.u8) (240 : Int)) (BitVec.ofInt (IntKind.bits IntKind.u8) (IntKind.wrap IntKind.u8 (Int.fdiv (n : Int) ((2 : Int) ^ (Min.min (Int.toNat (18 : Int)) (IntKind.bits IntKind.i32)))))))) : Nat) : Int) = ((240 + n / 262144 : Nat) : Int) := by
  have e := sh n 18 (by omega)
  have e' : Int.fdiv (n : Int) ((2 : Int) ^ (Min.min (Int.toNat (18 : Int)) (IntKind.bits IntKind.i32))) = ((n / 262144 : Nat) : Int) := e
  rw [e', wu8 (n / 262144)]
  have h2 : (BitVec.toNat (HOr.hOr (BitVec.ofInt (IntKind.bits IntKind.u8) (240 : Int)) (BitVec.ofInt (IntKind.bits IntKind.u8) ((n / 262144 % 256 : Nat) : Int)))) = 240 + n / 262144 % 256 := or240 _ (by omega)
  rw [h2, wu8]; omega
theorem cont6 (n : Nat) : IntKind.wrap IntKind.u8 (((BitVec.toNat (HOr.hOr (BitVec.ofInt (IntKind.bits IntKind.u8) (128 : Int)) (BitVec.ofInt (IntKind.bits IntKind.u8) (IntKind.wrap IntKind.u8 (((BitVec.toNat (HAnd.hAnd (BitVec.ofInt (IntKind.bits IntKind.u8) (IntKind.wrap IntKind.u8 (Int.fdiv (n : Int) ((2 : Int) ^ (Min.min (Int.toNat (6 : Int)) (IntKind.bits IntKind.i32)))))) (BitVec.ofInt (IntKind.bits IntKind.u8) (63 : Int)))) : Nat) : Int))))) : Nat) : Int) = ((128 + n / 64 % 64 : Nat) : Int) := cont n 6 (by omega)
theorem cont12 (n : Nat) : IntKind.wrap IntKind.u8 (((BitVec.toNat (HOr.hOr (BitVec.ofInt (IntKind.bits IntKind.u8) (128 : Int)) (BitVec.ofInt (IntKind.bits IntKind.u8) (IntKind.wrap IntKind.u8 (((BitVec.toNat (HAnd.hAnd (BitVec.ofInt (IntKind.bits IntKind.u8) (IntKind.wrap IntKind.u8 (Int.fdiv (n : Int) ((2 : Int) ^ (Min.min (Int.toNat (12 : Int)) (IntKind.bits IntKind.i32)))))) (BitVec.ofInt (IntKind.bits IntKind.u8) (63 : Int)))) : Nat) : Int))))) : Nat) : Int) = ((128 + n / 4096 % 64 : Nat) : Int) := cont n 12 (by omega)

theorem ints_rune (r : Int) : ints (encodeRune r) = encodeRuneZ r := by
  unfold ints encodeRune
  rw [List.map_map]
  have hb := encodeRuneZ_byte r
  generalize encodeRuneZ r = l at hb
  induction l with
  | nil => rfl
  | cons x l ih =>
    rw [List.map_cons, ih (fun y hy => hb y (by simp [hy]))]
    congr 1
    have := hb x (by simp)
    show ((x.toNat.toUInt8.toNat : Nat) : Int) = x
    rw [Nat.toUInt8, UInt8.toNat_ofNat']
    omega
theorem room1 (n : Nat) (h : n ≤ 3000000) : Nat.ble n (room (0 + 1)) = true := by
  rw [Nat.ble_eq]; exact Nat.le_trans h (by decide)

set_option maxHeartbeats 1000000 in
/-- A rune that may be, behind what is there. -/
theorem appendRune_eq {κ : Nat} (r : Nat) (acc : List UInt8) (h : r < 55296 ∨ (57344 ≤ r ∧ r ≤ 1114111)) (ha : acc.length ≤ 2000000) : unicode_utf8_AppendRune κ (r : Int) (ints acc) = some (ints (acc ++ encodeRune (r : Int))) := by
  have hl : (ints acc).length ≤ 2000000 := by rw [ints_len]; exact ha
  unfold unicode_utf8_AppendRune
  rw [wu32 r (by omega)]
  by_cases h1 : r ≤ 127
  · have d : decide ((r : Int) ≤ 127) = true := by simp; omega
    rw [d, bif_t, wu8, show Nat.ble ((ints acc).length + [((r % 256 : Nat) : Int)].length) (room (0 + 1)) = true from room1 _ (by simp; omega), bif_t, ← ints_append, ints_rune, encodeRuneZ_one (by omega) (by omega)]
    rw [show r % 256 = r by omega]
  · have d : decide ((r : Int) ≤ 127) = false := by simp; omega
    rw [d, bif_f]
    unfold unicode_utf8_appendRuneNonASCII
    rw [wu32 r (by omega)]
    by_cases h2 : r ≤ 2047
    · have d : decide ((r : Int) ≤ 2047) = true := by simp; omega
      rw [d, bif_t, lead192 r (by omega), cont0, show ∀ a b : Int, Nat.ble ((ints acc).length + [a, b].length) (room (0 + 1)) = true from fun a b => room1 _ (by simp; omega), bif_t, ← ints_append, ints_rune, encodeRuneZ_two (by omega) (by omega), show ((192 + r / 64 : Nat) : Int) = 192 + (r : Int) / 64 by omega, show ((128 + r % 64 : Nat) : Int) = 128 + (r : Int) % 64 by omega, Option.bind_some]
    · have d : decide ((r : Int) ≤ 2047) = false := by simp; omega
      rw [d, bif_f]
      by_cases h3 : r ≤ 65535
      · have hb : unicode_utf8_appendRuneNonASCII.v0 κ (r : Int) (r : Int) (decide ((r : Int) < 55296)) (ints acc) = some ((r : Int), (r : Int), true, ints acc) := by
          unfold unicode_utf8_appendRuneNonASCII.v0 unicode_utf8_appendRuneNonASCII.v1
          by_cases h4 : r < 55296
          · have d : decide ((r : Int) < 55296) = true := by simp; omega
            rw [d]; rfl
          · have d : decide ((r : Int) < 55296) = false := by simp; omega
            have d2 : decide ((57343 : Int) < (r : Int)) = true := by simp; omega
            have d3 : decide ((r : Int) ≤ 65535) = true := by simp; omega
            rw [d, d2, d3]; rfl
        rw [hb]
        simp only [Option.bind_some, bif_t]
        rw [lead224 r (by omega), cont0, cont6, show ∀ a b c : Int, Nat.ble ((ints acc).length + [a, b, c].length) (room (0 + 1)) = true from fun a b c => room1 _ (by simp; omega), bif_t, ← ints_append, ints_rune, encodeRuneZ_three (by omega), show ((224 + r / 4096 : Nat) : Int) = 224 + (r : Int) / 4096 by omega, show ((128 + r / 64 % 64 : Nat) : Int) = 128 + (r : Int) / 64 % 64 by omega, show ((128 + r % 64 : Nat) : Int) = 128 + (r : Int) % 64 by omega, Option.bind_some]
      · have hb : unicode_utf8_appendRuneNonASCII.v0 κ (r : Int) (r : Int) (decide ((r : Int) < 55296)) (ints acc) = some ((r : Int), (r : Int), false, ints acc) := by
          unfold unicode_utf8_appendRuneNonASCII.v0 unicode_utf8_appendRuneNonASCII.v1
          have d : decide ((r : Int) < 55296) = false := by simp; omega
          have d2 : decide ((57343 : Int) < (r : Int)) = true := by simp; omega
          have d3 : decide ((r : Int) ≤ 65535) = false := by simp; omega
          rw [d, d2, d3]; rfl
        have hb4 : unicode_utf8_appendRuneNonASCII.v4 κ (r : Int) (r : Int) (ints acc) = some ((r : Int), true, ints acc) := by
          unfold unicode_utf8_appendRuneNonASCII.v4
          have d : decide ((r : Int) > 65535) = true := by simp; omega
          have d2 : decide ((r : Int) ≤ 1114111) = true := by simp; omega
          rw [d, d2]; rfl
        rw [hb]
        simp only [Option.bind_some, bif_f, hb4, bif_t]
        rw [lead240 r (by omega), cont0, cont6, cont12, show ∀ a b c d : Int, Nat.ble ((ints acc).length + [a, b, c, d].length) (room (0 + 1)) = true from fun a b c d => room1 _ (by simp; omega), bif_t, ← ints_append, ints_rune, encodeRuneZ_four (by omega) (by omega), show ((240 + r / 262144 : Nat) : Int) = 240 + (r : Int) / 262144 by omega, show ((128 + r / 4096 % 64 : Nat) : Int) = 128 + (r : Int) / 4096 % 64 by omega, show ((128 + r / 64 % 64 : Nat) : Int) = 128 + (r : Int) / 64 % 64 by omega, show ((128 + r % 64 : Nat) : Int) = 128 + (r : Int) % 64 by omega, Option.bind_some]

def four : List UInt8 := [34, 92, 10, 9]
def idx4 (n : Nat) : Int := if n = 34 then 0 else if n = 92 then 1 else if n = 10 then 2 else if n = 9 then 3 else -1
theorem idx_small : ∀ n : Nat, n < 128 → indexByte four (Nat.toUInt8 n) = idx4 n := by decide +kernel
theorem last_big (r : Nat) (h0 : 128 ≤ r) (h : r < 55296 ∨ (57344 ≤ r ∧ r ≤ 1114111)) : ∃ (n : Nat) (e : List UInt8) (b : UInt8), n ≤ 3 ∧ 1 ≤ n ∧ Go.Utf8.encode (r : Int) = (ByteArray.mk (List.toArray e)) ∧ e.length = n + 1 ∧ e[n]? = some b ∧ 128 ≤ b.toNat := by
  have hv : Go.Utf8.valid (r : Int) = true := valid_of r h
  have last : ∀ x : Nat, 128 ≤ (UInt8.ofNat (128 + x % 64)).toNat := fun x => by rw [UInt8.toNat_ofNat']; omega
  unfold Go.Utf8.encode
  rw [hv]
  simp only [if_true, Int.toNat_natCast]
  rw [if_neg (by omega)]
  by_cases h2 : r < 2048
  · rw [if_pos h2]
    exact ⟨1, _, _, by omega, by omega, rfl, rfl, rfl, last _⟩
  rw [if_neg h2]
  by_cases h3 : r < 65536
  · rw [if_pos h3]
    exact ⟨2, _, _, by omega, by omega, rfl, rfl, rfl, last _⟩
  rw [if_neg h3]
  exact ⟨3, _, _, by omega, by omega, rfl, rfl, rfl, last _⟩

theorem valid_by {κ : Nat} (r : Nat) (a : Bool) (h0 : unicode_utf8_ValidRune.v0 κ (r : Int) = some ((r : Int), a)) (h : a = true ∨ unicode_utf8_ValidRune.v2 κ (r : Int) = some true) : unicode_utf8_ValidRune κ (r : Int) = some true := by
  unfold unicode_utf8_ValidRune
  rw [h0]
  simp only [Option.bind_some]
  rcases h with h | h
  · subst h; rfl
  · rw [h]; cases a <;> rfl
theorem validRune_eq {κ : Nat} (r : Nat) (h : r < 55296 ∨ (57344 ≤ r ∧ r ≤ 1114111)) : unicode_utf8_ValidRune κ (r : Int) = some true := by
  have h0 : unicode_utf8_ValidRune.v0 κ (r : Int) = some ((r : Int), decide ((r : Int) < 55296)) := by
    unfold unicode_utf8_ValidRune.v0
    rw [show decide ((0 : Int) ≤ (r : Int)) = true by simp, bif_t]
  refine valid_by r _ h0 ?_
  by_cases h3 : r < 55296
  · exact .inl (by simp; omega)
  · refine .inr ?_
    unfold unicode_utf8_ValidRune.v2
    have d2 : decide ((57343 : Int) < (r : Int)) = true := by simp; omega
    have d3 : decide ((r : Int) ≤ 1114111) = true := by simp; omega
    rw [d2, bif_t, d3]
theorem idx4_big (r : Nat) (h : 128 ≤ r) : idx4 r = -1 := by
  unfold idx4; rw [if_neg (by omega), if_neg (by omega), if_neg (by omega), if_neg (by omega)]
theorem index_loop (k n : Nat) (en : List UInt8) (b : UInt8) (n3 : n ≤ 3) (e2 : en.length = n + 1) (e3 : en[n]? = some b) (hb : 128 ≤ b.toNat) :
    strings_IndexRune.l8 (k + 1) (k + 1) ((ByteArray.mk (List.toArray four)), (ByteArray.mk (List.toArray en)), (n : Int), (n : Int)) = some (.inr (-1)) := by
  have w1 : IntKind.wrap IntKind.i64 ((n : Int) + 1) = ((n + 1 : Nat) : Int) := by rw [wrap_in _ (by omega) (by omega)]; omega
  have key : ∀ a : UInt8, a ∈ four → a.toNat < 128 := by decide
  have hidx : ∀ l : List UInt8, (∀ a ∈ l, a ∈ four) → decide (indexByte l b < 0) = true := by
    intro l hl
    have hc := contains_iff_indexByte l b
    have hn : l.contains b = false := by
      cases hh : l.contains b
      · rfl
      · rw [List.contains_iff_mem] at hh
        have := key b (hl b hh); omega
    rw [hn] at hc
    have := of_decide_eq_false hc.symm
    exact decide_eq_true (by omega)
  have four_len : four.length = 4 := rfl
  obtain ⟨a, ha, ham⟩ : ∃ a, four[n]? = some a ∧ a ∈ four := by
    have : n < four.length := by rw [four_len]; omega
    exact ⟨four[n], List.getElem?_eq_getElem this, List.getElem_mem this⟩
  have hne : ((((a.toNat : Nat) : Int)) != ((b.toNat : Nat) : Int)) = true := by
    have := key a ham
    simp; omega
  have d5 : decide ((n : Int) < ((four.length : Nat) : Int)) = true := by rw [four_len]; simp; omega
  have d6 : decide (((n + 1 : Nat) : Int) ≤ ((four.length : Nat) : Int)) = true := by rw [four_len]; simp; omega
  have d7 : decide ((0 : Int) ≤ ((n + 1 : Nat) : Int)) = true := by simp; omega
  have d8 : decide (((four.length : Nat) : Int) ≤ ((four.length : Nat) : Int)) = true := by simp
  have hsub : ∀ x ∈ (four.drop (n + 1)).take (four.length - (n + 1)), x ∈ four := fun x hx => List.mem_of_mem_drop (List.mem_of_mem_take hx)
  have hbb' : b.toNat.toUInt8 = b := by simp
  generalize four = F at *
  simp only [strings_IndexRune.l8, strings_IndexRune.w8, bs_size, d5, bif_t, d0n, bs_data, Int.toNat_natCast, ha, e3, Option.bind_some, strings_IndexRune.v9, hne, w1, d8, d7, d6, Bool.and_self, bs_extract, hbb', hidx _ hsub]
theorem index_by {κ : Nat} (r : Nat) (s e : ByteArray) (n : Int) (a c : Bool) (h0 : strings_IndexRune.v0 κ s (r : Int) = some (s, (r : Int), a)) (ha : a = false) (hc : ((r : Int) == (65533 : Int)) = c) (hcf : c = false) (hv : unicode_utf8_ValidRune κ (r : Int) = some true)
    (he : Go.Utf8.encode (r : Int) = e) (hn : IntKind.wrap IntKind.i64 (((e.size : Nat) : Int) - 1) = n) (hl : strings_IndexRune.l8 κ κ (s, e, n, n) = some (.inr (-1))) : strings_IndexRune κ s (r : Int) = some (-1) := by
  unfold strings_IndexRune
  rw [h0]
  simp only [Option.bind_some]
  rw [hc, hv, he, hn]
  subst ha hcf
  have hl' : strings_IndexRune.l8 κ κ (Prod.mk s (Prod.mk e (Prod.mk n n))) = _ := hl
  simp only [bif_f, Option.bind_some, Bool.not_true, hl']
theorem index_v0 {κ : Nat} (r : Nat) (s : ByteArray) : strings_IndexRune.v0 κ s (r : Int) = some (s, (r : Int), decide ((r : Int) < 128)) := by
  unfold strings_IndexRune.v0
  rw [show decide ((0 : Int) ≤ (r : Int)) = true by simp, bif_t]
theorem indexRune_big {κ : Nat} (r : Nat) (hκ : 6 ≤ κ) (h : r < 55296 ∨ (57344 ≤ r ∧ r ≤ 1114111)) (h1 : 128 ≤ r) (h2 : r ≠ 65533) : strings_IndexRune κ ((ByteArray.mk (List.toArray four))) (r : Int) = some (-1) := by
  obtain ⟨k, rfl⟩ : ∃ k, κ = k + 1 := ⟨κ - 1, by omega⟩
  obtain ⟨n, en, b, n3, n1, e1, e2, e3, hb⟩ := last_big r (by omega) h
  refine index_by r _ _ (n : Int) _ _ (index_v0 r _) (by simp; omega) rfl (by simp; omega) (validRune_eq r h) e1 ?_ (index_loop k n en b n3 e2 e3 hb)
  rw [bs_size, e2, wrap_in _ (by omega) (by omega)]; omega
theorem indexRune_bad {κ : Nat} (hκ : 6 ≤ κ) : strings_IndexRune κ ((ByteArray.mk (List.toArray four))) (65533 : Int) = some (-1) := by
  obtain ⟨k, rfl⟩ : ∃ k, κ = k + 6 := ⟨κ - 6, by omega⟩
  kernel_rfl
theorem indexRune_small {κ : Nat} (r : Nat) (h1 : r < 128) : strings_IndexRune κ ((ByteArray.mk (List.toArray four))) (r : Int) = some (idx4 r) := by
  have d0 : decide ((0 : Int) ≤ (r : Int)) = true := by simp
  have d : decide ((r : Int) < 128) = true := by simp; omega
  have hs := idx_small r h1
  have hm : r % 256 = r := by omega
  unfold strings_IndexRune strings_IndexRune.v0
  simp only [d0, bif_t, d, Option.bind_some, wu8, hm, Int.toNat_natCast, bs_data, hs]
theorem indexRune_eq {κ : Nat} (r : Nat) (hκ : 6 ≤ κ) (h : r < 55296 ∨ (57344 ≤ r ∧ r ≤ 1114111)) : strings_IndexRune κ ((ByteArray.mk (List.toArray four))) (r : Int) = some (idx4 r) := by
  by_cases h1 : r < 128
  · exact indexRune_small r h1
  · rw [idx4_big r (by omega)]
    by_cases h2 : r = 65533
    · subst h2; exact indexRune_bad hκ
    · exact indexRune_big r hκ h (by omega) h2
end Go.Proofs.YtfoeekaanngoiaaDoor.Lex5


namespace Go.Proofs.YtfoeekaanngoiaaDoor.Lex5
open Go Go.Lib Ev Ev.Seat

def hexs : List UInt8 := [48, 49, 50, 51, 52, 53, 54, 55, 56, 57, 97, 98, 99, 100, 101, 102]
theorem hex_at : ∀ n : Nat, n < 16 → (hexs.drop n).take (n + 1 - n) = [hexd n] := by unfold hexd; decide
theorem shr4 (b : UInt8) : Int.fdiv ((b.toNat : Nat) : Int) ((2 : Int) ^ (Min.min (Int.toNat (4 : Int)) (IntKind.bits IntKind.u8))) = ((b.toNat / 16 : Nat) : Int) := by
  have : Min.min (Int.toNat (4 : Int)) (IntKind.bits IntKind.u8) = 4 := by decide
  rw [this, show ((2 : Int) ^ 4) = ((16 : Nat) : Int) by decide, Int.fdiv_eq_ediv_of_nonneg _ (Int.natCast_nonneg _)]
  norm_cast
theorem and15 : ∀ n : Nat, n < 256 → (BitVec.ofInt 8 (n : Int) &&& BitVec.ofInt 8 15).toNat = n % 16 := by decide +kernel
theorem low4 (b : UInt8) : (BitVec.toNat (HAnd.hAnd (BitVec.ofInt (IntKind.bits IntKind.u8) ((b.toNat : Nat) : Int)) (BitVec.ofInt (IntKind.bits IntKind.u8) (15 : Int)))) = b.toNat % 16 := and15 _ b.toNat_lt
theorem wsucc (n : Nat) (h : n < 16) : IntKind.wrap IntKind.u8 (((n : Nat) : Int) + 1) = ((n + 1 : Nat) : Int) := by
  rw [show ((n : Int) + 1) = ((n + 1 : Nat) : Int) by omega, wu8]; omega
theorem wlow (n : Nat) (h : n < 16) : IntKind.wrap IntKind.u8 ((n : Nat) : Int) = (n : Int) := by rw [wu8]; omega

theorem rune_range (b : UInt8) (t : List UInt8) (hb : 128 ≤ b.toNat) : 128 ≤ (decodeL (b :: t)).1 ∧ ((decodeL (b :: t)).1 < 55296 ∨ (57344 ≤ (decodeL (b :: t)).1 ∧ (decodeL (b :: t)).1 ≤ 1114111)) := by
  rw [decodeL_N]
  have h0 : ((b :: t).getD 0 0) = b := rfl
  rw [h0]
  rcases decodeN_shape (b :: t).length b.toNat ((b :: t).getD 1 0).toNat ((b :: t).getD 2 0).toNat ((b :: t).getD 3 0).toNat with ⟨c, e⟩ | ⟨c1, c2, c3, cv, e⟩ | ⟨c1, c2, c3, c4, cv, cs, e⟩ | ⟨c1, c2, c3, c4, c5, cv, cw, e⟩ | e
  · omega
  · rw [e]; simp only; omega
  · rw [e]; simp only; omega
  · rw [e]; simp only; omega
  · rw [e]; simp only; omega

theorem rune3 {κ : Nat} (r : Nat) (acc : List UInt8) (h : r < 55296 ∨ (57344 ≤ r ∧ r ≤ 1114111)) (ha : acc.length ≤ 2000000) : ∃ n, strings_Builder_WriteRune κ (r : Int) (ints acc) = some (n, ints (acc ++ encodeRune (r : Int))) := by
  unfold strings_Builder_WriteRune
  rw [appendRune_eq r acc h ha]
  exact ⟨_, rfl⟩

/-- One byte by two digits. -/
theorem hex_write {κ : Nat} (l : List UInt8) (i : Nat) (hi : i < l.length) (r : Int) (k : Int) (acc : List UInt8) (ha : acc.length ≤ 2000000) (j : Nat) :
    lex_Quote.v20 κ ((ByteArray.mk (List.toArray l))) (i : Int) r k true ((ByteArray.mk (List.toArray l))) j (ints acc) = some ((ByteArray.mk (List.toArray l)), (ByteArray.mk (List.toArray l)), j, ints (acc ++ [92, 120, hexd (l[i].toNat / 16), hexd (l[i].toNat % 16)])) := by
  have hb : l[i].toNat < 256 := l[i].toNat_lt
  generalize hbd : l[i] = b at hb
  have hg : l[i]? = some b := by rw [List.getElem?_eq_getElem hi, hbd]
  have hx : ByteArray.mk (List.toArray ((48 : UInt8) :: ((49 : UInt8) :: ((50 : UInt8) :: ((51 : UInt8) :: ((52 : UInt8) :: ((53 : UInt8) :: ((54 : UInt8) :: ((55 : UInt8) :: ((56 : UInt8) :: ((57 : UInt8) :: ((97 : UInt8) :: ((98 : UInt8) :: ((99 : UInt8) :: ((100 : UInt8) :: ((101 : UInt8) :: ((102 : UInt8) :: []))))))))))))))))) = (ByteArray.mk (List.toArray hexs)) := rfl
  have hlen : hexs.length = 16 := rfl
  have hA := hex_at (b.toNat / 16) (by omega)
  have hB := hex_at (b.toNat % 16) (by omega)
  have m1 : Nat.ble ((2 : Nat) + 1) maxI = true := by decide +kernel
  have m2 : Nat.ble ((3 : Nat) + 1) maxI = true := by decide +kernel
  unfold lex_Quote.v20
  simp only [bif_t, d0n, bs_data, Int.toNat_natCast, hg, Option.bind_some, hx, bs_size, shr4, wsucc _ (show b.toNat / 16 < 16 by omega), low4, wlow _ (show b.toNat % 16 < 16 by omega), wsucc _ (show b.toNat % 16 < 16 by omega), bs_extract, hA, hB, bs_append]
  have d1 : decide (((b.toNat / 16 + 1 : Nat) : Int) ≤ ((hexs.length : Nat) : Int)) = true := by rw [hlen]; simp; omega
  have d2 : decide (((b.toNat % 16 + 1 : Nat) : Int) ≤ ((hexs.length : Nat) : Int)) = true := by rw [hlen]; simp; omega
  have d3 : decide (((b.toNat / 16 : Nat) : Int) ≤ ((b.toNat / 16 + 1 : Nat) : Int)) = true := by simp; omega
  have d4 : decide (((b.toNat % 16 : Nat) : Int) ≤ ((b.toNat % 16 + 1 : Nat) : Int)) = true := by simp; omega
  rw [d1, d2, d3, d4]
  simp only [Bool.and_self, bif_t, List.length_cons, List.length_nil, List.cons_append, List.nil_append, Nat.zero_add, Nat.reduceAdd, m1, m2]
  rw [write3 _ _ (by simp; omega)]
  rfl

theorem esc_at : ∀ n : Nat, n < 4 → (([34, 92, 110, 116] : List UInt8).drop n).take (n + 1 - n) = [([34, 92, 110, 116] : List UInt8).getD n 0] := by decide
theorem esc_write {κ : Nat} (l : List UInt8) (i : Int) (r : Int) (n : Nat) (hn : n < 4) (acc : List UInt8) (ha : acc.length ≤ 2000000) (j : Nat) :
    lex_Quote.v20 κ ((ByteArray.mk (List.toArray l))) i r (n : Int) false ((ByteArray.mk (List.toArray l))) j (ints acc) = some ((ByteArray.mk (List.toArray l)), (ByteArray.mk (List.toArray l)), j, ints (acc ++ [92, [34, 92, 110, 116].getD n 0])) := by
  have d0 : decide ((n : Int) ≥ 0) = true := by simp
  have w1 : IntKind.wrap IntKind.i64 ((n : Int) + 1) = ((n + 1 : Nat) : Int) := by rw [wrap_in _ (by omega) (by omega)]; omega
  have d1 : decide (((n + 1 : Nat) : Int) ≤ ((4 : Nat) : Int)) = true := by simp; omega
  have d2 : decide ((n : Int) ≤ ((n + 1 : Nat) : Int)) = true := by simp; omega
  have hx := esc_at n hn
  have m1 : Nat.ble (1 + 1) maxI = true := by decide +kernel
  unfold lex_Quote.v20 lex_Quote.v21
  simp only [bif_f, d0, bif_t, w1, d0n, bs_size, List.length_cons, List.length_nil, Nat.zero_add, Nat.reduceAdd, d1, d2, Bool.and_self, bs_extract, Int.toNat_natCast, hx, m1, bs_append, List.cons_append, List.nil_append]
  rw [write3 _ _ (by simp; omega)]
  rfl
theorem rune_write {κ : Nat} (l : List UInt8) (i : Int) (r : Nat) (acc : List UInt8) (h : r < 55296 ∨ (57344 ≤ r ∧ r ≤ 1114111)) (ha : acc.length ≤ 2000000) (j : Nat) :
    lex_Quote.v20 κ ((ByteArray.mk (List.toArray l))) i (r : Int) (-1) false ((ByteArray.mk (List.toArray l))) j (ints acc) = some ((ByteArray.mk (List.toArray l)), (ByteArray.mk (List.toArray l)), j, ints (acc ++ encodeRune (r : Int))) := by
  obtain ⟨n, hn⟩ := rune3 (κ := κ) r acc h ha
  unfold lex_Quote.v20 lex_Quote.v21
  simp only [bif_f, show decide ((-1 : Int) ≥ 0) = false from rfl, hn, Option.bind_some]

theorem decodeGo_eq (l : List UInt8) (i : Nat) (hi : i < l.length) : (Go.Lib.decodeGo ((ByteArray.mk (List.toArray ((l.drop i).take (l.length - i)))))).2 = wd (l.drop i) := by
  have e : (l.drop i).take (l.length - i) = l.drop i := List.take_of_length_le (by rw [List.length_drop]; omega)
  rw [e]
  unfold Go.Lib.decodeGo
  have hne : ((ByteArray.mk (List.toArray (l.drop i)))).size ≠ 0 := by rw [bs_size, List.length_drop]; omega
  simp only [if_neg hne]
  first
    | (rw [bs_decode, List.drop_zero]; rfl)
    | rfl

/-- One sign. -/
theorem quote_sign {κ : Nat} (hκ : 6 ≤ κ) (l : List UInt8) (i : Nat) (hi : i < l.length) (acc : List UInt8) (ha : acc.length ≤ 2000000) (j : Nat) :
    Option.bind (strings_IndexRune κ ((ByteArray.mk (List.toArray four))) (((decodeL (l.drop i)).1 : Nat) : Int)) (fun x0 => lex_Quote.v13 κ ((ByteArray.mk (List.toArray l))) (i : Int) (((decodeL (l.drop i)).1 : Nat) : Int) ((wd (l.drop i) : Nat) : Int) x0 ((ByteArray.mk (List.toArray l))) j (ints acc)) =
      some ((ByteArray.mk (List.toArray l)), (ByteArray.mk (List.toArray l)), j, ints (acc ++ qsign ⟨sgn (l.drop i), okS (l.drop i)⟩)) := by
  have hu : l.drop i = l[i] :: l.drop (i + 1) := List.drop_eq_getElem_cons hi
  have hne : l.drop i ≠ [] := fun h => by have := congrArg List.length h; rw [List.length_drop] at this; simp only [List.length_nil] at this; omega
  have hw := wd_pos (l.drop i)
  by_cases hlt : l[i].toNat < 128
  · have hd : decodeL (l.drop i) = (l[i].toNat, 1) := by rw [hu]; exact decodeL_ascii _ _ hlt
    have hs : sgn (l.drop i) = [l[i]] := by rw [hu]; unfold sgn; rw [wd_ascii _ _ hlt]; rfl
    have hok : okS (l.drop i) = true := by rw [hu]; exact okS_ascii _ _ hlt
    have hwd : wd (l.drop i) = 1 := by rw [hu]; exact wd_ascii _ _ hlt
    rw [hs, hok, hwd, hd]
    simp only
    rw [indexRune_small _ hlt, Option.bind_some]
    have hx := hex_write (κ := κ) l i hi (l[i].toNat : Int) (idx4 l[i].toNat) acc ha j
    have he : ∀ n, n < 4 → _ := fun n hn => esc_write (κ := κ) l (i : Int) (l[i].toNat : Int) n hn acc ha j
    have hr := rune_write (κ := κ) l (i : Int) l[i].toNat acc (by omega) ha j
    have hen : encodeRune ((l[i].toNat : Nat) : Int) = [l[i]] := by
      have := encode_decode (l.drop i) hne ((okS_iff _).1 hok)
      rw [hd] at this
      rw [this]
      have : (l.drop i).take 1 = sgn (l.drop i) := by unfold sgn; rw [hwd]
      rw [this, hs]
    rw [hen] at hr
    have e0 : (((l[i].toNat : Nat) : Int) == (65533 : Int)) = false := by simp; omega
    generalize l[i] = b at *
    have hb : ∀ k : UInt8, b = k → b.toNat = k.toNat := fun k h => by rw [h]
    have hbn : ∀ k : UInt8, b.toNat ≠ k.toNat → ¬ ([b] = [k]) := fun k hk h => hk (hb k (List.cons.inj h).1)
    have hbe : ∀ k : UInt8, b.toNat = k.toNat → b = k := fun k h => UInt8.toNat_inj.1 h
    unfold lex_Quote.v13 lex_Quote.v14
    rw [e0]
    simp only [bif_f, Option.bind_some, lex_Quote.v16, lex_Quote.v17]
    by_cases h34 : b.toNat = 34
    · obtain rfl := hbe 34 h34
      have : idx4 (34 : UInt8).toNat = ((0 : Nat) : Int) := rfl
      rw [this]
      simp only [show decide (((0 : Nat) : Int) < 0) = false from rfl, bif_f, Option.bind_some, he 0 (by omega)]
      rfl
    by_cases h92 : b.toNat = 92
    · obtain rfl := hbe 92 h92
      have : idx4 (92 : UInt8).toNat = ((1 : Nat) : Int) := rfl
      rw [this]
      simp only [show decide (((1 : Nat) : Int) < 0) = false from rfl, bif_f, Option.bind_some, he 1 (by omega)]
      rfl
    by_cases h10 : b.toNat = 10
    · obtain rfl := hbe 10 h10
      have : idx4 (10 : UInt8).toNat = ((2 : Nat) : Int) := rfl
      rw [this]
      simp only [show decide (((2 : Nat) : Int) < 0) = false from rfl, bif_f, Option.bind_some, he 2 (by omega)]
      rfl
    by_cases h9 : b.toNat = 9
    · obtain rfl := hbe 9 h9
      have : idx4 (9 : UInt8).toNat = ((3 : Nat) : Int) := rfl
      rw [this]
      simp only [show decide (((3 : Nat) : Int) < 0) = false from rfl, bif_f, Option.bind_some, he 3 (by omega)]
      rfl
    have hid : idx4 b.toNat = -1 := by unfold idx4; rw [if_neg h34, if_neg h92, if_neg h10, if_neg h9]
    rw [hid] at hx ⊢
    have hq : qsign ⟨[b], true⟩ = if b.toNat < 32 ∨ b.toNat = 127 then [92, 120, hexd (b.toNat / 16), hexd (b.toNat % 16)] else [b] := by
      unfold qsign
      simp only
      rw [if_neg (by rintro (h | h); exact hbn 34 h34 h; exact hbn 92 h92 h), if_neg (hbn 10 h10), if_neg (hbn 9 h9)]
      simp
    rw [hq]
    simp only [show decide ((-1 : Int) < 0) = true from rfl, bif_t]
    by_cases h32 : b.toNat < 32
    · have d : decide (((b.toNat : Nat) : Int) < 32) = true := by simp; omega
      rw [d, if_pos (.inl h32)]
      simp only [bif_t, Option.bind_some, hx]
    · have d : decide (((b.toNat : Nat) : Int) < 32) = false := by simp; omega
      rw [d]
      by_cases h127 : b.toNat = 127
      · have d2 : (((b.toNat : Nat) : Int) == 127) = true := by simp; omega
        rw [d2, if_pos (.inr h127)]
        simp only [bif_f, Option.bind_some, hx]
      · have d2 : (((b.toNat : Nat) : Int) == 127) = false := by simp; omega
        rw [d2, if_neg (by omega)]
        simp only [bif_f, Option.bind_some, hr]
  · obtain ⟨r1, r2⟩ := rune_range l[i] (l.drop (i + 1)) (by omega)
    rw [← hu] at r1 r2
    have hs : ∃ t, sgn (l.drop i) = l[i] :: t := by
      rcases sgn_cases _ hne with ⟨b, t, h1, h2, h3, h4⟩ | ⟨b, t, h1, h2⟩
      · rw [hu] at h1; exact absurd (by rw [(List.cons.inj h1).1]; exact h2) hlt
      · refine ⟨t, ?_⟩
        have : (l.drop i).take (wd (l.drop i)) = b :: t := by rw [← sgn_def]; exact h1
        obtain ⟨k, hk⟩ : ∃ k, wd (l.drop i) = k + 1 := ⟨wd (l.drop i) - 1, by omega⟩
        rw [hk, hu, List.take_succ_cons] at this
        rw [h1, (List.cons.inj this).1]
    obtain ⟨t, hs⟩ := hs
    rw [indexRune_eq _ hκ r2, idx4_big _ r1, Option.bind_some]
    have hx := hex_write (κ := κ) l i hi (((decodeL (l.drop i)).1 : Nat) : Int) (-1) acc ha j
    have hr := rune_write (κ := κ) l (i : Int) (decodeL (l.drop i)).1 acc r2 ha j
    have hq : qsign ⟨l[i] :: t, okS (l.drop i)⟩ = if okS (l.drop i) = false then [92, 120, hexd (l[i].toNat / 16), hexd (l[i].toNat % 16)] else l[i] :: t := by
      have hbn : ∀ k : UInt8, k.toNat < 128 → ¬ (l[i] :: t = [k]) := fun k hk h => by rw [(List.cons.inj h).1] at hlt; exact hlt hk
      unfold qsign
      simp only
      rw [if_neg (by rintro (h | h); exact hbn 34 (by decide) h; exact hbn 92 (by decide) h), if_neg (hbn 10 (by decide)), if_neg (hbn 9 (by decide))]
      by_cases ho : okS (l.drop i) = false
      · rw [if_pos (.inl ho), if_pos ho]
      · rw [if_neg (by rintro (h | h | h); exact ho h; omega; omega), if_neg ho]
    rw [hs, hq]
    unfold lex_Quote.v13 lex_Quote.v14
    have d32 : decide ((((decodeL (l.drop i)).1 : Nat) : Int) < 32) = false := by simp; omega
    have d127 : ((((decodeL (l.drop i)).1 : Nat) : Int) == 127) = false := by simp; omega
    cases hok : okS (l.drop i)
    · obtain ⟨b1, b2, b3⟩ := bad_dec _ hne hok
      have e0 : ((((decodeL (l.drop i)).1 : Nat) : Int) == (65533 : Int)) = true := by rw [b1]; rfl
      have e1 : decide (((wd (l.drop i) : Nat) : Int) < 2) = true := by rw [b2]; rfl
      rw [e0, e1]
      simp only [bif_t, Option.bind_some, lex_Quote.v16, hx, if_true]
    · have hen : encodeRune (((decodeL (l.drop i)).1 : Nat) : Int) = l[i] :: t := by
        rw [← hs, sgn_def]; exact encode_decode (l.drop i) hne ((okS_iff _).1 hok)
      rw [hen] at hr
      have hfin : ∀ a : Bool, a = false → Option.bind (some ((ByteArray.mk (List.toArray l)), (i : Int), (((decodeL (l.drop i)).1 : Nat) : Int), (-1 : Int), a, (ByteArray.mk (List.toArray l)), j, ints acc)) (fun x0 => Option.bind (lex_Quote.v16 κ x0.fst x0.snd.fst x0.snd.snd.fst x0.snd.snd.snd.fst x0.snd.snd.snd.snd.fst x0.snd.snd.snd.snd.snd.fst x0.snd.snd.snd.snd.snd.snd.fst x0.snd.snd.snd.snd.snd.snd.snd) fun x1 =>
          Option.bind (lex_Quote.v20 κ x1.fst x1.snd.fst x1.snd.snd.fst x1.snd.snd.snd.fst x1.snd.snd.snd.snd.fst x1.snd.snd.snd.snd.snd.fst x1.snd.snd.snd.snd.snd.snd.fst x1.snd.snd.snd.snd.snd.snd.snd) fun x2 => some (x2.fst, x2.snd.fst, x2.snd.snd.fst, x2.snd.snd.snd)) = some ((ByteArray.mk (List.toArray l)), (ByteArray.mk (List.toArray l)), j, ints (acc ++ l[i] :: t)) := by
        rintro a rfl
        simp only [Option.bind_some, lex_Quote.v16, bif_f, lex_Quote.v17, show decide ((-1 : Int) < 0) = true from rfl, bif_t, d32, d127, hr]
      rw [if_neg (by simp)]
      by_cases h3 : (decodeL (l.drop i)).1 = 65533
      · have e0 : ((((decodeL (l.drop i)).1 : Nat) : Int) == (65533 : Int)) = true := by rw [h3]; rfl
        have : ¬ wd (l.drop i) = 1 := fun h => (okS_iff _).1 hok ⟨h3, h⟩
        have e1 : decide (((wd (l.drop i) : Nat) : Int) < 2) = false := by simp; omega
        rw [e0, bif_t]
        exact hfin _ e1
      · have e0 : ((((decodeL (l.drop i)).1 : Nat) : Int) == (65533 : Int)) = false := by simp; omega
        rw [e0, bif_f]
        exact hfin _ rfl

theorem qsign_len (c : Sg) : (qsign c).length ≤ c.t.length + 4 := by
  unfold qsign
  repeat' split
  all_goals simp_all
theorem quote_loop {κ : Nat} (hκ : 6 ≤ κ) (l : List UInt8) (hl : l.length ≤ 10000) : ∀ (k i : Nat) (acc : List UInt8), l.length - i < k → i ≤ l.length → acc.length + 10 * (l.length - i) ≤ 1000000 →
    lex_Quote.l12 κ k ((ByteArray.mk (List.toArray l)), (ByteArray.mk (List.toArray l)), i, ints acc) = some (ints (acc ++ (signs (l.drop i)).flatMap qsign)) := by
  intro k
  induction k with
  | zero => intro i acc h; omega
  | succ k ih =>
    intro i acc hk hi hacc
    simp only [lex_Quote.l12, lex_Quote.w12, bs_size, bs_decode]
    by_cases hlt : i < l.length
    · have e : Nat.blt i l.length = true := by rw [Nat.blt_eq]; exact hlt
      have hu : l.drop i ≠ [] := by
        intro h; have := congrArg List.length h; rw [List.length_drop] at this; simp at this; omega
      have hul : (l.drop i).length = l.length - i := List.length_drop ..
      have hw := wd_le _ hu
      have hw1 := wd_pos (l.drop i)
      have hd : (decodeL (l.drop i)).2 = wd (l.drop i) := rfl
      have d1 : decide (((l.length : Nat) : Int) ≤ ((l.length : Nat) : Int)) = true := by simp
      have d2 : decide (((i : Nat) : Int) ≤ ((l.length : Nat) : Int)) = true := by simp; omega
      have hrst : rst (l.drop i) = l.drop (i + wd (l.drop i)) := by rw [rst_def, List.drop_drop]
      have hf : ByteArray.mk (List.toArray ((34 : UInt8) :: ((92 : UInt8) :: ((10 : UInt8) :: ((9 : UInt8) :: []))))) = (ByteArray.mk (List.toArray four)) := rfl
      have hq := quote_sign (κ := κ) hκ l i hlt acc (by omega) (i + wd (l.drop i))
      rw [hf, e, bif_t, d1, d2, d0n]
      simp only [Bool.and_self, bif_t, bs_extract, Int.toNat_natCast, decodeGo_eq l i hlt, hd]
      have hqb : ∀ (f : Int → Option (ByteArray × ByteArray × Nat × List Int)) (g : (ByteArray × ByteArray × Nat × List Int) → Option (List Int)) (o : Option Int), (Option.bind o fun x0 => Option.bind (f x0) g) = Option.bind (Option.bind o f) g := fun f g o => by cases o <;> rfl
      rw [hqb, hq]
      simp only [Option.bind_some]
      have hqs := qsign_len ⟨sgn (l.drop i), okS (l.drop i)⟩
      have hsl : (sgn (l.drop i)).length ≤ wd (l.drop i) := by unfold sgn; rw [List.length_take]; omega
      simp only at hqs
      rw [ih (i + wd (l.drop i)) _ (by omega) (by omega) (by rw [List.length_append]; omega), signs_sgn _ hu, hrst, List.flatMap_cons, List.append_assoc]
    · have e : Nat.blt i l.length = false := by
        cases hh : Nat.blt i l.length
        · rfl
        · rw [Nat.blt_eq] at hh; exact absurd hh hlt
      rw [e, bif_f, List.drop_eq_nil_of_le (by omega), signs_nil]
      simp
theorem qsigns_len (cs : List Sg) (n : Nat) (h : ∀ c ∈ cs, c.t.length ≤ n) : (cs.flatMap qsign).length ≤ (n + 4) * cs.length := by
  induction cs with
  | nil => simp
  | cons c cs ih =>
    have h1 := qsign_len c
    have h2 := h c (by simp)
    have h3 := ih (fun c hc => h c (by simp [hc]))
    rw [List.flatMap_cons, List.length_append, List.length_cons, Nat.mul_add]
    omega
theorem sign_len4 (l : List UInt8) : ∀ c ∈ signs l, c.t.length ≤ 4 := by
  induction h : l.length using Nat.strongRecOn generalizing l with
  | _ n ih =>
    intro c hc
    by_cases hl : l = []
    · subst hl; rw [signs_nil] at hc; cases hc
    · rw [signs_sgn l hl] at hc
      rcases List.mem_cons.1 hc with rfl | hc
      · have : wd l ≤ 4 := by
          unfold wd; rw [decodeL_N]
          rcases decodeN_shape l.length (l.getD 0 0).toNat (l.getD 1 0).toNat (l.getD 2 0).toNat (l.getD 3 0).toNat with ⟨c, e⟩ | ⟨c1, c2, c3, cv, e⟩ | ⟨c1, c2, c3, c4, cv, cs, e⟩ | ⟨c1, c2, c3, c4, c5, cv, cw, e⟩ | e <;> rw [e] <;> simp
        show (sgn l).length ≤ 4
        unfold sgn; rw [List.length_take]; omega
      · exact ih (rst l).length (by have := rst_lt l hl; omega) _ rfl c hc
theorem quote_len (l : List UInt8) : (quote l).length ≤ 8 * l.length + 2 := by
  have h1 := qsigns_len (signs l) 4 (sign_len4 l)
  have h2 := signs_len l
  unfold quote
  simp only [List.length_cons, List.length_append, List.length_nil]
  omega
theorem byte2 {κ : Nat} (acc : List UInt8) (h : acc.length ≤ 2000000) : strings_Builder_WriteByte_2 κ 34 (ints acc) = some (ints (acc ++ [34])) := by
  unfold strings_Builder_WriteByte_2
  have : Nat.ble ((ints acc).length + [(34 : Int)].length) (room (0 + 1)) = true := room1 _ (by rw [ints_len]; simp; omega)
  rw [this, bif_t]
  have : [(34 : Int)] = ints [34] := rfl
  rw [this, ints_append]
theorem quote_eq {κ : Nat} (l : List UInt8) (hκ : l.length + 6 < κ) (hl : l.length ≤ 10000) : lex_Quote κ ((ByteArray.mk (List.toArray l))) = some ((ByteArray.mk (List.toArray (quote l)))) := by
  unfold lex_Quote
  have h := quote_loop (κ := κ) (by omega) l hl κ 0 [34] (by omega) (by omega) (by simp; omega)
  rw [List.drop_zero] at h
  have h' : lex_Quote.l12 κ κ (Prod.mk ((ByteArray.mk (List.toArray l))) (Prod.mk ((ByteArray.mk (List.toArray l))) (Prod.mk 0 ((34 : Int) :: [])))) = _ := h
  rw [h']
  have hq := quote_len l
  unfold quote at hq
  simp only [List.length_cons, List.length_append, List.length_nil] at hq
  simp only [Option.bind_some]
  rw [byte2 _ (by simp only [List.length_append, List.length_cons, List.length_nil]; omega)]
  simp only [Option.bind_some]
  rw [string3 _ (by simp only [List.length_append, List.length_cons, List.length_nil]; omega)]
  unfold quote
  simp
end Go.Proofs.YtfoeekaanngoiaaDoor.Lex5


namespace Go.Proofs.YtfoeekaanngoiaaDoor.Lex5
open Go Go.Lib Ev Ev.Seat

end Go.Proofs.YtfoeekaanngoiaaDoor.Lex5


namespace Go.Proofs.YtfoeekaanngoiaaDoor.Lex5
open Go Go.Lib Ev Ev.Seat

structure Sgm where
  b : List UInt8
  k : Int
  t : List UInt8
def tokT (x : Sgm) : List UInt8 := if x.k = 1 then x.t else if x.k = 2 then quote x.t else if x.k = 3 then [123] else if x.k = 4 then [125] else [59]
def segT (x : Sgm) : List UInt8 := [9, 32, 35] ++ x.b ++ [10, 32] ++ tokT x
def SOk (x : Sgm) : Prop := (∀ c ∈ x.b, c ≠ 10) ∧ 1 ≤ x.k ∧ x.k ≤ 5 ∧ (x.k = 1 → plainB x.t = true)
def toks : List Sgm → Int → List Tk
  | [], _ => []
  | x :: xs, n => ⟨x.k, if x.k > 2 then [] else x.t, n + 1, 2⟩ :: toks xs (n + 1)
def Pend : St → List Tk → Prop
  | .idle, l => l = []
  | .word w a, l => l = [⟨1, w, a.1, a.2⟩]
  | _, _ => False

theorem idle_blank (c : UInt8) (hc : c = 32 ∨ c = 9) (p : Ps) (l : List UInt8) : run .idle p (signs (c :: l)) = run .idle (adv p [c]) (signs l) := by
  have h : idleStep ⟨[c], true⟩ p = some (.idle, []) := by
    rcases hc with rfl | rfl <;> rfl
  have h' : step .idle ⟨[c], true⟩ p = some (.idle, []) := h
  rw [signs_ascii c l (by rcases hc with rfl | rfl <;> decide), run_step h']
theorem tab_ends (S : St) (pe : List Tk) (h : Pend S pe) (p : Ps) (l : List UInt8) : run S p (signs (9 :: l)) = pre pe (run .idle (adv p [9]) (signs l)) := by
  have hi : ∀ p, idleStep ⟨[9], true⟩ p = some (.idle, []) := fun p => rfl
  have hl : letter [9] = false := by show letterB 9 = false; unfold letterB; decide
  rw [signs_ascii 9 l (by decide)]
  cases S with
  | idle =>
    cases h
    rw [run_step (show step .idle ⟨[9], true⟩ p = some (.idle, []) from rfl), pre_nil]
  | word w a =>
    cases h
    have hs : step (.word w a) ⟨[9], true⟩ p = some (.idle, [⟨1, w, a.1, a.2⟩]) := by
      simp only [step, hl, Bool.false_eq_true, if_false, hi, Option.map_some]
    rw [run_cons, hs]
  | note => exact h.elim
  | str _ _ => exact h.elim
  | esc _ _ => exact h.elim
  | hx1 _ _ => exact h.elim
  | hx2 _ _ _ => exact h.elim
theorem note_run : ∀ (cs ms : List Sg) (p : Ps), (∀ c ∈ cs, c.t ≠ [10]) → ∃ q : Ps, q.1 = p.1 ∧ run .note p (cs ++ ms) = run .note q ms := by
  intro cs
  induction cs with
  | nil => intro ms p _; exact ⟨p, rfl, rfl⟩
  | cons c cs ih =>
    intro ms p h
    have hc := h c (by simp)
    obtain ⟨q, l1, hq⟩ := ih ms (adv p c.t) (fun d hd => h d (by simp [hd]))
    refine ⟨q, l1.trans (adv1 _ _ hc), ?_⟩
    have hs : step .note c p = some (.note, []) := by simp only [step]; rw [if_neg hc]
    rw [List.cons_append, run_step hs, hq]
theorem signs_no10 (b : List UInt8) (h : ∀ c ∈ b, c ≠ 10) : ∀ c ∈ signs b, c.t ≠ [10] := by
  intro c hc he
  have hm : (10 : UInt8) ∈ b := by
    rw [← signs_flat b]
    exact List.mem_flatMap.2 ⟨c, hc, by rw [he]; simp⟩
  exact h 10 hm rfl

theorem seg_run (x : Sgm) (hx : SOk x) (S : St) (pe : List Tk) (h : Pend S pe) (p : Ps) (r : List UInt8) :
    ∃ (S' : St) (pe' : List Tk) (q : Ps) (us : List Tk), Pend S' pe' ∧ q.1 = p.1 + 1 ∧ us ++ pe' = [⟨x.k, if x.k > 2 then [] else x.t, p.1 + 1, 2⟩] ∧ run S p (signs (segT x ++ r)) = pre (pe ++ us) (run S' q (signs r)) := by
  obtain ⟨h10, k1, k5, hp⟩ := hx
  have e0 : segT x ++ r = 9 :: 32 :: 35 :: (x.b ++ 10 :: 32 :: (tokT x ++ r)) := by unfold segT; simp
  have hnote : ∀ p l, run .idle p (signs (35 :: l)) = run .note (adv p [35]) (signs l) := fun p l => by
    rw [signs_ascii 35 l (by decide), run_step (show step .idle ⟨[35], true⟩ p = some (.note, []) from rfl)]
  obtain ⟨q1, l1, hq1⟩ := note_run (signs x.b) (⟨[10], true⟩ :: signs (32 :: (tokT x ++ r))) (adv (adv (adv p [9]) [32]) [35]) (signs_no10 x.b h10)
  have lq : q1.1 = p.1 := by rw [l1, adv1 _ _ (by decide), adv1 _ _ (by decide), adv1 _ _ (by decide)]
  have hnl : ∀ ms, run .note q1 (⟨[10], true⟩ :: ms) = run .idle (p.1 + 1, 1) ms := fun ms => by
    rw [run_step (show step .note ⟨[10], true⟩ q1 = some (.idle, []) from rfl)]
    have : adv q1 [10] = (p.1 + 1, 1) := by unfold adv; rw [if_pos rfl, lq]
    rw [this]
  have main : run S p (signs (segT x ++ r)) = pre pe (run .idle (p.1 + 1, 2) (signs (tokT x ++ r))) := by
    rw [e0, tab_ends S pe h, idle_blank 32 (.inl rfl), hnote, signs_front x.b 10 _ (by decide), hq1, hnl, idle_blank 32 (.inl rfl)]
    rfl
  rw [main]
  have cs : x.k = 1 ∨ x.k = 2 ∨ x.k = 3 ∨ x.k = 4 ∨ x.k = 5 := by omega
  rcases cs with hk | hk | hk | hk | hk
  · obtain ⟨w1, w2⟩ := (plainB_iff x.t).1 (hp hk)
    obtain ⟨q, lq, hq⟩ := run_words0 x.t r (p.1 + 1, 2) w1 w2
    refine ⟨.word x.t (p.1 + 1, 2), _, q, [], rfl, lq, ?_, ?_⟩
    · rw [hk]; simp
    · have : tokT x = x.t := by unfold tokT; rw [if_pos hk]
      rw [this, hq, List.append_nil]
  · obtain ⟨q, lq, hq⟩ := run_quote x.t r (p.1 + 1, 2)
    refine ⟨.idle, _, q, [⟨2, x.t, p.1 + 1, 2⟩], rfl, lq, ?_, ?_⟩
    · rw [hk]; simp
    · have : tokT x = quote x.t := by unfold tokT; rw [if_neg (by omega), if_pos hk]
      rw [this, hq, pre_pre]
  · refine ⟨.idle, _, adv (p.1 + 1, 2) [123], [⟨3, [], p.1 + 1, 2⟩], rfl, adv1 _ _ (by decide), ?_, ?_⟩
    · rw [hk]; simp
    · have : tokT x = [123] := by unfold tokT; rw [if_neg (by omega), if_neg (by omega), if_pos hk]
      rw [this, List.cons_append, List.nil_append, signs_ascii 123 r (by decide), run_cons, show step .idle ⟨[123], true⟩ (p.1 + 1, 2) = some (.idle, [⟨3, [], p.1 + 1, 2⟩]) from rfl]
      simp only [pre_pre]
  · refine ⟨.idle, _, adv (p.1 + 1, 2) [125], [⟨4, [], p.1 + 1, 2⟩], rfl, adv1 _ _ (by decide), ?_, ?_⟩
    · rw [hk]; simp
    · have : tokT x = [125] := by unfold tokT; rw [if_neg (by omega), if_neg (by omega), if_neg (by omega), if_pos hk]
      rw [this, List.cons_append, List.nil_append, signs_ascii 125 r (by decide), run_cons, show step .idle ⟨[125], true⟩ (p.1 + 1, 2) = some (.idle, [⟨4, [], p.1 + 1, 2⟩]) from rfl]
      simp only [pre_pre]
  · refine ⟨.idle, _, adv (p.1 + 1, 2) [59], [⟨5, [], p.1 + 1, 2⟩], rfl, adv1 _ _ (by decide), ?_, ?_⟩
    · rw [hk]; simp
    · have : tokT x = [59] := by unfold tokT; rw [if_neg (by omega), if_neg (by omega), if_neg (by omega), if_neg (by omega)]
      rw [this, List.cons_append, List.nil_append, signs_ascii 59 r (by decide), run_cons, show step .idle ⟨[59], true⟩ (p.1 + 1, 2) = some (.idle, [⟨5, [], p.1 + 1, 2⟩]) from rfl]
      simp only [pre_pre]

theorem segs_run : ∀ (xs : List Sgm), (∀ x ∈ xs, SOk x) → ∀ (S : St) (pe : List Tk) (p : Ps), Pend S pe → ∃ q, run S p (signs (xs.flatMap segT)) = .inr (pe ++ toks xs p.1, q) := by
  intro xs
  induction xs with
  | nil =>
    intro _ S pe p h
    refine ⟨p, ?_⟩
    rw [List.flatMap_nil, signs_nil]
    cases S with
    | idle => cases h; rfl
    | word w a => cases h; rfl
    | note => exact h.elim
    | str _ _ => exact h.elim
    | esc _ _ => exact h.elim
    | hx1 _ _ => exact h.elim
    | hx2 _ _ _ => exact h.elim
  | cons x xs ih =>
    intro hx S pe p h
    obtain ⟨S', pe', q, us, h1, h2, h3, h4⟩ := seg_run x (hx x (by simp)) S pe h p (xs.flatMap segT)
    obtain ⟨q', h5⟩ := ih (fun y hy => hx y (by simp [hy])) S' pe' q h1
    refine ⟨q', ?_⟩
    rw [List.flatMap_cons, h4, h5, h2]
    show Sum.inr ((pe ++ us) ++ (pe' ++ toks xs (p.1 + 1)), q') = _
    have : (pe ++ us) ++ (pe' ++ toks xs (p.1 + 1)) = pe ++ toks (x :: xs) p.1 := by
      rw [List.append_assoc, ← List.append_assoc us, h3]; rfl
    rw [this]
theorem lex_segs (xs : List Sgm) (h : ∀ x ∈ xs, SOk x) : ∃ q, lexAll (xs.flatMap segT) = .inr (toks xs 1, q) := by
  obtain ⟨q, hq⟩ := segs_run xs h .idle [] (1, 1) rfl
  exact ⟨q, hq⟩
theorem toks_len : ∀ (xs : List Sgm) (n : Int), (toks xs n).length = xs.length
  | [], _ => rfl
  | x :: xs, n => by simp [toks, toks_len xs]
theorem toks_get : ∀ (xs : List Sgm) (n : Int) (i : Nat) (x : Sgm), xs[i]? = some x → (toks xs n)[i]? = some ⟨x.k, if x.k > 2 then [] else x.t, n + i + 1, 2⟩
  | [], _, _, _, h => by simp at h
  | y :: xs, n, 0, x, h => by cases h; simp [toks]
  | y :: xs, n, i + 1, x, h => by
    have := toks_get xs (n + 1) i x h
    show (toks xs (n + 1))[i]? = _
    rw [this]
    congr 2
    omega

def sgm (t : LexToken) (b : ByteArray) : Sgm := ⟨b.data.toList, t.kind, t.text.data.toList⟩
def segs (L : List LexToken) (B : List ByteArray) : List Sgm := List.zipWith sgm L B
theorem segs_get {L : List LexToken} {B : List ByteArray} {i : Nat} {t : LexToken} {b : ByteArray} (h1 : L[i]? = some t) (h2 : B[i]? = some b) : (segs L B)[i]? = some (sgm t b) := by
  unfold segs; rw [List.getElem?_zipWith, h1, h2]
theorem segs_len {L : List LexToken} {B : List ByteArray} (h : L.length ≤ B.length) : (segs L B).length = L.length := by
  unfold segs; rw [List.length_zipWith]; omega

theorem nl_loop {κ : Nat} (L : List LexToken) (B : List ByteArray) (s : ByteArray) (i : Nat) (l : List UInt8) (hB : B[i]? = some ((ByteArray.mk (List.toArray l)))) (hl : l.length ≤ 140737488355328) : ∀ (n k j : Nat), j + n = l.length → n < k →
    (tollbarlaw05_LexBetween.l17 κ k (L, B, s, (i : Int), (j : Int)) = some (.inr true)) ∨
    (tollbarlaw05_LexBetween.l17 κ k (L, B, s, (i : Int), (j : Int)) = some (.inl (L, B, s, (i : Int))) ∧ ∀ c ∈ l.drop j, c ≠ 10) := by
  intro n
  induction n with
  | zero =>
    intro k j hj hk
    obtain ⟨k, rfl⟩ : ∃ m, k = m + 1 := ⟨k - 1, by omega⟩
    have d : decide ((j : Int) < ((l.length : Nat) : Int)) = false := by simp; omega
    refine .inr ⟨?_, by rw [List.drop_eq_nil_of_le (by omega)]; simp⟩
    simp only [tollbarlaw05_LexBetween.l17, tollbarlaw05_LexBetween.w17, d0n, bif_t, Int.toNat_natCast, hB, Option.bind_some, bs_size, d, bif_f]
  | succ n ih =>
    intro k j hj hk
    obtain ⟨k, rfl⟩ : ∃ m, k = m + 1 := ⟨k - 1, by omega⟩
    have d : decide ((j : Int) < ((l.length : Nat) : Int)) = true := by simp; omega
    have hlt : j < l.length := by omega
    have hg : l[j]? = some l[j] := List.getElem?_eq_getElem hlt
    have hd := List.drop_eq_getElem_cons hlt
    have wj : IntKind.wrap IntKind.i64 ((j : Int) + 1) = ((j + 1 : Nat) : Int) := by rw [wrap_in _ (by omega) (by omega)]; omega
    simp only [tollbarlaw05_LexBetween.l17, tollbarlaw05_LexBetween.w17, d0n, bif_t, Int.toNat_natCast, hB, Option.bind_some, bs_size, d, bs_data, hg, wj]
    by_cases h10 : l[j] = 10
    · have : (((l[j].toNat : Nat) : Int) == 10) = true := by rw [h10]; rfl
      rw [this]
      exact .inl rfl
    · have hne : l[j].toNat ≠ 10 := fun h => h10 (UInt8.toNat_inj.1 h)
      have : (((l[j].toNat : Nat) : Int) == 10) = false := by simp; omega
      rw [this]
      simp only [bif_f]
      rcases ih k (j + 1) (by omega) (by omega) with h | ⟨h, h'⟩
      · exact .inl h
      · refine .inr ⟨h, ?_⟩
        rw [hd]
        intro c hc
        rcases List.mem_cons.1 hc with rfl | hc
        · exact h10
        · exact h' c hc

/-- A token's own text, or that there is none such. -/
theorem tok_text {κ : Nat} (hκ : 100 ≤ κ) (L : List LexToken) (B : List ByteArray) (s : List UInt8) (i : Nat) (t : LexToken) (b : ByteArray) (h1 : L[i]? = some t) (ht : t.text.data.toList.length ≤ 60) (hs : s.length ≤ 1000000) :
    (tollbarlaw05_LexBetween.v21 κ L B ((ByteArray.mk (List.toArray s))) (i : Int) t.kind = some (.inl true)) ∨
    (tollbarlaw05_LexBetween.v21 κ L B ((ByteArray.mk (List.toArray s))) (i : Int) t.kind = some (.inr (L, B, (ByteArray.mk (List.toArray (s ++ tokT (sgm t b)))), (i : Int))) ∧ 1 ≤ t.kind ∧ t.kind ≤ 5 ∧ (t.kind = 1 → plainB t.text.data.toList = true)) := by
  have hts : t.text = (ByteArray.mk (List.toArray t.text.data.toList)) := bs_of _
  have mm : ∀ k : Nat, k ≤ 1000 → Nat.ble (s.length + k) maxI = true := fun k hk => maxI_ok _ (by omega)
  have hql := quote_len t.text.data.toList
  unfold tollbarlaw05_LexBetween.v21 tollbarlaw05_LexBetween.v22
  by_cases k1 : t.kind = 1
  · have : (t.kind == 1) = true := by simp [k1]
    rw [this]
    simp only [bif_t, d0n, Int.toNat_natCast, h1, Option.bind_some]
    rw [hts, plain_word (κ := κ) _ (by omega)]
    simp only [Option.bind_some]
    cases hp : plainB t.text.data.toList
    · exact .inl rfl
    · refine .inr ⟨?_, by omega, by omega, fun _ => rfl⟩
      have : tokT (sgm t b) = t.text.data.toList := by unfold tokT sgm; rw [if_pos k1]
      simp only [Bool.not_true, bif_f, bs_size, mm _ (show t.text.data.toList.length ≤ 1000 by omega), bif_t, bs_append, this, Option.bind_some]
  have e1 : (t.kind == 1) = false := by simp [k1]
  rw [e1]
  simp only [bif_f, tollbarlaw05_LexBetween.v23]
  by_cases k2 : t.kind = 2
  · have : (t.kind == 2) = true := by simp [k2]
    rw [this]
    simp only [bif_t, d0n, Int.toNat_natCast, h1, Option.bind_some]
    rw [hts, quote_eq (κ := κ) _ (by omega) (by omega)]
    refine .inr ⟨?_, by omega, by omega, fun h => absurd h k1⟩
    have : tokT (sgm t b) = quote t.text.data.toList := by unfold tokT sgm; rw [if_neg k1, if_pos k2]
    simp only [Option.bind_some, bs_size, mm _ (show (quote t.text.data.toList).length ≤ 1000 by omega), bif_t, bs_append, this]
  have e2 : (t.kind == 2) = false := by simp [k2]
  rw [e2]
  simp only [bif_f, tollbarlaw05_LexBetween.v24]
  by_cases k3 : t.kind = 3
  · have : (t.kind == 3) = true := by simp [k3]
    rw [this]
    refine .inr ⟨?_, by omega, by omega, fun h => absurd h k1⟩
    have : tokT (sgm t b) = [123] := by unfold tokT sgm; rw [if_neg k1, if_neg k2, if_pos k3]
    simp only [bif_t, bs_size, List.length_cons, List.length_nil, Nat.zero_add, mm 1 (by omega), bs_append, this, Option.bind_some]
  have e3 : (t.kind == 3) = false := by simp [k3]
  rw [e3]
  simp only [bif_f, tollbarlaw05_LexBetween.v25]
  by_cases k4 : t.kind = 4
  · have : (t.kind == 4) = true := by simp [k4]
    rw [this]
    refine .inr ⟨?_, by omega, by omega, fun h => absurd h k1⟩
    have : tokT (sgm t b) = [125] := by unfold tokT sgm; rw [if_neg k1, if_neg k2, if_neg k3, if_pos k4]
    simp only [bif_t, bs_size, List.length_cons, List.length_nil, Nat.zero_add, mm 1 (by omega), bs_append, this, Option.bind_some]
  have e4 : (t.kind == 4) = false := by simp [k4]
  rw [e4]
  by_cases k5 : t.kind = 5
  · have : (t.kind == 5) = true := by simp [k5]
    rw [this]
    refine .inr ⟨?_, by omega, by omega, fun h => absurd h k1⟩
    have : tokT (sgm t b) = [59] := by unfold tokT sgm; rw [if_neg k1, if_neg k2, if_neg k3, if_neg k4]
    simp only [bif_f, bif_t, bs_size, List.length_cons, List.length_nil, Nat.zero_add, mm 1 (by omega), bs_append, this, Option.bind_some]
  have e5 : (t.kind == 5) = false := by simp [k5]
  rw [e5]
  exact .inl rfl

theorem btw_loop {κ : Nat} (hκ : 100 ≤ κ) (L : List LexToken) (B : List ByteArray) (hL : L.length ≤ 40) (hB : L.length ≤ B.length) (hbig : ∀ b ∈ B, b.data.toList.length < κ ∧ b.data.toList.length ≤ 140737488355328) : ∀ (n k i : Nat) (s : List UInt8), i + n = L.length → n < k → s = ((segs L B).take i).flatMap segT → s.length ≤ 700 * i →
    (tollbarlaw05_LexBetween.l16 κ k (L, B, (ByteArray.mk (List.toArray s)), (i : Int)) = some (.inr true)) ∨
    (tollbarlaw05_LexBetween.l16 κ k (L, B, (ByteArray.mk (List.toArray s)), (i : Int)) = some (.inl (L, (ByteArray.mk (List.toArray ((segs L B).flatMap segT))))) ∧ ((∀ x ∈ (segs L B).drop i, SOk x))) := by
  have hsl := segs_len hB
  intro n
  induction n with
  | zero =>
    intro k i s hi hk hs hlen
    obtain ⟨k, rfl⟩ : ∃ m, k = m + 1 := ⟨k - 1, by omega⟩
    have d : decide ((i : Int) < ((L.length : Nat) : Int)) = false := by simp; omega
    refine .inr ⟨?_, by rw [List.drop_eq_nil_of_le (by omega)]; simp⟩
    rw [List.take_of_length_le (by omega)] at hs
    simp only [tollbarlaw05_LexBetween.l16, tollbarlaw05_LexBetween.w16, d, bif_f, hs]
  | succ n ih =>
    intro k i s hi hk hs hlen
    obtain ⟨k, rfl⟩ : ∃ m, k = m + 1 := ⟨k - 1, by omega⟩
    have d : decide ((i : Int) < ((L.length : Nat) : Int)) = true := by simp; omega
    have hlt : i < L.length := by omega
    have h1 : L[i]? = some L[i] := List.getElem?_eq_getElem hlt
    have hltB : i < B.length := by omega
    have h2 : B[i]? = some B[i] := List.getElem?_eq_getElem hltB
    have h2m := List.getElem_mem hltB
    generalize L[i] = t at h1
    generalize hbb : B[i] = b at h2 h2m
    have h2' : B[i]? = some ((ByteArray.mk (List.toArray b.data.toList))) := by rw [← bs_of]; exact h2
    have hbs : b.size = b.data.toList.length := by rw [bs_of b, bs_size, bs_data]
    have hts : t.text.size = t.text.data.toList.length := by rw [bs_of t.text, bs_size, bs_data]
    obtain ⟨hb1, hb6⟩ := hbig b h2m
    simp only [tollbarlaw05_LexBetween.l16, tollbarlaw05_LexBetween.w16, d, bif_t]
    rcases nl_loop (κ := κ) L B ((ByteArray.mk (List.toArray s))) i b.data.toList h2' hb6 b.data.toList.length κ 0 (by omega) (by omega) with hn | ⟨hn, hn10⟩
    · have hn' : tollbarlaw05_LexBetween.l17 κ κ (Prod.mk L (Prod.mk B (Prod.mk ((ByteArray.mk (List.toArray s))) (Prod.mk (i : Int) (0 : Int))))) = _ := hn
      rw [hn']
      exact .inl rfl
    · have hn' : tollbarlaw05_LexBetween.l17 κ κ (Prod.mk L (Prod.mk B (Prod.mk ((ByteArray.mk (List.toArray s))) (Prod.mk (i : Int) (0 : Int))))) = _ := hn
      rw [hn']
      rw [List.drop_zero] at hn10
      simp only [Option.bind_some, tollbarlaw05_LexBetween.v19, d0n, bif_t, Int.toNat_natCast, h1, hts]
      by_cases ht60 : t.text.data.toList.length > 60
      · have d : decide (((t.text.data.toList.length : Nat) : Int) > 60) = true := by simp; omega
        rw [d]
        exact .inl rfl
      · have d : decide (((t.text.data.toList.length : Nat) : Int) > 60) = false := by simp; omega
        rw [d]
        simp only [bif_f, h2, Option.bind_some, hbs]
        by_cases hb60 : b.data.toList.length > 60
        · have d : decide (((b.data.toList.length : Nat) : Int) > 60) = true := by simp; omega
          rw [d]
          exact .inl rfl
        · have d : decide (((b.data.toList.length : Nat) : Int) > 60) = false := by simp; omega
          rw [d]
          have hbS : ByteArray.mk (List.toArray [(9 : UInt8), 32, 35]) ++ b = (ByteArray.mk (List.toArray ([9, 32, 35] ++ b.data.toList))) := by
            conv => lhs; rw [bs_of b]
            exact bs_append _ _
          have mm : ∀ k : Nat, k ≤ 100000 → Nat.ble k maxI = true := fun k hk => maxI_ok _ (by omega)
          simp only [bif_f, d0n, Int.toNat_natCast, h1, h2, hbs, Option.bind_some, bs_size, List.length_cons, List.length_nil, Nat.zero_add, Nat.reduceAdd, mm _ (show 3 + b.data.toList.length ≤ 100000 by omega), bif_t, hbS, List.length_append, bs_append, mm _ (show 3 + b.data.toList.length + 2 ≤ 100000 by omega), mm _ (show s.length + (3 + b.data.toList.length + 2) ≤ 100000 by omega)]
          rcases tok_text (κ := κ) hκ L B (s ++ ([9, 32, 35] ++ b.data.toList ++ [10, 32])) i t b h1 (by omega) (by simp; omega) with hv | ⟨hv, v1, v2, v3⟩
          · rw [hv]
            exact .inl rfl
          · rw [hv]
            simp only [Option.bind_some, wrap_succ1 (show i + 1 ≤ 2000000 by omega)]
            have hget := segs_get h1 h2
            have hlt' : i < (segs L B).length := by omega
            have hgg : (segs L B)[i] = sgm t b := by
              have := List.getElem?_eq_getElem hlt'
              rw [hget] at this
              exact (Option.some.inj this).symm
            have hst : s ++ ([9, 32, 35] ++ b.data.toList ++ [10, 32]) ++ tokT (sgm t b) = ((segs L B).take (i + 1)).flatMap segT := by
              rw [List.take_succ_eq_append_getElem hlt', List.flatMap_append, ← hs, hgg]
              unfold segT sgm
              simp
            have htl : (tokT (sgm t b)).length ≤ 490 := by
              have hql := quote_len t.text.data.toList
              unfold tokT sgm
              repeat' split
              all_goals simp only [List.length_cons, List.length_nil]
              all_goals omega
            rcases ih k (i + 1) _ (by omega) (by omega) hst (by simp only [List.length_append, List.length_cons, List.length_nil]; omega) with h | ⟨h, h'⟩
            · exact .inl h
            · refine .inr ⟨h, ?_⟩
              rw [List.drop_eq_getElem_cons hlt', hgg]
              intro x hx
              rcases List.mem_cons.1 hx with rfl | hx
              · exact ⟨hn10, v1, v2, v3⟩
              · exact h' x hx

theorem between_loop {κ : Nat} (L : List LexToken) (xs : List Sgm) (q : Ps) (hL : L.length ≤ 40) (hx : ∀ (i : Nat) t, L[i]? = some t → ∃ x : Sgm, xs[i]? = some x ∧ x.k = t.kind ∧ x.t = t.text.data.toList) (hxl : xs.length = L.length) :
    ∀ (n k i : Nat), i + n = L.length → n < k → tollbarlaw05_LexBetween.l38 κ k (L, (i : Int), (full (toks xs 1, q)).map tkL) = some (.inl (L, (full (toks xs 1, q)).map tkL)) := by
  have len : ((full (toks xs 1, q)).map tkL).length = L.length + 1 := by simp [full, toks_len, hxl]
  intro n
  induction n with
  | zero =>
    intro k i hi hk
    obtain ⟨k, rfl⟩ : ∃ m, k = m + 1 := ⟨k - 1, by omega⟩
    have d : decide ((i : Int) < ((L.length : Nat) : Int)) = false := by simp; omega
    simp only [tollbarlaw05_LexBetween.l38, tollbarlaw05_LexBetween.w38, d, bif_f]
  | succ n ih =>
    intro k i hi hk
    obtain ⟨k, rfl⟩ : ∃ m, k = m + 1 := ⟨k - 1, by omega⟩
    have d : decide ((i : Int) < ((L.length : Nat) : Int)) = true := by simp; omega
    have hlt : i < L.length := by omega
    have h1 : L[i]? = some L[i] := List.getElem?_eq_getElem hlt
    obtain ⟨x, hx1, hx2, hx3⟩ := hx i _ h1
    generalize L[i] = t at h1 hx2 hx3
    have hm : ((full (toks xs 1, q)).map tkL)[i]? = some (tkL ⟨x.k, if x.k > 2 then [] else x.t, 1 + i + 1, 2⟩) := by
      unfold full
      rw [List.getElem?_map, List.getElem?_append_left (by rw [toks_len]; omega), toks_get xs 1 i x hx1]; rfl
    have w2 : IntKind.wrap IntKind.i64 ((i : Int) + 2) = 1 + (i : Int) + 1 := by rw [wrap_in _ (by omega) (by omega)]; omega
    have hk' : (x.k != t.kind) = false := by simp [hx2]
    have hi := ih k (i + 1) (by omega) (by omega)
    have ht : t.text = (ByteArray.mk (List.toArray t.text.data.toList)) := bs_of _
    by_cases k2 : t.kind > 2
    · have d2 : decide (t.kind > 2) = true := by simp; omega
      rw [if_pos (by omega)] at hm
      have e : Ev.seq ((ByteArray.mk (List.toArray []))) ((ByteArray.mk (List.toArray []))) = true := rfl
      simp only [tollbarlaw05_LexBetween.l38, tollbarlaw05_LexBetween.w38, d, bif_t, d0n, Int.toNat_natCast, h1, Option.bind_some, tollbarlaw05_LexBetween.v39, d2, tollbarlaw05_LexBetween.v41, len, blt_of (show i < L.length + 1 by omega), Bool.and_self, hm, tkL, hk', bif_f, e, Bool.not_true, w2, bne_self_eq_false, wrap_succ1 (show i + 1 ≤ 2000000 by omega)]
      exact hi
    · have d2 : decide (t.kind > 2) = false := by simp; omega
      rw [if_neg (by omega)] at hm
      have e : Ev.seq ((ByteArray.mk (List.toArray x.t))) t.text = true := by rw [hx3, ← ht]; exact seq_self _
      simp only [tollbarlaw05_LexBetween.l38, tollbarlaw05_LexBetween.w38, d, bif_t, d0n, Int.toNat_natCast, h1, Option.bind_some, tollbarlaw05_LexBetween.v39, d2, tollbarlaw05_LexBetween.v41, len, blt_of (show i < L.length + 1 by omega), Bool.and_self, hm, tkL, hk', bif_f, e, Bool.not_true, w2, bne_self_eq_false, wrap_succ1 (show i + 1 ≤ 2000000 by omega)]
      exact hi

theorem awake_more (k : Nat) : tollbarlaw05_awake (k + 20000) = some true := by kernel_rfl
theorem LexBetween_eq (k : Nat) (L : List LexToken) (B : List ByteArray) (hbig : ∀ b ∈ B, b.data.toList.length < k + 20000 ∧ b.data.toList.length ≤ 140737488355328) : tollbarlaw05_LexBetween (k + 20000) L B = some true := by
  unfold tollbarlaw05_LexBetween
  rw [awake_more]
  simp only [Option.bind_some, Bool.not_true, bif_f, tollbarlaw05_LexBetween.v0]
  by_cases h1 : L.length > 40
  · have d : decide (((L.length : Nat) : Int) > 40) = true := by simp; omega
    rw [d]; rfl
  have d1 : decide (((L.length : Nat) : Int) > 40) = false := by simp; omega
  rw [d1]
  simp only [bif_f, Option.bind_some]
  by_cases h2 : B.length < L.length
  · have d : decide (((B.length : Nat) : Int) < ((L.length : Nat) : Int)) = true := by simp; omega
    rw [d]; rfl
  have d2 : decide (((B.length : Nat) : Int) < ((L.length : Nat) : Int)) = false := by simp; omega
  rw [d2]
  simp only [bif_f]
  have hsl := segs_len (L := L) (B := B) (by omega)
  rcases btw_loop (κ := k + 20000) (by omega) L B (by omega) (by omega) hbig L.length (k + 20000) 0 [] (by omega) (by omega) (by simp) (by simp) with h | ⟨h, hok⟩
  · have h' : tollbarlaw05_LexBetween.l16 (k + 20000) (k + 20000) (Prod.mk L (Prod.mk B (Prod.mk ((ByteArray.mk (List.toArray []))) (0 : Int)))) = _ := h
    rw [h']; rfl
  · have h' : tollbarlaw05_LexBetween.l16 (k + 20000) (k + 20000) (Prod.mk L (Prod.mk B (Prod.mk ((ByteArray.mk (List.toArray []))) (0 : Int)))) = _ := h
    rw [List.drop_zero] at hok
    simp only [h', Option.bind_some, bs_size]
    by_cases h8 : ((segs L B).flatMap segT).length > 8000
    · have d : decide (((((segs L B).flatMap segT).length : Nat) : Int) > 8000) = true := by simp only [decide_eq_true_eq]; omega
      rw [d]; rfl
    have d8 : decide (((((segs L B).flatMap segT).length : Nat) : Int) > 8000) = false := by simp only [decide_eq_false_iff_not]; omega
    rw [d8, bif_f]
    obtain ⟨q, hq⟩ := lex_segs (segs L B) hok
    have hall := all_eq (κ := k + 20000) ((segs L B).flatMap segT) (by omega) (by omega)
    rw [hq] at hall
    have len : ((full (toks (segs L B) 1, q)).map tkL).length = L.length + 1 := by simp [full, toks_len, hsl]
    have w1 := wrap_succ1 (show L.length + 1 ≤ 2000000 by omega)
    have hlp := between_loop (κ := k + 20000) L (segs L B) q (by omega) (fun i t ht => by
      have hi : i < L.length := (List.getElem?_eq_some_iff.1 ht).1
      exact ⟨sgm t (B[i]'(by omega)), segs_get ht (List.getElem?_eq_getElem (by omega)), rfl, rfl⟩) hsl L.length (k + 20000) 0 (by omega) (by omega)
    have hlp' : tollbarlaw05_LexBetween.l38 (k + 20000) (k + 20000) (Prod.mk L (Prod.mk (0 : Int) ((full (toks (segs L B) 1, q)).map tkL))) = _ := hlp
    have hlast : ((full (toks (segs L B) 1, q)).map tkL)[L.length]? = some (tkL ⟨0, [], q.1, q.2⟩) := by
      rw [List.getElem?_map]
      unfold full
      rw [List.getElem?_append_right (by rw [toks_len]; omega), toks_len, hsl]
      simp
    rw [hall]
    simp only [Option.bind_some, tollbarlaw05_LexBetween.v32, bne_self_eq_false, bif_f, len, w1, hlp', Int.toNat_natCast, blt_of (show L.length < L.length + 1 by omega), bif_t, hlast, tkL]
    rfl
end Go.Proofs.YtfoeekaanngoiaaDoor.Lex5
namespace Go.Proofs.YtfoeekaanngoiaaDoor.Lex5
open Go Go.Lib Ev Ev.Seat
def bigB (B : List ByteArray) : Nat := (B.map fun b => b.data.toList.length + 1).sum
theorem bigB_le : ∀ (B : List ByteArray) (b : ByteArray), b ∈ B → b.data.toList.length < bigB B
  | [], _, h => by cases h
  | a :: B, b, h => by
    have e : bigB (a :: B) = (a.data.toList.length + 1) + bigB B := by simp [bigB]
    rcases List.mem_cons.1 h with rfl | h
    · omega
    · have := bigB_le B b h; omega
theorem LexBetween_row {n1 : Nat} {wf1 : LexToken → Prop} {n2 : Nat} (L : List LexToken) (hL : WfL n1 wf1 L) (B : List ByteArray) (hB : WfL n2 (fun b : ByteArray => b.size ≤ 140737488351232) B) : tollbarlaw05_LexBetween (bigB B + 20000) L B = some true := by
  refine LexBetween_eq (bigB B) L B fun b hb => ?_
  have h1 := bigB_le B b hb
  have h2 := hB.2.2 b hb
  rw [bs_of b, bs_size] at h2
  omega
end Go.Proofs.YtfoeekaanngoiaaDoor.Lex5

