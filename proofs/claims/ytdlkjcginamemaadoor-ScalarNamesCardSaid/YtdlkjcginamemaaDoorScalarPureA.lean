/- Numbers as texts: the program's answer is the reference's, for every text and number. -/
import Derived.Test.YtdlkjcginamemaaDoorQScalarx
import Derived.Test.YtdlkjcginamemaaDoorNumPure
namespace Go.Proofs.YtdlkjcginamemaaDoor.Pure
open Go.RowKit Go.Lib Go.Proofs.YtdlkjcginamemaaDoor.QScalar Go.Proofs.YtdlkjcginamemaaDoor.Scalar Go.Proofs.YtdlkjcginamemaaDoor.Num Go.Proofs.YtdlkjcginamemaaDoorW.PrintWords Go.Proofs.YtdlkjcginamemaaDoorW.PrintLast
set_option linter.unusedVariables false
set_option linter.unusedSimpArgs false

namespace Sc
theorem wrapu {x : Int} (h0 : 0 ≤ x) (h1 : x ≤ 18446744073709551615) : IntKind.u64.wrap x = x := by rw [IntKind.wrap_u64]; omega
theorem sized (l : List UInt8) : (⟨l.toArray⟩ : ByteArray).size = l.length := by show l.toArray.size = _; simp
theorem data_of (l : List UInt8) : (⟨l.toArray⟩ : ByteArray).data.toList = l := by simp
theorem as_list (s : ByteArray) : ∃ l : List UInt8, s = ⟨l.toArray⟩ := ⟨s.data.toList, (mk_data s).symm⟩
theorem bt_list (l : List UInt8) (i : Nat) (h : i < l.length) : bt ⟨l.toArray⟩ (i : Int) = (l[i].toNat : Int) := by
  unfold bt
  rw [dif_pos (by rw [sized]; simpa using h)]
  simp only [Int.toNat_natCast]
  show ((l.toArray[i]).toNat : Int) = _
  simp
theorem toList_mk (l : List UInt8) : (⟨l.toArray⟩ : ByteArray).toList = l := by rw [toList_data, data_of]
theorem mk_append (a b : List UInt8) : (⟨a.toArray⟩ : ByteArray) ++ (⟨b.toArray⟩ : ByteArray) = ⟨(a ++ b).toArray⟩ := by
  rw [ByteArray.mk_append_mk]
theorem mk_inj {a b : List UInt8} (h : (⟨a.toArray⟩ : ByteArray) = ⟨b.toArray⟩) : a = b := by
  have := congrArg (fun s : ByteArray => s.data.toList) h
  simpa using this
/-! ### the reference's ShowUint -/
theorem strOf_one (n : Nat) : strOfNums [(n : Int)] = ⟨[UInt8.ofNat n].toArray⟩ := by simp [strOfNums]
theorem show_l0 (x : Nat) : ∀ (l : List UInt8), x < 18446744073709551616 → l.length + nDigits x ≤ 1000 → Ev (fun k => tollbarref06_ShowUint.l0 k x ⟨l.toArray⟩) (⟨((if x < 10 then [] else decDigits (x / 10)) ++ l).toArray⟩ : ByteArray) := by
  induction x using Nat.strongRecOn with
  | _ x ih =>
    intro l hx hl
    by_cases h : x < 10
    · refine Ev.step (f := fun _ => some ⟨l.toArray⟩) (fun k => ?_) ?_
      · simp only [tollbarref06_ShowUint.l0]; rw [if_neg (by omega)]
      · rw [if_pos h]; exact Ev.now _
    · have hd : IntKind.u64.wrap (Int.tdiv (x : Int) 10) = ((x / 10 : Nat) : Int) := by
        rw [Int.tdiv_eq_ediv_of_nonneg (by omega), wrapu (by omega) (by omega)]; omega
      have hm : IntKind.u64.wrap (48 + Int.tmod ((x / 10 : Nat) : Int) 10) % 256 = ((48 + x / 10 % 10 : Nat) : Int) := by
        rw [Int.tmod_eq_emod_of_nonneg (by omega), wrapu (by omega) (by omega)]; omega
      have hb := nDigits_big h
      refine Ev.step (f := fun k => tollbarref06_ShowUint.l0 k ((x / 10 : Nat) : Int) ⟨(UInt8.ofNat (48 + x / 10 % 10) :: l).toArray⟩) (fun k => ?_) ?_
      · simp only [tollbarref06_ShowUint.l0]
        rw [if_pos (by omega), hd, hm]
        simp only [Option.bind_some]
        rw [strOf_one, if_pos (by rw [sized, sized, List.length_singleton]; omega), mk_append, List.singleton_append]
      · have := ih (x / 10) (by omega) (UInt8.ofNat (48 + x / 10 % 10) :: l) (by omega) (by simp; omega)
        rw [if_neg h]
        by_cases h2 : x / 10 < 10
        · rw [if_pos h2] at this
          rw [dec_small h2]
          have e : x / 10 % 10 = x / 10 := by omega
          simp only [e] at this ⊢
          exact this
        · rw [if_neg h2] at this
          rw [dec_big h2, List.append_assoc]
          exact this
theorem ref_show (u : Nat) (h : u < 18446744073709551616) : Ev (fun k => tollbarref06_ShowUint.f k u) (⟨(decDigits u).toArray⟩ : ByteArray) := by
  have h0 := show_l0 u [UInt8.ofNat (48 + u % 10)] h (by have := len_le h; simp; omega)
  have hm : IntKind.u64.wrap (48 + Int.tmod (u : Int) 10) % 256 = ((48 + u % 10 : Nat) : Int) := by
    rw [Int.tmod_eq_emod_of_nonneg (by omega), wrapu (by omega) (by omega)]; omega
  have he : (fun k => tollbarref06_ShowUint.f k u) = fun k => tollbarref06_ShowUint.l0 k u ⟨[UInt8.ofNat (48 + u % 10)].toArray⟩ := by
    funext k; unfold tollbarref06_ShowUint.f; rw [hm, strOf_one]
  rw [he]
  by_cases hu : u < 10
  · rw [if_pos hu] at h0
    rw [dec_small hu]
    have e : u % 10 = u := by omega
    simp only [e] at h0 ⊢
    exact h0
  · rw [if_neg hu] at h0
    rw [dec_big hu]
    exact h0
/-! ### the reference's Uint -/
def uintR (s : ByteArray) : Int × Bool := match uintV s with | some u => ((u : Int), true) | none => (0, false)
theorem uint_tail (s : ByteArray) (x : Nat) (hx : x < 18446744073709551616) (hu : ∀ u, uintV s = some u → x = u) :
    Ev (fun k => (tollbarref06_ShowUint.f k (x : Int)).bind fun t => if t.toList = s.toList then some ((x : Int), true) else some (0, false)) (uintR s) := by
  refine Ev.bind (ref_show x hx) ?_
  unfold uintR
  cases hv : uintV s with
  | some u =>
    have e := hu u hv
    subst e
    rw [if_pos (by rw [← uintV_eq hv])]
    exact Ev.now _
  | none =>
    rw [if_neg (fun e => uintV_none hv x hx (toList_inj e).symm)]
    exact Ev.now _
theorem stepW (x c : Nat) (hx : x < 18446744073709551616) (hc : c < 256) : IntKind.u64.wrap (IntKind.u64.wrap (IntKind.u64.wrap (10 * (x : Int)) + IntKind.u64.wrap (c : Int)) - 48) = ((stepU x c : Nat) : Int) := by
  rw [stepU_eq, IntKind.wrap_u64, IntKind.wrap_u64, IntKind.wrap_u64, IntKind.wrap_u64, Int.emod_eq_of_lt (a := (c : Int)) (by omega) (by omega)]
  omega
theorem uint_l0 (l : List UInt8) (hl : l.length ≤ 140737488351232) (d : Nat) : ∀ (i x : Nat), i ≤ l.length → i ≤ 20 → min l.length 20 - i = d → x = fold 0 (l.take i) → x < 18446744073709551616 →
    Ev (fun k => tollbarref06_Uint.l0 k ⟨l.toArray⟩ x i) (uintR ⟨l.toArray⟩) := by
  have fin : ∀ (i x : Nat), i = min l.length 20 → x = fold 0 (l.take i) → ∀ u, uintV (⟨l.toArray⟩ : ByteArray) = some u → x = u := by
    intro i x hi hx u hu
    have e := mk_inj (uintV_eq hu)
    have hu' := uintV_lt hu
    have hlen : l.length ≤ 20 := by rw [e, decDigits_length]; exact len_le hu'
    rw [hx, hi, Nat.min_eq_left hlen, List.take_length, e]
    exact fold_dec u hu'
  induction d with
  | zero =>
    intro i x hi h20 hd hx hlt
    have hmin : i = min l.length 20 := by omega
    refine Ev.step (f := fun k => (tollbarref06_ShowUint.f k (x : Int)).bind fun t => if t.toList = (⟨l.toArray⟩ : ByteArray).toList then some ((x : Int), true) else some (0, false)) (fun k => ?_) (uint_tail _ x hlt (fin i x hmin hx))
    simp only [tollbarref06_Uint.l0]
    by_cases h : (i : Int) < ((⟨l.toArray⟩ : ByteArray).size : Int)
    · rw [if_pos h, if_neg (by rw [sized] at h; omega)]
    · rw [if_neg h]
  | succ d ih =>
    intro i x hi h20 hd hx hlt
    have hil : i < l.length := by omega
    have hi20 : i < 20 := by omega
    have c1 : (i : Int) < ((⟨l.toArray⟩ : ByteArray).size : Int) := by rw [sized]; omega
    have c2 : (i : Int) < 20 := by omega
    have c3 : 0 ≤ (i : Int) := by omega
    have g1 : i + 1 ≤ l.length := by omega
    have g2 : i + 1 ≤ 20 := by omega
    have g3 : min l.length 20 - (i + 1) = d := by omega
    have hw64 : wrap64 ((i : Int) + 1) = ((i + 1 : Nat) : Int) := by unfold wrap64; omega
    have hc : l[i].toNat < 256 := l[i].toNat_lt
    have hb : bt ⟨l.toArray⟩ (i : Int) = (l[i].toNat : Int) := bt_list l i hil
    have e : stepU x l[i].toNat = fold 0 (l.take (i + 1)) :=
      (congrArg (fun z => stepU z l[i].toNat) hx).trans ((fold_snoc 0 (l.take i) l[i]).symm.trans (congrArg (fold 0) (List.take_succ_eq_append_getElem hil).symm))
    have hw := stepW x _ hlt hc
    rw [← hb] at hw
    have h2 := ih (i + 1) (stepU x l[i].toNat) g1 g2 g3 e (stepU_lt _ _)
    clear ih e hb hc hx hlt fin
    generalize ((stepU x l[i].toNat : Nat) : Int) = y at hw h2
    refine Ev.step (f := fun k => tollbarref06_Uint.l0 k ⟨l.toArray⟩ y ((i + 1 : Nat) : Int)) (fun k => ?_) h2
    simp only [tollbarref06_Uint.l0]
    rw [if_pos c1, if_pos c2, if_pos c3, hw, hw64]
theorem ref_uint (s : ByteArray) (hs : s.size ≤ 140737488351232) : Ev (fun k => tollbarref06_Uint.f k s) (uintR s) := by
  obtain ⟨l, rfl⟩ := as_list s
  rw [sized] at hs
  exact uint_l0 l hs _ 0 0 (by omega) (by omega) rfl (by rw [List.take_zero, fold_nil]) (by omega)
theorem my_uint (s : ByteArray) (hs : s.size ≤ 140737488351232) : scalar_Uint.f s = some (uintR s) := by
  unfold scalar_Uint.f uintR; rw [if_pos hs]; rfl
end Sc
end Go.Proofs.YtdlkjcginamemaaDoor.Pure
