/- What scalar.Rate comes to, by its walk. -/
import Derived.Test.YtdlkjcginamemaaDoorScalarWalk
import Derived.Deep.QuietTactic
import Derived.BigQuiet
namespace Go.Proofs.YtdlkjcginamemaaDoor.Scalar
open Go.RowKit Go.Sort Go.Lib Go.Proofs.YtdlkjcginamemaaDoorW.PrintWords Go.Proofs.YtdlkjcginamemaaDoorW.PrintLast
set_option linter.unusedVariables false
/-- The number of a text that is one. -/
def uintV (s : ByteArray) : Option Nat := match Lib.parseUintB 64 s.data.toList with
  | .ok u => if s = ⟨(Lib.decDigits u).toArray⟩ then some u else none
  | _ => none
theorem toList_inj {a b : ByteArray} (h : a.toList = b.toList) : a = b := by
  rw [Lib.toList_data, Lib.toList_data] at h
  obtain ⟨⟨a⟩⟩ := a
  obtain ⟨⟨b⟩⟩ := b
  exact congrArg (fun l => (⟨⟨l⟩⟩ : ByteArray)) h
theorem parseM_lt : ∀ {l : List UInt8} {acc u : Nat}, acc ≤ 18446744073709551615 → Lib.parseUintM 18446744073709551615 acc l = .ok u → u ≤ 18446744073709551615
  | [], acc, u, ha, h => by simp only [Lib.parseUintM] at h; cases h; exact ha
  | c :: r, acc, u, ha, h => by
    simp only [Lib.parseUintM] at h
    split at h
    · split at h
      · cases h
      · split at h
        · cases h
        · exact parseM_lt (by omega) h
    · cases h
theorem parse_lt {l : List UInt8} {u : Nat} (h : Lib.parseUintB 64 l = .ok u) : u < 18446744073709551616 := by
  unfold Lib.parseUintB at h
  split at h
  · cases h
  · have := parseM_lt (l := l) (acc := 0) (u := u) (by omega) h
    omega
theorem uintV_lt {s : ByteArray} {u : Nat} (h : uintV s = some u) : u < 18446744073709551616 := by
  unfold uintV at h
  split at h
  · rename_i v hv
    split at h
    · cases h; exact parse_lt hv
    · cases h
  · cases h
theorem gOf {w W : World} (h : G w) (hb : Below w.heap.size w W) : G W := h.below hb
theorem ends (e : Lib.NumEnd Nat) : (∃ u, e = .ok u) ∨ e = Lib.parseUintB 64 [] ∨ e = .range := by
  have z : Lib.parseUintB 64 [] = Lib.parseUintB 64 [] := rfl
  unfold Lib.parseUintB
  rw [if_pos rfl]
  cases e
  · exact .inl ⟨_, rfl⟩
  · exact .inr (.inl rfl)
  · exact .inr (.inr rfl)
theorem Uint_some (s : ByteArray) (hs : s.size ≤ 140737488351232) (u : Nat) (h : Hid (uintV s = some u)) (w : World) (hG : G w) :
    Calls Tryd.prog 8 #[.string s] w fun e w' => e = .returned (.tuple #[.int .u64 u, .bool true]) ∧ Below w.heap.size w w' := by
  have h1 := h.out
  unfold uintV at h1
  split at h1
  · rename_i v hv
    split at h1
    · rename_i hq
      injection h1 with h1
      subst h1
      exact Uint_ok s hs v (parse_lt hv) hv hq w hG
    · cases h1
  · cases h1
theorem Uint_none (s : ByteArray) (hs : s.size ≤ 140737488351232) (h : Hid (uintV s = none)) (w : World) (hG : G w) :
    Calls Tryd.prog 8 #[.string s] w fun e w' => e = .returned (.tuple #[.int .u64 0, .bool false]) ∧ Below w.heap.size w w' := by
  have h1 := h.out
  unfold uintV at h1
  split at h1
  · rename_i v hv
    split at h1
    · cases h1
    · rename_i hq
      exact Uint_other s _ hs v (parse_lt hv) hv rfl (beq_eq_false_iff_ne.2 fun e => hq (toList_inj e).symm) w hG
  · rename_i h2
    rcases ends (Lib.parseUintB 64 s.data.toList) with ⟨v, hp⟩ | hp | hp
    · exact absurd hp (h2 v)
    · exact Uint_bad s hs hp w hG
    · exact Uint_range s hs hp w hG
theorem Bel.drewN {w w' : World} (h : Bel w w') (n : Nat) : Bel w (w'.drewN n) := pw_below_drewN h n
set_option maxHeartbeats 1000000 in
theorem Rate_m_ok (s r : ByteArray) (hs : s.size ≤ 140737488351232) (hr : r.size ≤ 140737488351232) (h1 : Lib.hasSuffix s.data.toList [109] = true) (h2 : r = ⟨(Lib.trimSuffix s.data.toList [109]).toArray⟩)
    (u : Nat) (hu : u * 1000000 < 18446744073709551616) (hv : uintV r = some u) (w : World) (hG : G w) :
    Calls Tryd.prog 10 #[.string s] w fun e w' => e = .returned (.tuple #[.int .u64 (u * 1000000 : Nat), .bool true]) ∧ Bel w w' := by
  have HG := Lib.hid hG
  obtain ⟨tu, fu, hu4⟩ := hG.units
  have HV := Lib.hid hu4
  have HU := Lib.hid hv
  have cut109 : ∀ W : World, Calls Tryd.prog 19 #[.string s, .string ⟨#[109]⟩] W fun e w' => e = .returned (.tuple #[.string r, .bool true]) ∧ w' = W := fun W => by
    rw [h2, ← h1]; exact Tryd.strings_CutSuffix s ⟨#[109]⟩ W (by omega)
  have CUT109 := Lib.hid cut109
  clear hG hu4 hv cut109 h1 h2
  have i0 := at0
  have i1 := at1
  go_enter Tryd.func10, Tryd.ntmps10
  go_wp2_with (refine wpList_load_row rfl 38 _ rfl 0 rfl tu _ fu _ HV.out Tryd.underlying38 rfl (by kernel_rfl) ?_)
  refine wp_loop_rounds 1 ?_
  rw [rounds_succ]
  go_wp2_with (first | (go_at_call 19; refine (CUT109.out _).mono ?_; rintro e w' ⟨rfl, rfl⟩))
  have hc0 : (w.alloc (.cells #[.int .u64 1000000, .string ⟨#[109]⟩] 37)).cell? ⟨w.heap.size, 0, none⟩ = some (.int .u64 1000000) := by simp
  go_quiet (fail)
  have hB : ∀ n, Bel w ((w.alloc (.cells #[.int .u64 1000000, .string ⟨#[109]⟩] 37)).drewN n) := fun n => Bel.drewN (below_alloc (Below.refl _ _) _) n
  have b0 : 0 ≤ (u : Int) * 1000000 := by omega
  have b1 : (u : Int) * 1000000 ≤ 18446744073709551615 := by omega
  have b2 : ((u : Int) * 1000000 / 1000000 == (u : Int)) = true := by simp
  have b3 : ((u : Int) == (u : Int)) = true := by simp
  clear hu
  go_wp2_with (first | (go_at_call 8; ((with_reducible refine (Uint_some r hr u HU _ (G.bel HG.out (hB _))).mono ?_); rintro e w1 ⟨rfl, hb⟩)))
  go_ret2
  exact ⟨rfl, Bel.step (hB _) hb⟩
set_option maxHeartbeats 1000000 in
theorem Rate_m_big (s r : ByteArray) (hs : s.size ≤ 140737488351232) (hr : r.size ≤ 140737488351232) (h1 : Lib.hasSuffix s.data.toList [109] = true) (h2 : r = ⟨(Lib.trimSuffix s.data.toList [109]).toArray⟩)
    (u : Nat) (hl : u < 18446744073709551616) (hu : 18446744073709551616 ≤ u * 1000000) (hv : uintV r = some u) (w : World) (hG : G w) :
    Calls Tryd.prog 10 #[.string s] w fun e w' => e = .returned (.tuple #[.int .u64 0, .bool false]) ∧ Bel w w' := by
  have HG := Lib.hid hG
  obtain ⟨tu, fu, hu4⟩ := hG.units
  have HV := Lib.hid hu4
  have HU := Lib.hid hv
  have cut109 : ∀ W : World, Calls Tryd.prog 19 #[.string s, .string ⟨#[109]⟩] W fun e w' => e = .returned (.tuple #[.string r, .bool true]) ∧ w' = W := fun W => by
    rw [h2, ← h1]; exact Tryd.strings_CutSuffix s ⟨#[109]⟩ W (by omega)
  have CUT109 := Lib.hid cut109
  clear hG hu4 hv cut109 h1 h2
  have i0 := at0
  have i1 := at1
  go_enter Tryd.func10, Tryd.ntmps10
  go_wp2_with (refine wpList_load_row rfl 38 _ rfl 0 rfl tu _ fu _ HV.out Tryd.underlying38 rfl (by kernel_rfl) ?_)
  refine wp_loop_rounds 1 ?_
  rw [rounds_succ]
  go_wp2_with (first | (go_at_call 19; refine (CUT109.out _).mono ?_; rintro e w' ⟨rfl, rfl⟩))
  have hc0 : (w.alloc (.cells #[.int .u64 1000000, .string ⟨#[109]⟩] 37)).cell? ⟨w.heap.size, 0, none⟩ = some (.int .u64 1000000) := by simp
  go_quiet (fail)
  have hB : ∀ n, Bel w ((w.alloc (.cells #[.int .u64 1000000, .string ⟨#[109]⟩] 37)).drewN n) := fun n => Bel.drewN (below_alloc (Below.refl _ _) _) n
  have b0 : 0 ≤ (u : Int) := by omega
  have b1 : (u : Int) ≤ 18446744073709551615 := by omega
  have b2 : (IntKind.u64.wrap ((IntKind.u64.wrap ((u : Int) * 1000000)).tdiv 1000000) == (u : Int)) = false := by
    rw [IntKind.wrap_u64, IntKind.wrap_u64, beq_eq_false_iff_ne, Int.tdiv_eq_ediv_of_nonneg (by omega)]; omega
  clear hu hl
  go_wp2_with (first | (go_at_call 8; ((with_reducible refine (Uint_some r hr u HU _ (G.bel HG.out (hB _))).mono ?_); rintro e w1 ⟨rfl, hb⟩)))
  go_ret2
  exact ⟨rfl, Bel.step (hB _) hb⟩
set_option maxHeartbeats 1000000 in
theorem Rate_m_no (s r : ByteArray) (hs : s.size ≤ 140737488351232) (hr : r.size ≤ 140737488351232) (h1 : Lib.hasSuffix s.data.toList [109] = true) (h2 : r = ⟨(Lib.trimSuffix s.data.toList [109]).toArray⟩)
    (hv : uintV r = none) (w : World) (hG : G w) :
    Calls Tryd.prog 10 #[.string s] w fun e w' => e = .returned (.tuple #[.int .u64 0, .bool false]) ∧ Bel w w' := by
  have HG := Lib.hid hG
  obtain ⟨tu, fu, hu4⟩ := hG.units
  have HV := Lib.hid hu4
  have HU := Lib.hid hv
  have cut109 : ∀ W : World, Calls Tryd.prog 19 #[.string s, .string ⟨#[109]⟩] W fun e w' => e = .returned (.tuple #[.string r, .bool true]) ∧ w' = W := fun W => by
    rw [h2, ← h1]; exact Tryd.strings_CutSuffix s ⟨#[109]⟩ W (by omega)
  have CUT109 := Lib.hid cut109
  clear hG hu4 hv cut109 h1 h2
  have i0 := at0
  have i1 := at1
  go_enter Tryd.func10, Tryd.ntmps10
  go_wp2_with (refine wpList_load_row rfl 38 _ rfl 0 rfl tu _ fu _ HV.out Tryd.underlying38 rfl (by kernel_rfl) ?_)
  refine wp_loop_rounds 1 ?_
  rw [rounds_succ]
  go_wp2_with (first | (go_at_call 19; refine (CUT109.out _).mono ?_; rintro e w' ⟨rfl, rfl⟩))
  have hc0 : (w.alloc (.cells #[.int .u64 1000000, .string ⟨#[109]⟩] 37)).cell? ⟨w.heap.size, 0, none⟩ = some (.int .u64 1000000) := by simp
  go_quiet (fail)
  have hB : ∀ n, Bel w ((w.alloc (.cells #[.int .u64 1000000, .string ⟨#[109]⟩] 37)).drewN n) := fun n => Bel.drewN (below_alloc (Below.refl _ _) _) n
  go_wp2_with (first | (go_at_call 8; ((with_reducible refine (Uint_none r hr HU _ (G.bel HG.out (hB _))).mono ?_); rintro e w1 ⟨rfl, hb⟩)))
  go_ret2
  exact ⟨rfl, Bel.step (hB _) hb⟩
set_option maxHeartbeats 1000000 in
theorem Rate_k_ok (s r : ByteArray) (hs : s.size ≤ 140737488351232) (hr : r.size ≤ 140737488351232) (h0 : Lib.hasSuffix s.data.toList [109] = false) (h1 : Lib.hasSuffix s.data.toList [107] = true) (h2 : r = ⟨(Lib.trimSuffix s.data.toList [107]).toArray⟩)
    (u : Nat) (hu : u * 1000 < 18446744073709551616) (hv : uintV r = some u) (w : World) (hG : G w) :
    Calls Tryd.prog 10 #[.string s] w fun e w' => e = .returned (.tuple #[.int .u64 (u * 1000 : Nat), .bool true]) ∧ Bel w w' := by
  have HG := Lib.hid hG
  obtain ⟨tu, fu, hu4⟩ := hG.units
  have HV := Lib.hid hu4
  have HU := Lib.hid hv
  have cut109 : ∀ W : World, Calls Tryd.prog 19 #[.string s, .string ⟨#[109]⟩] W fun e w' => e = .returned (.tuple #[.string ⟨(Lib.trimSuffix s.data.toList [109]).toArray⟩, .bool false]) ∧ w' = W := fun W => by
    rw [← h0]; exact Tryd.strings_CutSuffix s ⟨#[109]⟩ W (by omega)
  generalize (⟨(Lib.trimSuffix s.data.toList [109]).toArray⟩ : ByteArray) = z109 at cut109
  have CUT109 := Lib.hid cut109
  have cut107 : ∀ W : World, Calls Tryd.prog 19 #[.string s, .string ⟨#[107]⟩] W fun e w' => e = .returned (.tuple #[.string r, .bool true]) ∧ w' = W := fun W => by
    rw [h2, ← h1]; exact Tryd.strings_CutSuffix s ⟨#[107]⟩ W (by omega)
  have CUT107 := Lib.hid cut107
  clear hG hu4 hv cut109 cut107 h0 h1 h2
  have i0 := at0
  have i1 := at1
  go_enter Tryd.func10, Tryd.ntmps10
  go_wp2_with (refine wpList_load_row rfl 38 _ rfl 0 rfl tu _ fu _ HV.out Tryd.underlying38 rfl (by kernel_rfl) ?_)
  refine wp_loop_rounds 2 ?_
  rw [rounds_succ]
  go_wp2_with (first | (go_at_call 19; refine (CUT109.out _).mono ?_; rintro e w' ⟨rfl, rfl⟩))
  rw [rounds_succ]
  go_wp2_with (first | (go_at_call 19; refine (CUT107.out _).mono ?_; rintro e w' ⟨rfl, rfl⟩))
  have hc0 : ((w.alloc (.cells #[.int .u64 1000000, .string ⟨#[109]⟩] 37)).alloc (.cells #[.int .u64 1000, .string ⟨#[107]⟩] 37)).cell? ⟨w.heap.size + 1, 0, none⟩ = some (.int .u64 1000) := by simp
  go_quiet (fail)
  have hB : ∀ n, Bel w (((w.alloc (.cells #[.int .u64 1000000, .string ⟨#[109]⟩] 37)).alloc (.cells #[.int .u64 1000, .string ⟨#[107]⟩] 37)).drewN n) := fun n => Bel.drewN (below_alloc (below_alloc (Below.refl _ _) _) _) n
  have b0 : 0 ≤ (u : Int) * 1000 := by omega
  have b1 : (u : Int) * 1000 ≤ 18446744073709551615 := by omega
  have b2 : ((u : Int) * 1000 / 1000 == (u : Int)) = true := by simp
  have b3 : ((u : Int) == (u : Int)) = true := by simp
  clear hu
  go_wp2_with (first | (go_at_call 8; ((with_reducible refine (Uint_some r hr u HU _ (G.bel HG.out (hB _))).mono ?_); rintro e w1 ⟨rfl, hb⟩)))
  go_ret2
  exact ⟨rfl, Bel.step (hB _) hb⟩
set_option maxHeartbeats 1000000 in
theorem Rate_k_big (s r : ByteArray) (hs : s.size ≤ 140737488351232) (hr : r.size ≤ 140737488351232) (h0 : Lib.hasSuffix s.data.toList [109] = false) (h1 : Lib.hasSuffix s.data.toList [107] = true) (h2 : r = ⟨(Lib.trimSuffix s.data.toList [107]).toArray⟩)
    (u : Nat) (hl : u < 18446744073709551616) (hu : 18446744073709551616 ≤ u * 1000) (hv : uintV r = some u) (w : World) (hG : G w) :
    Calls Tryd.prog 10 #[.string s] w fun e w' => e = .returned (.tuple #[.int .u64 0, .bool false]) ∧ Bel w w' := by
  have HG := Lib.hid hG
  obtain ⟨tu, fu, hu4⟩ := hG.units
  have HV := Lib.hid hu4
  have HU := Lib.hid hv
  have cut109 : ∀ W : World, Calls Tryd.prog 19 #[.string s, .string ⟨#[109]⟩] W fun e w' => e = .returned (.tuple #[.string ⟨(Lib.trimSuffix s.data.toList [109]).toArray⟩, .bool false]) ∧ w' = W := fun W => by
    rw [← h0]; exact Tryd.strings_CutSuffix s ⟨#[109]⟩ W (by omega)
  generalize (⟨(Lib.trimSuffix s.data.toList [109]).toArray⟩ : ByteArray) = z109 at cut109
  have CUT109 := Lib.hid cut109
  have cut107 : ∀ W : World, Calls Tryd.prog 19 #[.string s, .string ⟨#[107]⟩] W fun e w' => e = .returned (.tuple #[.string r, .bool true]) ∧ w' = W := fun W => by
    rw [h2, ← h1]; exact Tryd.strings_CutSuffix s ⟨#[107]⟩ W (by omega)
  have CUT107 := Lib.hid cut107
  clear hG hu4 hv cut109 cut107 h0 h1 h2
  have i0 := at0
  have i1 := at1
  go_enter Tryd.func10, Tryd.ntmps10
  go_wp2_with (refine wpList_load_row rfl 38 _ rfl 0 rfl tu _ fu _ HV.out Tryd.underlying38 rfl (by kernel_rfl) ?_)
  refine wp_loop_rounds 2 ?_
  rw [rounds_succ]
  go_wp2_with (first | (go_at_call 19; refine (CUT109.out _).mono ?_; rintro e w' ⟨rfl, rfl⟩))
  rw [rounds_succ]
  go_wp2_with (first | (go_at_call 19; refine (CUT107.out _).mono ?_; rintro e w' ⟨rfl, rfl⟩))
  have hc0 : ((w.alloc (.cells #[.int .u64 1000000, .string ⟨#[109]⟩] 37)).alloc (.cells #[.int .u64 1000, .string ⟨#[107]⟩] 37)).cell? ⟨w.heap.size + 1, 0, none⟩ = some (.int .u64 1000) := by simp
  go_quiet (fail)
  have hB : ∀ n, Bel w (((w.alloc (.cells #[.int .u64 1000000, .string ⟨#[109]⟩] 37)).alloc (.cells #[.int .u64 1000, .string ⟨#[107]⟩] 37)).drewN n) := fun n => Bel.drewN (below_alloc (below_alloc (Below.refl _ _) _) _) n
  have b0 : 0 ≤ (u : Int) := by omega
  have b1 : (u : Int) ≤ 18446744073709551615 := by omega
  have b2 : (IntKind.u64.wrap ((IntKind.u64.wrap ((u : Int) * 1000)).tdiv 1000) == (u : Int)) = false := by
    rw [IntKind.wrap_u64, IntKind.wrap_u64, beq_eq_false_iff_ne, Int.tdiv_eq_ediv_of_nonneg (by omega)]; omega
  clear hu hl
  go_wp2_with (first | (go_at_call 8; ((with_reducible refine (Uint_some r hr u HU _ (G.bel HG.out (hB _))).mono ?_); rintro e w1 ⟨rfl, hb⟩)))
  go_ret2
  exact ⟨rfl, Bel.step (hB _) hb⟩
set_option maxHeartbeats 1000000 in
theorem Rate_k_no (s r : ByteArray) (hs : s.size ≤ 140737488351232) (hr : r.size ≤ 140737488351232) (h0 : Lib.hasSuffix s.data.toList [109] = false) (h1 : Lib.hasSuffix s.data.toList [107] = true) (h2 : r = ⟨(Lib.trimSuffix s.data.toList [107]).toArray⟩)
    (hv : uintV r = none) (w : World) (hG : G w) :
    Calls Tryd.prog 10 #[.string s] w fun e w' => e = .returned (.tuple #[.int .u64 0, .bool false]) ∧ Bel w w' := by
  have HG := Lib.hid hG
  obtain ⟨tu, fu, hu4⟩ := hG.units
  have HV := Lib.hid hu4
  have HU := Lib.hid hv
  have cut109 : ∀ W : World, Calls Tryd.prog 19 #[.string s, .string ⟨#[109]⟩] W fun e w' => e = .returned (.tuple #[.string ⟨(Lib.trimSuffix s.data.toList [109]).toArray⟩, .bool false]) ∧ w' = W := fun W => by
    rw [← h0]; exact Tryd.strings_CutSuffix s ⟨#[109]⟩ W (by omega)
  generalize (⟨(Lib.trimSuffix s.data.toList [109]).toArray⟩ : ByteArray) = z109 at cut109
  have CUT109 := Lib.hid cut109
  have cut107 : ∀ W : World, Calls Tryd.prog 19 #[.string s, .string ⟨#[107]⟩] W fun e w' => e = .returned (.tuple #[.string r, .bool true]) ∧ w' = W := fun W => by
    rw [h2, ← h1]; exact Tryd.strings_CutSuffix s ⟨#[107]⟩ W (by omega)
  have CUT107 := Lib.hid cut107
  clear hG hu4 hv cut109 cut107 h0 h1 h2
  have i0 := at0
  have i1 := at1
  go_enter Tryd.func10, Tryd.ntmps10
  go_wp2_with (refine wpList_load_row rfl 38 _ rfl 0 rfl tu _ fu _ HV.out Tryd.underlying38 rfl (by kernel_rfl) ?_)
  refine wp_loop_rounds 2 ?_
  rw [rounds_succ]
  go_wp2_with (first | (go_at_call 19; refine (CUT109.out _).mono ?_; rintro e w' ⟨rfl, rfl⟩))
  rw [rounds_succ]
  go_wp2_with (first | (go_at_call 19; refine (CUT107.out _).mono ?_; rintro e w' ⟨rfl, rfl⟩))
  have hc0 : ((w.alloc (.cells #[.int .u64 1000000, .string ⟨#[109]⟩] 37)).alloc (.cells #[.int .u64 1000, .string ⟨#[107]⟩] 37)).cell? ⟨w.heap.size + 1, 0, none⟩ = some (.int .u64 1000) := by simp
  go_quiet (fail)
  have hB : ∀ n, Bel w (((w.alloc (.cells #[.int .u64 1000000, .string ⟨#[109]⟩] 37)).alloc (.cells #[.int .u64 1000, .string ⟨#[107]⟩] 37)).drewN n) := fun n => Bel.drewN (below_alloc (below_alloc (Below.refl _ _) _) _) n
  go_wp2_with (first | (go_at_call 8; ((with_reducible refine (Uint_none r hr HU _ (G.bel HG.out (hB _))).mono ?_); rintro e w1 ⟨rfl, hb⟩)))
  go_ret2
  exact ⟨rfl, Bel.step (hB _) hb⟩
set_option maxHeartbeats 1000000 in
theorem Rate_n_ok (s r : ByteArray) (hs : s.size ≤ 140737488351232) (hr : r.size ≤ 140737488351232) (h0 : Lib.hasSuffix s.data.toList [109] = false) (h1 : Lib.hasSuffix s.data.toList [107] = false) (h2 : r = s)
    (u : Nat) (hu : u * 1 < 18446744073709551616) (hv : uintV r = some u) (w : World) (hG : G w) :
    Calls Tryd.prog 10 #[.string s] w fun e w' => e = .returned (.tuple #[.int .u64 (u * 1 : Nat), .bool true]) ∧ Bel w w' := by
  have HG := Lib.hid hG
  obtain ⟨tu, fu, hu4⟩ := hG.units
  have HV := Lib.hid hu4
  have HU := Lib.hid hv
  have cut109 : ∀ W : World, Calls Tryd.prog 19 #[.string s, .string ⟨#[109]⟩] W fun e w' => e = .returned (.tuple #[.string ⟨(Lib.trimSuffix s.data.toList [109]).toArray⟩, .bool false]) ∧ w' = W := fun W => by
    rw [← h0]; exact Tryd.strings_CutSuffix s ⟨#[109]⟩ W (by omega)
  generalize (⟨(Lib.trimSuffix s.data.toList [109]).toArray⟩ : ByteArray) = z109 at cut109
  have CUT109 := Lib.hid cut109
  have cut107 : ∀ W : World, Calls Tryd.prog 19 #[.string s, .string ⟨#[107]⟩] W fun e w' => e = .returned (.tuple #[.string ⟨(Lib.trimSuffix s.data.toList [107]).toArray⟩, .bool false]) ∧ w' = W := fun W => by
    rw [← h1]; exact Tryd.strings_CutSuffix s ⟨#[107]⟩ W (by omega)
  generalize (⟨(Lib.trimSuffix s.data.toList [107]).toArray⟩ : ByteArray) = z107 at cut107
  have CUT107 := Lib.hid cut107
  subst h2
  clear hG hu4 hv cut109 cut107 h0 h1
  have i0 := at0
  have i1 := at1
  go_enter Tryd.func10, Tryd.ntmps10
  go_wp2_with (refine wpList_load_row rfl 38 _ rfl 0 rfl tu _ fu _ HV.out Tryd.underlying38 rfl (by kernel_rfl) ?_)
  refine wp_loop_rounds 3 ?_
  rw [rounds_succ]
  go_wp2_with (first | (go_at_call 19; refine (CUT109.out _).mono ?_; rintro e w' ⟨rfl, rfl⟩))
  rw [rounds_succ]
  go_wp2_with (first | (go_at_call 19; refine (CUT107.out _).mono ?_; rintro e w' ⟨rfl, rfl⟩))
  rw [rounds_succ]
  have hB : Bel w ((w.alloc (.cells #[.int .u64 1000000, .string ⟨#[109]⟩] 37)).alloc (.cells #[.int .u64 1000, .string ⟨#[107]⟩] 37)) := below_alloc (below_alloc (Below.refl _ _) _) _
  have b0 : 0 ≤ (u : Int) * 1 := by omega
  have b1 : (u : Int) * 1 ≤ 18446744073709551615 := by omega
  have b2 : ((u : Int) * 1 / 1 == (u : Int)) = true := by simp
  have b3 : ((u : Int) == (u : Int)) = true := by simp
  clear hu
  go_wp2_with (first | (go_at_call 8; ((with_reducible refine (Uint_some r hr u HU _ (G.bel HG.out hB)).mono ?_); rintro e w1 ⟨rfl, hb⟩)))
  go_ret2
  exact ⟨by simp, Bel.step hB hb⟩
set_option maxHeartbeats 1000000 in
theorem Rate_n_no (s r : ByteArray) (hs : s.size ≤ 140737488351232) (hr : r.size ≤ 140737488351232) (h0 : Lib.hasSuffix s.data.toList [109] = false) (h1 : Lib.hasSuffix s.data.toList [107] = false) (h2 : r = s)
    (hv : uintV r = none) (w : World) (hG : G w) :
    Calls Tryd.prog 10 #[.string s] w fun e w' => e = .returned (.tuple #[.int .u64 0, .bool false]) ∧ Bel w w' := by
  have HG := Lib.hid hG
  obtain ⟨tu, fu, hu4⟩ := hG.units
  have HV := Lib.hid hu4
  have HU := Lib.hid hv
  have cut109 : ∀ W : World, Calls Tryd.prog 19 #[.string s, .string ⟨#[109]⟩] W fun e w' => e = .returned (.tuple #[.string ⟨(Lib.trimSuffix s.data.toList [109]).toArray⟩, .bool false]) ∧ w' = W := fun W => by
    rw [← h0]; exact Tryd.strings_CutSuffix s ⟨#[109]⟩ W (by omega)
  generalize (⟨(Lib.trimSuffix s.data.toList [109]).toArray⟩ : ByteArray) = z109 at cut109
  have CUT109 := Lib.hid cut109
  have cut107 : ∀ W : World, Calls Tryd.prog 19 #[.string s, .string ⟨#[107]⟩] W fun e w' => e = .returned (.tuple #[.string ⟨(Lib.trimSuffix s.data.toList [107]).toArray⟩, .bool false]) ∧ w' = W := fun W => by
    rw [← h1]; exact Tryd.strings_CutSuffix s ⟨#[107]⟩ W (by omega)
  generalize (⟨(Lib.trimSuffix s.data.toList [107]).toArray⟩ : ByteArray) = z107 at cut107
  have CUT107 := Lib.hid cut107
  subst h2
  clear hG hu4 hv cut109 cut107 h0 h1
  have i0 := at0
  have i1 := at1
  go_enter Tryd.func10, Tryd.ntmps10
  go_wp2_with (refine wpList_load_row rfl 38 _ rfl 0 rfl tu _ fu _ HV.out Tryd.underlying38 rfl (by kernel_rfl) ?_)
  refine wp_loop_rounds 3 ?_
  rw [rounds_succ]
  go_wp2_with (first | (go_at_call 19; refine (CUT109.out _).mono ?_; rintro e w' ⟨rfl, rfl⟩))
  rw [rounds_succ]
  go_wp2_with (first | (go_at_call 19; refine (CUT107.out _).mono ?_; rintro e w' ⟨rfl, rfl⟩))
  rw [rounds_succ]
  have hB : Bel w ((w.alloc (.cells #[.int .u64 1000000, .string ⟨#[109]⟩] 37)).alloc (.cells #[.int .u64 1000, .string ⟨#[107]⟩] 37)) := below_alloc (below_alloc (Below.refl _ _) _) _
  go_wp2_with (first | (go_at_call 8; ((with_reducible refine (Uint_none r hr HU _ (G.bel HG.out hB)).mono ?_); rintro e w1 ⟨rfl, hb⟩)))
  go_ret2
  exact ⟨rfl, Bel.step hB hb⟩
end Go.Proofs.YtdlkjcginamemaaDoor.Scalar
