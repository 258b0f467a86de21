-- laid by a program of this session (pp.sh) out of the translation
import Derived.Test.YtdlkjcginamemaaDoorQScalarx0
import Derived.Test.YtdlkjcginamemaaDoorQScalarx1
namespace Go.Proofs.YtdlkjcginamemaaDoor.QScalar
open Go.RowKit Go.Proofs.YtdlkjcginamemaaDoorW.PrintWords Go.Proofs.YtdlkjcginamemaaDoorW.PrintLast Go.Proofs.YtdlkjcginamemaaDoorW.PrintMore
open Go.Proofs.YtdlkjcginamemaaDoor.Scalar (G gOf)
attribute [local go_sem] max2_int min2_int max_two min_two max_three min_three max_four min_four   -- for this text's walks alone
set_option linter.unusedVariables false
set_option linter.unusedSimpArgs false

/-! ### tollbarlaw06_ScalarNames: function 6 -/
mutual
def tollbarlaw06_ScalarNames.j0 : Nat → ByteArray → Int → Int → Bool → Option (Bool)
  | 0, _, _, _, _ => none
  | k + 1, x0, x1, x2, x21 => if x21 = true then (some true) else (if (x0.size : Int) = 0 then (none) else ((some (([x2] : List Int) : List Int)).bind fun y165 => (if x0.size + (strOfNums y165).size ≤ 9223372036854775807 then (if x2 ≥ 97 then (if x2 ≤ 122 then (tollbarlaw06_ScalarNames.j1 k x0 (wrap64 ((Int.tmod (wrap64 (x1)) (x0.size : Int)) + 1)) (x0 ++ (strOfNums y165)) true) else (if x2 ≥ 48 then (if x2 ≤ 57 then (tollbarlaw06_ScalarNames.j1 k x0 (wrap64 ((Int.tmod (wrap64 (x1)) (x0.size : Int)) + 1)) (x0 ++ (strOfNums y165)) true) else (tollbarlaw06_ScalarNames.j1 k x0 (wrap64 ((Int.tmod (wrap64 (x1)) (x0.size : Int)) + 1)) (x0 ++ (strOfNums y165)) (x2 == 45))) else (tollbarlaw06_ScalarNames.j1 k x0 (wrap64 ((Int.tmod (wrap64 (x1)) (x0.size : Int)) + 1)) (x0 ++ (strOfNums y165)) (x2 == 45)))) else (if x2 ≥ 48 then (if x2 ≤ 57 then (tollbarlaw06_ScalarNames.j1 k x0 (wrap64 ((Int.tmod (wrap64 (x1)) (x0.size : Int)) + 1)) (x0 ++ (strOfNums y165)) true) else (tollbarlaw06_ScalarNames.j1 k x0 (wrap64 ((Int.tmod (wrap64 (x1)) (x0.size : Int)) + 1)) (x0 ++ (strOfNums y165)) (x2 == 45))) else (tollbarlaw06_ScalarNames.j1 k x0 (wrap64 ((Int.tmod (wrap64 (x1)) (x0.size : Int)) + 1)) (x0 ++ (strOfNums y165)) (x2 == 45)))) else (none))))
def tollbarlaw06_ScalarNames.j1 : Nat → ByteArray → Int → ByteArray → Bool → Option (Bool)
  | 0, _, _, _, _ => none
  | k + 1, x0, x8, x9, x10 => if 0 ≤ x8 then (if x8 ≤ (x0.size : Int) then ((scalar_Ident.f (x0.extract 0 (x8 : Int).toNat)).bind fun t168 => (if t168 = true then ((scalar_Ident.f x9).bind fun t169 => (if x10 = true then (if (t169 == (decide ((x0.size : Int) < 12))) = true then (if 1 + x0.size ≤ 9223372036854775807 then ((scalar_Ident.f ((⟨#[45]⟩ : ByteArray) ++ x0)).bind fun t170 => (if t170 = true then (some false) else ((scalar_Ident.f ((⟨#[55]⟩ : ByteArray) ++ x0)).bind fun t171 => (if t171 = true then (some false) else (if x0.size + 1 ≤ 9223372036854775807 then ((scalar_Ident.f (x0 ++ (⟨#[65]⟩ : ByteArray))).bind fun t172 => (if t172 = true then (some false) else (some (decide ((x0.size : Int) ≤ 12))))) else (none)))))) else (none)) else (some false)) else (if (t169 == false) = true then (if 1 + x0.size ≤ 9223372036854775807 then ((scalar_Ident.f ((⟨#[45]⟩ : ByteArray) ++ x0)).bind fun t173 => (if t173 = true then (some false) else ((scalar_Ident.f ((⟨#[55]⟩ : ByteArray) ++ x0)).bind fun t174 => (if t174 = true then (some false) else (if x0.size + 1 ≤ 9223372036854775807 then ((scalar_Ident.f (x0 ++ (⟨#[65]⟩ : ByteArray))).bind fun t175 => (if t175 = true then (some false) else (some (decide ((x0.size : Int) ≤ 12))))) else (none)))))) else (none)) else (some false)))) else (some false))) else (none)) else (none)
end
def tollbarlaw06_ScalarNames.f (k : Nat) (a0 : ByteArray) (a1 : Int) (a2 : Int) : Option (Bool) := (tollbarlaw06_awake.f).bind fun t163 => (if t163 = true then (if (a0.size : Int) > 300 then (tollbarlaw06_ScalarNames.j0 k a0 a1 a2 true) else ((scalar_Ident.f a0).bind fun t164 => (tollbarlaw06_ScalarNames.j0 k a0 a1 a2 (!t164)))) else (some false))
theorem tollbarlaw06_ScalarNames.mono_l : ∀ k, (∀ y0 y1 y2 y3, LeO (tollbarlaw06_ScalarNames.j0 k y0 y1 y2 y3) (tollbarlaw06_ScalarNames.j0 (k + 1) y0 y1 y2 y3)) ∧ (∀ y0 y1 y2 y3, LeO (tollbarlaw06_ScalarNames.j1 k y0 y1 y2 y3) (tollbarlaw06_ScalarNames.j1 (k + 1) y0 y1 y2 y3))
  | 0 => ⟨fun _ _ _ _ r h => by simp [tollbarlaw06_ScalarNames.j0] at h, fun _ _ _ _ r h => by simp [tollbarlaw06_ScalarNames.j1] at h⟩
  | k + 1 => by
    obtain ⟨ih0, ih1⟩ := tollbarlaw06_ScalarNames.mono_l k
    refine ⟨?_, ?_⟩
    · intro y0 y1 y2 y3
      unfold tollbarlaw06_ScalarNames.j0
      repeat' first
      | (with_reducible exact ih0 _ _ _ _)
      | (with_reducible exact ih1 _ _ _ _)
      | (with_reducible exact LeO.refl _)
      | (with_reducible exact LeO.none _)
      | (with_reducible refine LeO.ite ?_ ?_)
      | (with_reducible refine LeO.bind ?_ (fun _ => ?_))
      | exact ih0 _ _ _ _
      | exact ih1 _ _ _ _
      | exact LeO.none _
      | refine LeO.ite ?_ ?_
      | refine LeO.bind ?_ (fun _ => ?_)
    · intro y0 y1 y2 y3
      unfold tollbarlaw06_ScalarNames.j1
      repeat' first
      | (with_reducible exact ih0 _ _ _ _)
      | (with_reducible exact ih1 _ _ _ _)
      | (with_reducible exact LeO.refl _)
      | (with_reducible exact LeO.none _)
      | (with_reducible refine LeO.ite ?_ ?_)
      | (with_reducible refine LeO.bind ?_ (fun _ => ?_))
      | exact ih0 _ _ _ _
      | exact ih1 _ _ _ _
      | exact LeO.none _
      | refine LeO.ite ?_ ?_
      | refine LeO.bind ?_ (fun _ => ?_)
theorem tollbarlaw06_ScalarNames.mono : ∀ a0 a1 a2 k, LeO (tollbarlaw06_ScalarNames.f k a0 a1 a2) (tollbarlaw06_ScalarNames.f (k + 1) a0 a1 a2) := by
  intro a0 a1 a2 k
  obtain ⟨ih0, ih1⟩ := tollbarlaw06_ScalarNames.mono_l k
  unfold tollbarlaw06_ScalarNames.f
  repeat' first
      | (with_reducible exact ih0 _ _ _ _)
      | (with_reducible exact ih1 _ _ _ _)
      | (with_reducible exact LeO.refl _)
      | (with_reducible exact LeO.none _)
      | (with_reducible refine LeO.ite ?_ ?_)
      | (with_reducible refine LeO.bind ?_ (fun _ => ?_))
      | exact ih0 _ _ _ _
      | exact ih1 _ _ _ _
      | exact LeO.none _
      | refine LeO.ite ?_ ?_
      | refine LeO.bind ?_ (fun _ => ?_)
set_option maxHeartbeats 8000000 in
set_option maxRecDepth 100000 in
theorem tollbarlaw06_ScalarNames.calls (k : Nat) (a0 : ByteArray) (a1 : Int) (a2 : Int) (r : Bool) (w : World) (hG : G w) (h : tollbarlaw06_ScalarNames.f k a0 a1 a2 = some r) :
    Calls Tryd.prog 6 #[.string a0, .int .u8 a1, .int .u8 a2] w fun e w' => e = .returned (.bool r) ∧ Below w.heap.size w w' := by
  have HG0 := Aside0.mk hG
  clear hG
  have HB := Aside0.mk (Below.refl w.heap.size w)
  have H : ((tollbarlaw06_awake.f).bind fun t163 => (if t163 = true then (if (a0.size : Int) > 300 then (tollbarlaw06_ScalarNames.j0 k a0 a1 a2 true) else ((scalar_Ident.f a0).bind fun t164 => (tollbarlaw06_ScalarNames.j0 k a0 a1 a2 (!t164)))) else (some false))) = some r := h
  clear h
  replace H := Option.bind_eq_some_iff.mp H
  obtain ⟨t163, A40, H⟩ := H
  replace H : (if t163 = true then (if (a0.size : Int) > 300 then (tollbarlaw06_ScalarNames.j0 k a0 a1 a2 true) else ((scalar_Ident.f a0).bind fun t164 => (tollbarlaw06_ScalarNames.j0 k a0 a1 a2 (!t164)))) else (some false)) = some r := H
  have A4 := Aside0.mk A40
  clear A40
  by_cases c5 : t163 = true
  · subst c5
    have H1 : (if (a0.size : Int) > 300 then (tollbarlaw06_ScalarNames.j0 k a0 a1 a2 true) else ((scalar_Ident.f a0).bind fun t164 => (tollbarlaw06_ScalarNames.j0 k a0 a1 a2 (!t164)))) = some r := by rw [if_pos rfl] at H; exact H
    clear H
    have H := H1
    clear H1
    have HC6 := Aside0.mk H
    clear H
    go_enter Tryd.func6, Tryd.ntmps6
    go_upto_region 4 with (first | ((with_reducible refine gate_callee (f := 7) rfl ?_); refine goesL_ (some 11) rfl rfl Tryd.func7 (by kernel_rfl) rfl #[] rfl (by (try simp only [List.map_toArray, List.map_cons, List.map_nil]); first | done | rfl | (simp only [List.length_drop, List.length_take]; rfl)) ?_; (with_reducible refine (tollbarlaw06_awake.calls  true _ (gOf HG0.out (by repeat (first | (with_reducible first | exact HB.out | apply below_alloc | apply pw_below_drewN | apply below_drew1) | exact HB.out))) A4.out).mono ?_); rintro e w7 ⟨rfl, hb⟩; refine ⟨_, rfl, ?_⟩; have n0_ := Aside0.mk (below_step (by repeat (first | (with_reducible first | exact HB.out | apply below_alloc | apply pw_below_drewN | apply below_drew1) | exact HB.out)) hb); clear HB; have HB := n0_; clear n0_; (try clear hb); (try clear hb2); (try clear hk); (try clear hi)))
    (try simp only [Act.put, List.setIfInBounds_toArray, List.set_cons_zero, List.set_cons_succ])
    go_cut [21] (fun v21 wc => ∃ (kq : Nat) (x21_5 : Bool), v21 = .bool x21_5 ∧ Aside0 (tollbarlaw06_ScalarNames.j0 kq a0 a1 a2 x21_5 = some r) ∧ Aside0 (kq ≤ k) ∧ Aside0 (Below w.heap.size w wc))
    case first =>
      have H := HC6.out
      clear HC6
      by_cases c8 : (a0.size : Int) > 300
      · rw [if_pos c8] at H
        have c8b0 : decide (300 < (a0.size : Int)) = true := decide_eq_true c8
        have c8b1 : decide (300 < a0.size) = true := decide_eq_true (by omega)
        clear c8
        (first | rw [c8b0] | (simp only [i64_w, i32_w]; rw [c8b0]) | skip)
        have H' := Aside0.mk H
        clear H
        go_wp2
        go_meet
        case rel => exact ⟨_, (true), (by first | rfl | (simp; done) | (simp [*]; done) | exact congrArg Value.bool (isEmpty_ne _)), H', ⟨by first | omega | exact Nat.le_refl _⟩, ⟨by repeat (first | (with_reducible first | exact HB.out | apply below_alloc | apply pw_below_drewN | apply below_drew1) | exact HB.out)⟩⟩
      · rw [if_neg c8] at H
        have c8b0 : decide (300 < (a0.size : Int)) = false := decide_eq_false c8
        have c8b1 : decide (300 < a0.size) = false := decide_eq_false (by omega)
        clear c8
        (first | rw [c8b0] | (simp only [i64_w, i32_w]; rw [c8b0]) | skip)
        replace H := Option.bind_eq_some_iff.mp H
        obtain ⟨t164, A90, H⟩ := H
        replace H : (tollbarlaw06_ScalarNames.j0 k a0 a1 a2 (!t164)) = some r := H
        have A9 := Aside0.mk A90
        clear A90
        have H' := Aside0.mk H
        clear H
        go_wp2_with (first | (go_at_call 12; (with_reducible refine (scalar_Ident.calls a0 t164 _ A9.out).mono ?_); rintro e w10 ⟨rfl, hb⟩; have n0_ := Aside0.mk (below_step (by repeat (first | (with_reducible first | exact HB.out | apply below_alloc | apply pw_below_drewN | apply below_drew1) | exact HB.out)) hb); clear HB; have HB := n0_; clear n0_; (try clear hb); (try clear hb2); (try clear hk); (try clear hi)))
        go_meet
        case rel => exact ⟨_, (!t164), (by first | rfl | (simp; done) | (simp [*]; done) | exact congrArg Value.bool (isEmpty_ne _)), H', ⟨by first | omega | exact Nat.le_refl _⟩, ⟨by repeat (first | (with_reducible first | exact HB.out | apply below_alloc | apply pw_below_drewN | apply below_drew1) | exact HB.out)⟩⟩
    case rest =>
      clear HC6
      try clear p2
      try clear c5
      try clear c6
      try clear c7
      try clear c8
      try clear c8b0
      try clear c8b1
      obtain ⟨kq, x21_5, rfl, HA, HJ5, HB⟩ := hcut
      cases kq with
      | zero => exact absurd HA.out (by simp [tollbarlaw06_ScalarNames.j0])
      | succ kj5 =>
        have H := HA.out
        clear HA
        simp only [tollbarlaw06_ScalarNames.j0] at H
        by_cases c11 : x21_5 = true
        · subst c11
          have H1 : (some true) = some r := by rw [if_pos rfl] at H; exact H
          clear H
          have H := H1
          clear H1
          obtain rfl := Option.some.inj H
          go_wp2
          go_ret
          exact ⟨by first | rfl | (simp [errW_none, errW_some] <;> rfl) | (simp [*, errW_none, errW_some] <;> rfl), by repeat (first | (with_reducible first | exact HB.out | apply below_alloc | apply pw_below_drewN | apply below_drew1) | exact HB.out)⟩
        · replace c11 := Bool.eq_false_iff.mpr c11
          subst c11
          have H1 : (if (a0.size : Int) = 0 then (none) else ((some (([a2] : List Int) : List Int)).bind fun y165 => (if a0.size + (strOfNums y165).size ≤ 9223372036854775807 then (if a2 ≥ 97 then (if a2 ≤ 122 then (tollbarlaw06_ScalarNames.j1 kj5 a0 (wrap64 ((Int.tmod (wrap64 (a1)) (a0.size : Int)) + 1)) (a0 ++ (strOfNums y165)) true) else (if a2 ≥ 48 then (if a2 ≤ 57 then (tollbarlaw06_ScalarNames.j1 kj5 a0 (wrap64 ((Int.tmod (wrap64 (a1)) (a0.size : Int)) + 1)) (a0 ++ (strOfNums y165)) true) else (tollbarlaw06_ScalarNames.j1 kj5 a0 (wrap64 ((Int.tmod (wrap64 (a1)) (a0.size : Int)) + 1)) (a0 ++ (strOfNums y165)) (a2 == 45))) else (tollbarlaw06_ScalarNames.j1 kj5 a0 (wrap64 ((Int.tmod (wrap64 (a1)) (a0.size : Int)) + 1)) (a0 ++ (strOfNums y165)) (a2 == 45)))) else (if a2 ≥ 48 then (if a2 ≤ 57 then (tollbarlaw06_ScalarNames.j1 kj5 a0 (wrap64 ((Int.tmod (wrap64 (a1)) (a0.size : Int)) + 1)) (a0 ++ (strOfNums y165)) true) else (tollbarlaw06_ScalarNames.j1 kj5 a0 (wrap64 ((Int.tmod (wrap64 (a1)) (a0.size : Int)) + 1)) (a0 ++ (strOfNums y165)) (a2 == 45))) else (tollbarlaw06_ScalarNames.j1 kj5 a0 (wrap64 ((Int.tmod (wrap64 (a1)) (a0.size : Int)) + 1)) (a0 ++ (strOfNums y165)) (a2 == 45)))) else (none)))) = some r := by rw [if_neg (show ¬ (false = true) by decide)] at H; exact H
          clear H
          have H := H1
          clear H1
          by_cases c12 : (a0.size : Int) = 0
          · rw [if_pos c12] at H
            exact absurd H (by simp)
          · rw [if_neg c12] at H
            have c12b0 : ((a0.size : Int) == 0) = false := beq_eq_false_iff_ne.mpr c12
            have c12b1 : ((a0.size : Int) != 0) = true := bne_iff_ne.mpr c12
            obtain ⟨y165, hy165⟩ : ∃ y_ : List Int, y_ = (([a2] : List Int)) := ⟨_, rfl⟩
            replace H : (if a0.size + (strOfNums y165).size ≤ 9223372036854775807 then (if a2 ≥ 97 then (if a2 ≤ 122 then (tollbarlaw06_ScalarNames.j1 kj5 a0 (wrap64 ((Int.tmod (wrap64 (a1)) (a0.size : Int)) + 1)) (a0 ++ (strOfNums y165)) true) else (if a2 ≥ 48 then (if a2 ≤ 57 then (tollbarlaw06_ScalarNames.j1 kj5 a0 (wrap64 ((Int.tmod (wrap64 (a1)) (a0.size : Int)) + 1)) (a0 ++ (strOfNums y165)) true) else (tollbarlaw06_ScalarNames.j1 kj5 a0 (wrap64 ((Int.tmod (wrap64 (a1)) (a0.size : Int)) + 1)) (a0 ++ (strOfNums y165)) (a2 == 45))) else (tollbarlaw06_ScalarNames.j1 kj5 a0 (wrap64 ((Int.tmod (wrap64 (a1)) (a0.size : Int)) + 1)) (a0 ++ (strOfNums y165)) (a2 == 45)))) else (if a2 ≥ 48 then (if a2 ≤ 57 then (tollbarlaw06_ScalarNames.j1 kj5 a0 (wrap64 ((Int.tmod (wrap64 (a1)) (a0.size : Int)) + 1)) (a0 ++ (strOfNums y165)) true) else (tollbarlaw06_ScalarNames.j1 kj5 a0 (wrap64 ((Int.tmod (wrap64 (a1)) (a0.size : Int)) + 1)) (a0 ++ (strOfNums y165)) (a2 == 45))) else (tollbarlaw06_ScalarNames.j1 kj5 a0 (wrap64 ((Int.tmod (wrap64 (a1)) (a0.size : Int)) + 1)) (a0 ++ (strOfNums y165)) (a2 == 45)))) else (none)) = some r := by first | (rw [hy165]; with_reducible exact H) | (have H2_ := (Option.bind_some _ _).symm.trans H; rw [hy165]; with_reducible exact H2_) | (have H2_ := (Option.bind_some _ _).symm.trans H; with_reducible exact H2_) | with_reducible exact H | (rw [hy165]; exact H) | exact H
            have Ny165 := Aside0.mk hy165
            clear hy165
            by_cases c13 : a0.size + (strOfNums y165).size ≤ 9223372036854775807
            · rw [if_pos c13] at H
              have c13b0 := eq_true c13
              have c13b1 : decide (a0.size + (strOfNums y165).size ≤ 9223372036854775807) = true := decide_eq_true c13
              try have c13b2 : (9223372036854775807 < a0.size + (strOfNums y165).size) = False := eq_false (Nat.not_lt.2 c13)
              have HC14 := Aside0.mk H
              clear H
              go_upto_region 8 with (first | ((with_reducible refine gate_dst (N := 30) rfl ?_); (try (refine gate_guard (by rfl) ?_; dsimp only)); refine Kd.R_lit (Kd.int .u8) _ 5 ?hg (N := 30) ?hd (xs := ([a2] : List Int)) (inner := [.int .u8 a2]) (ok := fun _ => True) (okp := fun _ => True) ?hr ?hp (fun _ hk => hk) trivial (Below.refl _ _) (Nat.le_refl _) (by simp) ?_; (case hd => rfl); (case hg => rfl); (case hr => first | (go_simp; done) | (go_simp; rfl)); (case hp => exact (Reps.one (show Kd.M (Kd.int .u8) _ _ _ a2 [.int .u8 a2] from rfl) (Reps.none _ _))); intro v166 w15 ho16 hb hg_ hnew_; clear hg_ hnew_; (first | rw [← Ny165.out] at ho16 | (simp only [Int.reduceToNat] at ho16; rw [← Ny165.out] at ho16)); have n0_ := Aside0.mk (Kd.R_lower ho16 (below_size (by repeat (first | (with_reducible first | exact HB.out | apply below_alloc | apply pw_below_drewN | apply below_drew1) | exact HB.out)))); have n1_ := Aside0.mk (below_step (by repeat (first | (with_reducible first | exact HB.out | apply below_alloc | apply pw_below_drewN | apply below_drew1) | exact HB.out)) hb); clear HB; have HO167 := n0_; have HB := n1_; clear n0_ n1_; clear hb ho16; have hcv17 := own_string (P := Tryd.prog) Tryd.underlying30 Tryd.underlying5 Tryd.underlying9 (Kd.own_of_R HO167.out)))
              (try simp only [Act.put, List.setIfInBounds_toArray, List.set_cons_zero, List.set_cons_succ])
              go_cut [10] (fun v10 wc => ∃ (kq : Nat) (x10_13 : Bool), v10 = .bool x10_13 ∧ Aside0 (tollbarlaw06_ScalarNames.j1 kq a0 (wrap64 ((Int.tmod (wrap64 (a1)) (a0.size : Int)) + 1)) (a0 ++ (strOfNums y165)) x10_13 = some r) ∧ Aside0 (kq ≤ kj5) ∧ Aside0 (Below w.heap.size w wc))
              case first =>
                have H := HC14.out
                clear HC14
                by_cases c18 : a2 ≥ 97
                · rw [if_pos c18] at H
                  have c18b0 : decide (97 ≤ a2) = true := decide_eq_true c18
                  clear c18
                  (first | rw [c18b0] | (simp only [i64_w, i32_w]; rw [c18b0]) | skip)
                  by_cases c19 : a2 ≤ 122
                  · rw [if_pos c19] at H
                    have c19b0 : decide (a2 ≤ 122) = true := decide_eq_true c19
                    clear c19
                    have H' := Aside0.mk H
                    clear H
                    go_wp2
                    go_meet
                    case rel => exact ⟨_, (true), (by first | rfl | (simp; done) | (simp [*]; done) | exact congrArg Value.bool (isEmpty_ne _)), H', ⟨by have := HJ5.out; first | omega | exact Nat.le_refl _⟩, ⟨by repeat (first | (with_reducible first | exact HB.out | apply below_alloc | apply pw_below_drewN | apply below_drew1) | exact HB.out)⟩⟩
                  · rw [if_neg c19] at H
                    have c19b0 : decide (a2 ≤ 122) = false := decide_eq_false c19
                    clear c19
                    by_cases c20 : a2 ≥ 48
                    · rw [if_pos c20] at H
                      have c20b0 : decide (48 ≤ a2) = true := decide_eq_true c20
                      clear c20
                      by_cases c21 : a2 ≤ 57
                      · rw [if_pos c21] at H
                        have c21b0 : decide (a2 ≤ 57) = true := decide_eq_true c21
                        clear c21
                        have H' := Aside0.mk H
                        clear H
                        go_wp2
                        go_meet
                        case rel => exact ⟨_, (true), (by first | rfl | (simp; done) | (simp [*]; done) | exact congrArg Value.bool (isEmpty_ne _)), H', ⟨by have := HJ5.out; first | omega | exact Nat.le_refl _⟩, ⟨by repeat (first | (with_reducible first | exact HB.out | apply below_alloc | apply pw_below_drewN | apply below_drew1) | exact HB.out)⟩⟩
                      · rw [if_neg c21] at H
                        have c21b0 : decide (a2 ≤ 57) = false := decide_eq_false c21
                        clear c21
                        have H' := Aside0.mk H
                        clear H
                        go_wp2
                        go_meet
                        case rel => exact ⟨_, ((a2 == 45)), (by first | rfl | (simp; done) | (simp [*]; done) | exact congrArg Value.bool (isEmpty_ne _)), H', ⟨by have := HJ5.out; first | omega | exact Nat.le_refl _⟩, ⟨by repeat (first | (with_reducible first | exact HB.out | apply below_alloc | apply pw_below_drewN | apply below_drew1) | exact HB.out)⟩⟩
                    · rw [if_neg c20] at H
                      have c20b0 : decide (48 ≤ a2) = false := decide_eq_false c20
                      clear c20
                      have H' := Aside0.mk H
                      clear H
                      go_wp2
                      go_meet
                      case rel => exact ⟨_, ((a2 == 45)), (by first | rfl | (simp; done) | (simp [*]; done) | exact congrArg Value.bool (isEmpty_ne _)), H', ⟨by have := HJ5.out; first | omega | exact Nat.le_refl _⟩, ⟨by repeat (first | (with_reducible first | exact HB.out | apply below_alloc | apply pw_below_drewN | apply below_drew1) | exact HB.out)⟩⟩
                · rw [if_neg c18] at H
                  have c18b0 : decide (97 ≤ a2) = false := decide_eq_false c18
                  clear c18
                  (first | rw [c18b0] | (simp only [i64_w, i32_w]; rw [c18b0]) | skip)
                  by_cases c22 : a2 ≥ 48
                  · rw [if_pos c22] at H
                    have c22b0 : decide (48 ≤ a2) = true := decide_eq_true c22
                    clear c22
                    by_cases c23 : a2 ≤ 57
                    · rw [if_pos c23] at H
                      have c23b0 : decide (a2 ≤ 57) = true := decide_eq_true c23
                      clear c23
                      have H' := Aside0.mk H
                      clear H
                      go_wp2
                      go_meet
                      case rel => exact ⟨_, (true), (by first | rfl | (simp; done) | (simp [*]; done) | exact congrArg Value.bool (isEmpty_ne _)), H', ⟨by have := HJ5.out; first | omega | exact Nat.le_refl _⟩, ⟨by repeat (first | (with_reducible first | exact HB.out | apply below_alloc | apply pw_below_drewN | apply below_drew1) | exact HB.out)⟩⟩
                    · rw [if_neg c23] at H
                      have c23b0 : decide (a2 ≤ 57) = false := decide_eq_false c23
                      clear c23
                      have H' := Aside0.mk H
                      clear H
                      go_wp2
                      go_meet
                      case rel => exact ⟨_, ((a2 == 45)), (by first | rfl | (simp; done) | (simp [*]; done) | exact congrArg Value.bool (isEmpty_ne _)), H', ⟨by have := HJ5.out; first | omega | exact Nat.le_refl _⟩, ⟨by repeat (first | (with_reducible first | exact HB.out | apply below_alloc | apply pw_below_drewN | apply below_drew1) | exact HB.out)⟩⟩
                  · rw [if_neg c22] at H
                    have c22b0 : decide (48 ≤ a2) = false := decide_eq_false c22
                    clear c22
                    have H' := Aside0.mk H
                    clear H
                    go_wp2
                    go_meet
                    case rel => exact ⟨_, ((a2 == 45)), (by first | rfl | (simp; done) | (simp [*]; done) | exact congrArg Value.bool (isEmpty_ne _)), H', ⟨by have := HJ5.out; first | omega | exact Nat.le_refl _⟩, ⟨by repeat (first | (with_reducible first | exact HB.out | apply below_alloc | apply pw_below_drewN | apply below_drew1) | exact HB.out)⟩⟩
              case rest =>
                clear HC14
                try clear c1
                try clear hcv1
                try clear c2
                try clear p2
                try clear c5
                try clear c6
                try clear p6
                try clear c7
                try clear c8
                try clear c8b0
                try clear c8b1
                try clear c11
                try clear c12
                try clear c12b0
                try clear c12b1
                try clear c13
                try clear c13b0
                try clear c13b1
                try clear c13b2
                try clear hcv17
                try clear c18
                try clear c18b0
                try clear c19
                try clear c19b0
                try clear c20
                try clear c20b0
                try clear c21
                try clear c21b0
                try clear c22
                try clear c22b0
                try clear c23
                try clear c23b0
                try clear p2
                obtain ⟨kq, x10_13, rfl, HA, HJ13, HB⟩ := hcut
                cases kq with
                | zero => exact absurd HA.out (by simp [tollbarlaw06_ScalarNames.j1])
                | succ kj13 =>
                  have H := HA.out
                  clear HA
                  simp only [tollbarlaw06_ScalarNames.j1] at H
                  obtain ⟨ji24, hji24⟩ : ∃ j_ : Int, (wrap64 ((Int.tmod (wrap64 (a1)) (a0.size : Int)) + 1)) = j_ := ⟨_, rfl⟩
                  replace H : (if 0 ≤ (ji24) then (if (ji24) ≤ (a0.size : Int) then ((scalar_Ident.f (a0.extract 0 ((ji24) : Int).toNat)).bind fun t168 => (if t168 = true then ((scalar_Ident.f (a0 ++ (strOfNums y165))).bind fun t169 => (if x10_13 = true then (if (t169 == (decide ((a0.size : Int) < 12))) = true then (if 1 + a0.size ≤ 9223372036854775807 then ((scalar_Ident.f ((⟨#[45]⟩ : ByteArray) ++ a0)).bind fun t170 => (if t170 = true then (some false) else ((scalar_Ident.f ((⟨#[55]⟩ : ByteArray) ++ a0)).bind fun t171 => (if t171 = true then (some false) else (if a0.size + 1 ≤ 9223372036854775807 then ((scalar_Ident.f (a0 ++ (⟨#[65]⟩ : ByteArray))).bind fun t172 => (if t172 = true then (some false) else (some (decide ((a0.size : Int) ≤ 12))))) else (none)))))) else (none)) else (some false)) else (if (t169 == false) = true then (if 1 + a0.size ≤ 9223372036854775807 then ((scalar_Ident.f ((⟨#[45]⟩ : ByteArray) ++ a0)).bind fun t173 => (if t173 = true then (some false) else ((scalar_Ident.f ((⟨#[55]⟩ : ByteArray) ++ a0)).bind fun t174 => (if t174 = true then (some false) else (if a0.size + 1 ≤ 9223372036854775807 then ((scalar_Ident.f (a0 ++ (⟨#[65]⟩ : ByteArray))).bind fun t175 => (if t175 = true then (some false) else (some (decide ((a0.size : Int) ≤ 12))))) else (none)))))) else (none)) else (some false)))) else (some false))) else (none)) else (none)) = some r := by first | (rw [hji24] at H; exact H) | (simp only [hji24] at H ⊢; exact H)
                  have hji24w : (IntKind.i64.wrap ((Int.tmod (wrap64 (a1)) (a0.size : Int)) + 1)) = ji24 := (i64_w _).trans hji24
                  by_cases c25 : 0 ≤ (ji24)
                  · rw [if_pos c25] at H
                    have c25b0 := eq_true c25
                    have c25b1 : decide (0 ≤ (ji24)) = true := decide_eq_true c25
                    clear c25
                    by_cases c26 : (ji24) ≤ (a0.size : Int)
                    · rw [if_pos c26] at H
                      have c26b0 := eq_true c26
                      have c26b1 : decide ((ji24) ≤ (a0.size : Int)) = true := decide_eq_true c26
                      clear c26
                      replace H := Option.bind_eq_some_iff.mp H
                      obtain ⟨t168, A270, H⟩ := H
                      replace H : (if t168 = true then ((scalar_Ident.f (a0 ++ (strOfNums y165))).bind fun t169 => (if x10_13 = true then (if (t169 == (decide ((a0.size : Int) < 12))) = true then (if 1 + a0.size ≤ 9223372036854775807 then ((scalar_Ident.f ((⟨#[45]⟩ : ByteArray) ++ a0)).bind fun t170 => (if t170 = true then (some false) else ((scalar_Ident.f ((⟨#[55]⟩ : ByteArray) ++ a0)).bind fun t171 => (if t171 = true then (some false) else (if a0.size + 1 ≤ 9223372036854775807 then ((scalar_Ident.f (a0 ++ (⟨#[65]⟩ : ByteArray))).bind fun t172 => (if t172 = true then (some false) else (some (decide ((a0.size : Int) ≤ 12))))) else (none)))))) else (none)) else (some false)) else (if (t169 == false) = true then (if 1 + a0.size ≤ 9223372036854775807 then ((scalar_Ident.f ((⟨#[45]⟩ : ByteArray) ++ a0)).bind fun t173 => (if t173 = true then (some false) else ((scalar_Ident.f ((⟨#[55]⟩ : ByteArray) ++ a0)).bind fun t174 => (if t174 = true then (some false) else (if a0.size + 1 ≤ 9223372036854775807 then ((scalar_Ident.f (a0 ++ (⟨#[65]⟩ : ByteArray))).bind fun t175 => (if t175 = true then (some false) else (some (decide ((a0.size : Int) ≤ 12))))) else (none)))))) else (none)) else (some false)))) else (some false)) = some r := H
                      have A27 := Aside0.mk A270
                      clear A270
                      by_cases c28 : t168 = true
                      · subst c28
                        have H1 : ((scalar_Ident.f (a0 ++ (strOfNums y165))).bind fun t169 => (if x10_13 = true then (if (t169 == (decide ((a0.size : Int) < 12))) = true then (if 1 + a0.size ≤ 9223372036854775807 then ((scalar_Ident.f ((⟨#[45]⟩ : ByteArray) ++ a0)).bind fun t170 => (if t170 = true then (some false) else ((scalar_Ident.f ((⟨#[55]⟩ : ByteArray) ++ a0)).bind fun t171 => (if t171 = true then (some false) else (if a0.size + 1 ≤ 9223372036854775807 then ((scalar_Ident.f (a0 ++ (⟨#[65]⟩ : ByteArray))).bind fun t172 => (if t172 = true then (some false) else (some (decide ((a0.size : Int) ≤ 12))))) else (none)))))) else (none)) else (some false)) else (if (t169 == false) = true then (if 1 + a0.size ≤ 9223372036854775807 then ((scalar_Ident.f ((⟨#[45]⟩ : ByteArray) ++ a0)).bind fun t173 => (if t173 = true then (some false) else ((scalar_Ident.f ((⟨#[55]⟩ : ByteArray) ++ a0)).bind fun t174 => (if t174 = true then (some false) else (if a0.size + 1 ≤ 9223372036854775807 then ((scalar_Ident.f (a0 ++ (⟨#[65]⟩ : ByteArray))).bind fun t175 => (if t175 = true then (some false) else (some (decide ((a0.size : Int) ≤ 12))))) else (none)))))) else (none)) else (some false)))) = some r := by rw [if_pos rfl] at H; exact H
                        clear H
                        have H := H1
                        clear H1
                        replace H := Option.bind_eq_some_iff.mp H
                        obtain ⟨t169, A290, H⟩ := H
                        replace H : (if x10_13 = true then (if (t169 == (decide ((a0.size : Int) < 12))) = true then (if 1 + a0.size ≤ 9223372036854775807 then ((scalar_Ident.f ((⟨#[45]⟩ : ByteArray) ++ a0)).bind fun t170 => (if t170 = true then (some false) else ((scalar_Ident.f ((⟨#[55]⟩ : ByteArray) ++ a0)).bind fun t171 => (if t171 = true then (some false) else (if a0.size + 1 ≤ 9223372036854775807 then ((scalar_Ident.f (a0 ++ (⟨#[65]⟩ : ByteArray))).bind fun t172 => (if t172 = true then (some false) else (some (decide ((a0.size : Int) ≤ 12))))) else (none)))))) else (none)) else (some false)) else (if (t169 == false) = true then (if 1 + a0.size ≤ 9223372036854775807 then ((scalar_Ident.f ((⟨#[45]⟩ : ByteArray) ++ a0)).bind fun t173 => (if t173 = true then (some false) else ((scalar_Ident.f ((⟨#[55]⟩ : ByteArray) ++ a0)).bind fun t174 => (if t174 = true then (some false) else (if a0.size + 1 ≤ 9223372036854775807 then ((scalar_Ident.f (a0 ++ (⟨#[65]⟩ : ByteArray))).bind fun t175 => (if t175 = true then (some false) else (some (decide ((a0.size : Int) ≤ 12))))) else (none)))))) else (none)) else (some false))) = some r := H
                        have A29 := Aside0.mk A290
                        clear A290
                        by_cases c30 : x10_13 = true
                        · subst c30
                          have H1 : (if (t169 == (decide ((a0.size : Int) < 12))) = true then (if 1 + a0.size ≤ 9223372036854775807 then ((scalar_Ident.f ((⟨#[45]⟩ : ByteArray) ++ a0)).bind fun t170 => (if t170 = true then (some false) else ((scalar_Ident.f ((⟨#[55]⟩ : ByteArray) ++ a0)).bind fun t171 => (if t171 = true then (some false) else (if a0.size + 1 ≤ 9223372036854775807 then ((scalar_Ident.f (a0 ++ (⟨#[65]⟩ : ByteArray))).bind fun t172 => (if t172 = true then (some false) else (some (decide ((a0.size : Int) ≤ 12))))) else (none)))))) else (none)) else (some false)) = some r := by rw [if_pos rfl] at H; exact H
                          clear H
                          have H := H1
                          clear H1
                          by_cases c31 : (t169 == (decide ((a0.size : Int) < 12))) = true
                          · rw [if_pos c31] at H
                            have c31b0 : (t169 == (decide ((a0.size : Int) < 12))) = true := c31
                            (try (have c31b1 : decide (t169 = (decide ((a0.size : Int) < 12))) = true := by simpa using c31))
                            (try (have c31b2 : (t169 == (decide ((a0.size : Int) < 12))) = true := by simpa using c31))
                            clear c31
                            by_cases c32 : 1 + a0.size ≤ 9223372036854775807
                            · rw [if_pos c32] at H
                              have c32b0 := eq_true c32
                              have c32b1 : decide (1 + a0.size ≤ 9223372036854775807) = true := decide_eq_true c32
                              try have c32b2 : (9223372036854775807 < 1 + a0.size) = False := eq_false (Nat.not_lt.2 c32)
                              replace H := Option.bind_eq_some_iff.mp H
                              obtain ⟨t170, A330, H⟩ := H
                              replace H : (if t170 = true then (some false) else ((scalar_Ident.f ((⟨#[55]⟩ : ByteArray) ++ a0)).bind fun t171 => (if t171 = true then (some false) else (if a0.size + 1 ≤ 9223372036854775807 then ((scalar_Ident.f (a0 ++ (⟨#[65]⟩ : ByteArray))).bind fun t172 => (if t172 = true then (some false) else (some (decide ((a0.size : Int) ≤ 12))))) else (none))))) = some r := H
                              have A33 := Aside0.mk A330
                              clear A330
                              by_cases c34 : t170 = true
                              · subst c34
                                have H1 : (some false) = some r := by rw [if_pos rfl] at H; exact H
                                clear H
                                have H := H1
                                clear H1
                                obtain rfl := Option.some.inj H
                                go_wp2_with (first | ((with_reducible refine gate_callee (f := 12) rfl ?_); refine goesL_ (some 54) rfl rfl Tryd.func12 (by kernel_rfl) rfl #[.string (a0.extract 0 ((ji24) : Int).toNat)] rfl (by (try simp only [List.map_toArray, List.map_cons, List.map_nil]); first | done | (simp only [hji24]; rfl) | rfl | (simp only [List.length_drop, List.length_take]; rfl)) ?_; (with_reducible refine (scalar_Ident.calls (a0.extract 0 ((ji24) : Int).toNat) true _ A27.out).mono ?_); rintro e w35 ⟨rfl, hb⟩; refine ⟨_, rfl, ?_⟩; have n0_ := Aside0.mk (below_step (by repeat (first | (with_reducible first | exact HB.out | apply below_alloc | apply pw_below_drewN | apply below_drew1) | exact HB.out)) hb); clear HB; have HB := n0_; clear n0_; (try clear hb); (try clear hb2); (try clear hk); (try clear hi)) | (go_at_call 12; (with_reducible refine (scalar_Ident.calls (a0 ++ (strOfNums y165)) t169 _ A29.out).mono ?_); rintro e w36 ⟨rfl, hb⟩; have n0_ := Aside0.mk (below_step (by repeat (first | (with_reducible first | exact HB.out | apply below_alloc | apply pw_below_drewN | apply below_drew1) | exact HB.out)) hb); clear HB; have HB := n0_; clear n0_; (try clear hb); (try clear hb2); (try clear hk); (try clear hi)) | (go_at_call 12; (with_reducible refine (scalar_Ident.calls ((⟨#[45]⟩ : ByteArray) ++ a0) true _ A33.out).mono ?_); rintro e w37 ⟨rfl, hb⟩; have n0_ := Aside0.mk (below_step (by repeat (first | (with_reducible first | exact HB.out | apply below_alloc | apply pw_below_drewN | apply below_drew1) | exact HB.out)) hb); clear HB; have HB := n0_; clear n0_; (try clear hb); (try clear hb2); (try clear hk); (try clear hi)))
                                go_ret
                                exact ⟨by first | rfl | (simp [errW_none, errW_some] <;> rfl) | (simp only [← hji24]; first | rfl | (simp [errW_none, errW_some] <;> rfl)) | (simp [*, errW_none, errW_some] <;> rfl), by repeat (first | (with_reducible first | exact HB.out | apply below_alloc | apply pw_below_drewN | apply below_drew1) | exact HB.out)⟩
                              · replace c34 := Bool.eq_false_iff.mpr c34
                                subst c34
                                have H1 : ((scalar_Ident.f ((⟨#[55]⟩ : ByteArray) ++ a0)).bind fun t171 => (if t171 = true then (some false) else (if a0.size + 1 ≤ 9223372036854775807 then ((scalar_Ident.f (a0 ++ (⟨#[65]⟩ : ByteArray))).bind fun t172 => (if t172 = true then (some false) else (some (decide ((a0.size : Int) ≤ 12))))) else (none)))) = some r := by rw [if_neg (show ¬ (false = true) by decide)] at H; exact H
                                clear H
                                have H := H1
                                clear H1
                                replace H := Option.bind_eq_some_iff.mp H
                                obtain ⟨t171, A380, H⟩ := H
                                replace H : (if t171 = true then (some false) else (if a0.size + 1 ≤ 9223372036854775807 then ((scalar_Ident.f (a0 ++ (⟨#[65]⟩ : ByteArray))).bind fun t172 => (if t172 = true then (some false) else (some (decide ((a0.size : Int) ≤ 12))))) else (none))) = some r := H
                                have A38 := Aside0.mk A380
                                clear A380
                                by_cases c39 : t171 = true
                                · subst c39
                                  have H1 : (some false) = some r := by rw [if_pos rfl] at H; exact H
                                  clear H
                                  have H := H1
                                  clear H1
                                  obtain rfl := Option.some.inj H
                                  go_wp2_with (first | ((with_reducible refine gate_callee (f := 12) rfl ?_); refine goesL_ (some 54) rfl rfl Tryd.func12 (by kernel_rfl) rfl #[.string (a0.extract 0 ((ji24) : Int).toNat)] rfl (by (try simp only [List.map_toArray, List.map_cons, List.map_nil]); first | done | (simp only [hji24]; rfl) | rfl | (simp only [List.length_drop, List.length_take]; rfl)) ?_; (with_reducible refine (scalar_Ident.calls (a0.extract 0 ((ji24) : Int).toNat) true _ A27.out).mono ?_); rintro e w40 ⟨rfl, hb⟩; refine ⟨_, rfl, ?_⟩; have n0_ := Aside0.mk (below_step (by repeat (first | (with_reducible first | exact HB.out | apply below_alloc | apply pw_below_drewN | apply below_drew1) | exact HB.out)) hb); clear HB; have HB := n0_; clear n0_; (try clear hb); (try clear hb2); (try clear hk); (try clear hi)) | (go_at_call 12; (with_reducible refine (scalar_Ident.calls (a0 ++ (strOfNums y165)) t169 _ A29.out).mono ?_); rintro e w41 ⟨rfl, hb⟩; have n0_ := Aside0.mk (below_step (by repeat (first | (with_reducible first | exact HB.out | apply below_alloc | apply pw_below_drewN | apply below_drew1) | exact HB.out)) hb); clear HB; have HB := n0_; clear n0_; (try clear hb); (try clear hb2); (try clear hk); (try clear hi)) | (go_at_call 12; (with_reducible refine (scalar_Ident.calls ((⟨#[45]⟩ : ByteArray) ++ a0) false _ A33.out).mono ?_); rintro e w42 ⟨rfl, hb⟩; have n0_ := Aside0.mk (below_step (by repeat (first | (with_reducible first | exact HB.out | apply below_alloc | apply pw_below_drewN | apply below_drew1) | exact HB.out)) hb); clear HB; have HB := n0_; clear n0_; (try clear hb); (try clear hb2); (try clear hk); (try clear hi)) | (go_at_call 12; (with_reducible refine (scalar_Ident.calls ((⟨#[55]⟩ : ByteArray) ++ a0) true _ A38.out).mono ?_); rintro e w43 ⟨rfl, hb⟩; have n0_ := Aside0.mk (below_step (by repeat (first | (with_reducible first | exact HB.out | apply below_alloc | apply pw_below_drewN | apply below_drew1) | exact HB.out)) hb); clear HB; have HB := n0_; clear n0_; (try clear hb); (try clear hb2); (try clear hk); (try clear hi)))
                                  go_ret
                                  exact ⟨by first | rfl | (simp [errW_none, errW_some] <;> rfl) | (simp only [← hji24]; first | rfl | (simp [errW_none, errW_some] <;> rfl)) | (simp [*, errW_none, errW_some] <;> rfl), by repeat (first | (with_reducible first | exact HB.out | apply below_alloc | apply pw_below_drewN | apply below_drew1) | exact HB.out)⟩
                                · replace c39 := Bool.eq_false_iff.mpr c39
                                  subst c39
                                  have H1 : (if a0.size + 1 ≤ 9223372036854775807 then ((scalar_Ident.f (a0 ++ (⟨#[65]⟩ : ByteArray))).bind fun t172 => (if t172 = true then (some false) else (some (decide ((a0.size : Int) ≤ 12))))) else (none)) = some r := by rw [if_neg (show ¬ (false = true) by decide)] at H; exact H
                                  clear H
                                  have H := H1
                                  clear H1
                                  by_cases c44 : a0.size + 1 ≤ 9223372036854775807
                                  · rw [if_pos c44] at H
                                    have c44b0 := eq_true c44
                                    have c44b1 : decide (a0.size + 1 ≤ 9223372036854775807) = true := decide_eq_true c44
                                    try have c44b2 : (9223372036854775807 < a0.size + 1) = False := eq_false (Nat.not_lt.2 c44)
                                    replace H := Option.bind_eq_some_iff.mp H
                                    obtain ⟨t172, A450, H⟩ := H
                                    replace H : (if t172 = true then (some false) else (some (decide ((a0.size : Int) ≤ 12)))) = some r := H
                                    have A45 := Aside0.mk A450
                                    clear A450
                                    by_cases c46 : t172 = true
                                    · subst c46
                                      have H1 : (some false) = some r := by rw [if_pos rfl] at H; exact H
                                      clear H
                                      have H := H1
                                      clear H1
                                      obtain rfl := Option.some.inj H
                                      go_wp2_with (first | ((with_reducible refine gate_callee (f := 12) rfl ?_); refine goesL_ (some 54) rfl rfl Tryd.func12 (by kernel_rfl) rfl #[.string (a0.extract 0 ((ji24) : Int).toNat)] rfl (by (try simp only [List.map_toArray, List.map_cons, List.map_nil]); first | done | (simp only [hji24]; rfl) | rfl | (simp only [List.length_drop, List.length_take]; rfl)) ?_; (with_reducible refine (scalar_Ident.calls (a0.extract 0 ((ji24) : Int).toNat) true _ A27.out).mono ?_); rintro e w47 ⟨rfl, hb⟩; refine ⟨_, rfl, ?_⟩; have n0_ := Aside0.mk (below_step (by repeat (first | (with_reducible first | exact HB.out | apply below_alloc | apply pw_below_drewN | apply below_drew1) | exact HB.out)) hb); clear HB; have HB := n0_; clear n0_; (try clear hb); (try clear hb2); (try clear hk); (try clear hi)) | (go_at_call 12; (with_reducible refine (scalar_Ident.calls (a0 ++ (strOfNums y165)) t169 _ A29.out).mono ?_); rintro e w48 ⟨rfl, hb⟩; have n0_ := Aside0.mk (below_step (by repeat (first | (with_reducible first | exact HB.out | apply below_alloc | apply pw_below_drewN | apply below_drew1) | exact HB.out)) hb); clear HB; have HB := n0_; clear n0_; (try clear hb); (try clear hb2); (try clear hk); (try clear hi)) | (go_at_call 12; (with_reducible refine (scalar_Ident.calls ((⟨#[45]⟩ : ByteArray) ++ a0) false _ A33.out).mono ?_); rintro e w49 ⟨rfl, hb⟩; have n0_ := Aside0.mk (below_step (by repeat (first | (with_reducible first | exact HB.out | apply below_alloc | apply pw_below_drewN | apply below_drew1) | exact HB.out)) hb); clear HB; have HB := n0_; clear n0_; (try clear hb); (try clear hb2); (try clear hk); (try clear hi)) | (go_at_call 12; (with_reducible refine (scalar_Ident.calls ((⟨#[55]⟩ : ByteArray) ++ a0) false _ A38.out).mono ?_); rintro e w50 ⟨rfl, hb⟩; have n0_ := Aside0.mk (below_step (by repeat (first | (with_reducible first | exact HB.out | apply below_alloc | apply pw_below_drewN | apply below_drew1) | exact HB.out)) hb); clear HB; have HB := n0_; clear n0_; (try clear hb); (try clear hb2); (try clear hk); (try clear hi)) | (go_at_call 12; (with_reducible refine (scalar_Ident.calls (a0 ++ (⟨#[65]⟩ : ByteArray)) true _ A45.out).mono ?_); rintro e w51 ⟨rfl, hb⟩; have n0_ := Aside0.mk (below_step (by repeat (first | (with_reducible first | exact HB.out | apply below_alloc | apply pw_below_drewN | apply below_drew1) | exact HB.out)) hb); clear HB; have HB := n0_; clear n0_; (try clear hb); (try clear hb2); (try clear hk); (try clear hi)))
                                      go_ret
                                      exact ⟨by first | rfl | (simp [errW_none, errW_some] <;> rfl) | (simp only [← hji24]; first | rfl | (simp [errW_none, errW_some] <;> rfl)) | (simp [*, errW_none, errW_some] <;> rfl), by repeat (first | (with_reducible first | exact HB.out | apply below_alloc | apply pw_below_drewN | apply below_drew1) | exact HB.out)⟩
                                    · replace c46 := Bool.eq_false_iff.mpr c46
                                      subst c46
                                      have H1 : (some (decide ((a0.size : Int) ≤ 12))) = some r := by rw [if_neg (show ¬ (false = true) by decide)] at H; exact H
                                      clear H
                                      have H := H1
                                      clear H1
                                      obtain rfl := Option.some.inj H
                                      go_wp2_with (first | ((with_reducible refine gate_callee (f := 12) rfl ?_); refine goesL_ (some 54) rfl rfl Tryd.func12 (by kernel_rfl) rfl #[.string (a0.extract 0 ((ji24) : Int).toNat)] rfl (by (try simp only [List.map_toArray, List.map_cons, List.map_nil]); first | done | (simp only [hji24]; rfl) | rfl | (simp only [List.length_drop, List.length_take]; rfl)) ?_; (with_reducible refine (scalar_Ident.calls (a0.extract 0 ((ji24) : Int).toNat) true _ A27.out).mono ?_); rintro e w52 ⟨rfl, hb⟩; refine ⟨_, rfl, ?_⟩; have n0_ := Aside0.mk (below_step (by repeat (first | (with_reducible first | exact HB.out | apply below_alloc | apply pw_below_drewN | apply below_drew1) | exact HB.out)) hb); clear HB; have HB := n0_; clear n0_; (try clear hb); (try clear hb2); (try clear hk); (try clear hi)) | (go_at_call 12; (with_reducible refine (scalar_Ident.calls (a0 ++ (strOfNums y165)) t169 _ A29.out).mono ?_); rintro e w53 ⟨rfl, hb⟩; have n0_ := Aside0.mk (below_step (by repeat (first | (with_reducible first | exact HB.out | apply below_alloc | apply pw_below_drewN | apply below_drew1) | exact HB.out)) hb); clear HB; have HB := n0_; clear n0_; (try clear hb); (try clear hb2); (try clear hk); (try clear hi)) | (go_at_call 12; (with_reducible refine (scalar_Ident.calls ((⟨#[45]⟩ : ByteArray) ++ a0) false _ A33.out).mono ?_); rintro e w54 ⟨rfl, hb⟩; have n0_ := Aside0.mk (below_step (by repeat (first | (with_reducible first | exact HB.out | apply below_alloc | apply pw_below_drewN | apply below_drew1) | exact HB.out)) hb); clear HB; have HB := n0_; clear n0_; (try clear hb); (try clear hb2); (try clear hk); (try clear hi)) | (go_at_call 12; (with_reducible refine (scalar_Ident.calls ((⟨#[55]⟩ : ByteArray) ++ a0) false _ A38.out).mono ?_); rintro e w55 ⟨rfl, hb⟩; have n0_ := Aside0.mk (below_step (by repeat (first | (with_reducible first | exact HB.out | apply below_alloc | apply pw_below_drewN | apply below_drew1) | exact HB.out)) hb); clear HB; have HB := n0_; clear n0_; (try clear hb); (try clear hb2); (try clear hk); (try clear hi)) | (go_at_call 12; (with_reducible refine (scalar_Ident.calls (a0 ++ (⟨#[65]⟩ : ByteArray)) false _ A45.out).mono ?_); rintro e w56 ⟨rfl, hb⟩; have n0_ := Aside0.mk (below_step (by repeat (first | (with_reducible first | exact HB.out | apply below_alloc | apply pw_below_drewN | apply below_drew1) | exact HB.out)) hb); clear HB; have HB := n0_; clear n0_; (try clear hb); (try clear hb2); (try clear hk); (try clear hi)))
                                      go_ret
                                      exact ⟨by first | rfl | (simp [errW_none, errW_some] <;> rfl) | (simp only [← hji24]; first | rfl | (simp [errW_none, errW_some] <;> rfl)) | (simp [*, errW_none, errW_some] <;> rfl), by repeat (first | (with_reducible first | exact HB.out | apply below_alloc | apply pw_below_drewN | apply below_drew1) | exact HB.out)⟩
                                  · rw [if_neg c44] at H
                                    exact absurd H (by simp)
                            · rw [if_neg c32] at H
                              exact absurd H (by simp)
                          · rw [if_neg c31] at H
                            have c31b0 : (t169 == (decide ((a0.size : Int) < 12))) = false := by simpa using c31
                            (try (have c31b1 : decide (t169 = (decide ((a0.size : Int) < 12))) = false := by simpa using c31))
                            (try (have c31b2 : (t169 == (decide ((a0.size : Int) < 12))) = false := by simpa using c31))
                            (try (have c31b3 : ¬ (t169 = (decide ((a0.size : Int) < 12))) := by simpa using c31))
                            clear c31
                            obtain rfl := Option.some.inj H
                            go_wp2_with (first | ((with_reducible refine gate_callee (f := 12) rfl ?_); refine goesL_ (some 54) rfl rfl Tryd.func12 (by kernel_rfl) rfl #[.string (a0.extract 0 ((ji24) : Int).toNat)] rfl (by (try simp only [List.map_toArray, List.map_cons, List.map_nil]); first | done | (simp only [hji24]; rfl) | rfl | (simp only [List.length_drop, List.length_take]; rfl)) ?_; (with_reducible refine (scalar_Ident.calls (a0.extract 0 ((ji24) : Int).toNat) true _ A27.out).mono ?_); rintro e w57 ⟨rfl, hb⟩; refine ⟨_, rfl, ?_⟩; have n0_ := Aside0.mk (below_step (by repeat (first | (with_reducible first | exact HB.out | apply below_alloc | apply pw_below_drewN | apply below_drew1) | exact HB.out)) hb); clear HB; have HB := n0_; clear n0_; (try clear hb); (try clear hb2); (try clear hk); (try clear hi)) | (go_at_call 12; (with_reducible refine (scalar_Ident.calls (a0 ++ (strOfNums y165)) t169 _ A29.out).mono ?_); rintro e w58 ⟨rfl, hb⟩; have n0_ := Aside0.mk (below_step (by repeat (first | (with_reducible first | exact HB.out | apply below_alloc | apply pw_below_drewN | apply below_drew1) | exact HB.out)) hb); clear HB; have HB := n0_; clear n0_; (try clear hb); (try clear hb2); (try clear hk); (try clear hi)))
                            go_ret
                            exact ⟨by first | rfl | (simp [errW_none, errW_some] <;> rfl) | (simp only [← hji24]; first | rfl | (simp [errW_none, errW_some] <;> rfl)) | (simp [*, errW_none, errW_some] <;> rfl), by repeat (first | (with_reducible first | exact HB.out | apply below_alloc | apply pw_below_drewN | apply below_drew1) | exact HB.out)⟩
                        · replace c30 := Bool.eq_false_iff.mpr c30
                          subst c30
                          have H1 : (if (t169 == false) = true then (if 1 + a0.size ≤ 9223372036854775807 then ((scalar_Ident.f ((⟨#[45]⟩ : ByteArray) ++ a0)).bind fun t173 => (if t173 = true then (some false) else ((scalar_Ident.f ((⟨#[55]⟩ : ByteArray) ++ a0)).bind fun t174 => (if t174 = true then (some false) else (if a0.size + 1 ≤ 9223372036854775807 then ((scalar_Ident.f (a0 ++ (⟨#[65]⟩ : ByteArray))).bind fun t175 => (if t175 = true then (some false) else (some (decide ((a0.size : Int) ≤ 12))))) else (none)))))) else (none)) else (some false)) = some r := by rw [if_neg (show ¬ (false = true) by decide)] at H; exact H
                          clear H
                          have H := H1
                          clear H1
                          by_cases c59 : (t169 == false) = true
                          · rw [if_pos c59] at H
                            have c59b0 : (t169 == false) = true := c59
                            (try (have c59b1 : decide (t169 = false) = true := by simpa using c59))
                            (try (have c59b2 : (t169 == false) = true := by simpa using c59))
                            clear c59
                            by_cases c60 : 1 + a0.size ≤ 9223372036854775807
                            · rw [if_pos c60] at H
                              have c60b0 := eq_true c60
                              have c60b1 : decide (1 + a0.size ≤ 9223372036854775807) = true := decide_eq_true c60
                              try have c60b2 : (9223372036854775807 < 1 + a0.size) = False := eq_false (Nat.not_lt.2 c60)
                              replace H := Option.bind_eq_some_iff.mp H
                              obtain ⟨t173, A610, H⟩ := H
                              replace H : (if t173 = true then (some false) else ((scalar_Ident.f ((⟨#[55]⟩ : ByteArray) ++ a0)).bind fun t174 => (if t174 = true then (some false) else (if a0.size + 1 ≤ 9223372036854775807 then ((scalar_Ident.f (a0 ++ (⟨#[65]⟩ : ByteArray))).bind fun t175 => (if t175 = true then (some false) else (some (decide ((a0.size : Int) ≤ 12))))) else (none))))) = some r := H
                              have A61 := Aside0.mk A610
                              clear A610
                              by_cases c62 : t173 = true
                              · subst c62
                                have H1 : (some false) = some r := by rw [if_pos rfl] at H; exact H
                                clear H
                                have H := H1
                                clear H1
                                obtain rfl := Option.some.inj H
                                go_wp2_with (first | ((with_reducible refine gate_callee (f := 12) rfl ?_); refine goesL_ (some 54) rfl rfl Tryd.func12 (by kernel_rfl) rfl #[.string (a0.extract 0 ((ji24) : Int).toNat)] rfl (by (try simp only [List.map_toArray, List.map_cons, List.map_nil]); first | done | (simp only [hji24]; rfl) | rfl | (simp only [List.length_drop, List.length_take]; rfl)) ?_; (with_reducible refine (scalar_Ident.calls (a0.extract 0 ((ji24) : Int).toNat) true _ A27.out).mono ?_); rintro e w63 ⟨rfl, hb⟩; refine ⟨_, rfl, ?_⟩; have n0_ := Aside0.mk (below_step (by repeat (first | (with_reducible first | exact HB.out | apply below_alloc | apply pw_below_drewN | apply below_drew1) | exact HB.out)) hb); clear HB; have HB := n0_; clear n0_; (try clear hb); (try clear hb2); (try clear hk); (try clear hi)) | (go_at_call 12; (with_reducible refine (scalar_Ident.calls (a0 ++ (strOfNums y165)) t169 _ A29.out).mono ?_); rintro e w64 ⟨rfl, hb⟩; have n0_ := Aside0.mk (below_step (by repeat (first | (with_reducible first | exact HB.out | apply below_alloc | apply pw_below_drewN | apply below_drew1) | exact HB.out)) hb); clear HB; have HB := n0_; clear n0_; (try clear hb); (try clear hb2); (try clear hk); (try clear hi)) | (go_at_call 12; (with_reducible refine (scalar_Ident.calls ((⟨#[45]⟩ : ByteArray) ++ a0) true _ A61.out).mono ?_); rintro e w65 ⟨rfl, hb⟩; have n0_ := Aside0.mk (below_step (by repeat (first | (with_reducible first | exact HB.out | apply below_alloc | apply pw_below_drewN | apply below_drew1) | exact HB.out)) hb); clear HB; have HB := n0_; clear n0_; (try clear hb); (try clear hb2); (try clear hk); (try clear hi)))
                                go_ret
                                exact ⟨by first | rfl | (simp [errW_none, errW_some] <;> rfl) | (simp only [← hji24]; first | rfl | (simp [errW_none, errW_some] <;> rfl)) | (simp [*, errW_none, errW_some] <;> rfl), by repeat (first | (with_reducible first | exact HB.out | apply below_alloc | apply pw_below_drewN | apply below_drew1) | exact HB.out)⟩
                              · replace c62 := Bool.eq_false_iff.mpr c62
                                subst c62
                                have H1 : ((scalar_Ident.f ((⟨#[55]⟩ : ByteArray) ++ a0)).bind fun t174 => (if t174 = true then (some false) else (if a0.size + 1 ≤ 9223372036854775807 then ((scalar_Ident.f (a0 ++ (⟨#[65]⟩ : ByteArray))).bind fun t175 => (if t175 = true then (some false) else (some (decide ((a0.size : Int) ≤ 12))))) else (none)))) = some r := by rw [if_neg (show ¬ (false = true) by decide)] at H; exact H
                                clear H
                                have H := H1
                                clear H1
                                replace H := Option.bind_eq_some_iff.mp H
                                obtain ⟨t174, A660, H⟩ := H
                                replace H : (if t174 = true then (some false) else (if a0.size + 1 ≤ 9223372036854775807 then ((scalar_Ident.f (a0 ++ (⟨#[65]⟩ : ByteArray))).bind fun t175 => (if t175 = true then (some false) else (some (decide ((a0.size : Int) ≤ 12))))) else (none))) = some r := H
                                have A66 := Aside0.mk A660
                                clear A660
                                by_cases c67 : t174 = true
                                · subst c67
                                  have H1 : (some false) = some r := by rw [if_pos rfl] at H; exact H
                                  clear H
                                  have H := H1
                                  clear H1
                                  obtain rfl := Option.some.inj H
                                  go_wp2_with (first | ((with_reducible refine gate_callee (f := 12) rfl ?_); refine goesL_ (some 54) rfl rfl Tryd.func12 (by kernel_rfl) rfl #[.string (a0.extract 0 ((ji24) : Int).toNat)] rfl (by (try simp only [List.map_toArray, List.map_cons, List.map_nil]); first | done | (simp only [hji24]; rfl) | rfl | (simp only [List.length_drop, List.length_take]; rfl)) ?_; (with_reducible refine (scalar_Ident.calls (a0.extract 0 ((ji24) : Int).toNat) true _ A27.out).mono ?_); rintro e w68 ⟨rfl, hb⟩; refine ⟨_, rfl, ?_⟩; have n0_ := Aside0.mk (below_step (by repeat (first | (with_reducible first | exact HB.out | apply below_alloc | apply pw_below_drewN | apply below_drew1) | exact HB.out)) hb); clear HB; have HB := n0_; clear n0_; (try clear hb); (try clear hb2); (try clear hk); (try clear hi)) | (go_at_call 12; (with_reducible refine (scalar_Ident.calls (a0 ++ (strOfNums y165)) t169 _ A29.out).mono ?_); rintro e w69 ⟨rfl, hb⟩; have n0_ := Aside0.mk (below_step (by repeat (first | (with_reducible first | exact HB.out | apply below_alloc | apply pw_below_drewN | apply below_drew1) | exact HB.out)) hb); clear HB; have HB := n0_; clear n0_; (try clear hb); (try clear hb2); (try clear hk); (try clear hi)) | (go_at_call 12; (with_reducible refine (scalar_Ident.calls ((⟨#[45]⟩ : ByteArray) ++ a0) false _ A61.out).mono ?_); rintro e w70 ⟨rfl, hb⟩; have n0_ := Aside0.mk (below_step (by repeat (first | (with_reducible first | exact HB.out | apply below_alloc | apply pw_below_drewN | apply below_drew1) | exact HB.out)) hb); clear HB; have HB := n0_; clear n0_; (try clear hb); (try clear hb2); (try clear hk); (try clear hi)) | (go_at_call 12; (with_reducible refine (scalar_Ident.calls ((⟨#[55]⟩ : ByteArray) ++ a0) true _ A66.out).mono ?_); rintro e w71 ⟨rfl, hb⟩; have n0_ := Aside0.mk (below_step (by repeat (first | (with_reducible first | exact HB.out | apply below_alloc | apply pw_below_drewN | apply below_drew1) | exact HB.out)) hb); clear HB; have HB := n0_; clear n0_; (try clear hb); (try clear hb2); (try clear hk); (try clear hi)))
                                  go_ret
                                  exact ⟨by first | rfl | (simp [errW_none, errW_some] <;> rfl) | (simp only [← hji24]; first | rfl | (simp [errW_none, errW_some] <;> rfl)) | (simp [*, errW_none, errW_some] <;> rfl), by repeat (first | (with_reducible first | exact HB.out | apply below_alloc | apply pw_below_drewN | apply below_drew1) | exact HB.out)⟩
                                · replace c67 := Bool.eq_false_iff.mpr c67
                                  subst c67
                                  have H1 : (if a0.size + 1 ≤ 9223372036854775807 then ((scalar_Ident.f (a0 ++ (⟨#[65]⟩ : ByteArray))).bind fun t175 => (if t175 = true then (some false) else (some (decide ((a0.size : Int) ≤ 12))))) else (none)) = some r := by rw [if_neg (show ¬ (false = true) by decide)] at H; exact H
                                  clear H
                                  have H := H1
                                  clear H1
                                  by_cases c72 : a0.size + 1 ≤ 9223372036854775807
                                  · rw [if_pos c72] at H
                                    have c72b0 := eq_true c72
                                    have c72b1 : decide (a0.size + 1 ≤ 9223372036854775807) = true := decide_eq_true c72
                                    try have c72b2 : (9223372036854775807 < a0.size + 1) = False := eq_false (Nat.not_lt.2 c72)
                                    replace H := Option.bind_eq_some_iff.mp H
                                    obtain ⟨t175, A730, H⟩ := H
                                    replace H : (if t175 = true then (some false) else (some (decide ((a0.size : Int) ≤ 12)))) = some r := H
                                    have A73 := Aside0.mk A730
                                    clear A730
                                    by_cases c74 : t175 = true
                                    · subst c74
                                      have H1 : (some false) = some r := by rw [if_pos rfl] at H; exact H
                                      clear H
                                      have H := H1
                                      clear H1
                                      obtain rfl := Option.some.inj H
                                      go_wp2_with (first | ((with_reducible refine gate_callee (f := 12) rfl ?_); refine goesL_ (some 54) rfl rfl Tryd.func12 (by kernel_rfl) rfl #[.string (a0.extract 0 ((ji24) : Int).toNat)] rfl (by (try simp only [List.map_toArray, List.map_cons, List.map_nil]); first | done | (simp only [hji24]; rfl) | rfl | (simp only [List.length_drop, List.length_take]; rfl)) ?_; (with_reducible refine (scalar_Ident.calls (a0.extract 0 ((ji24) : Int).toNat) true _ A27.out).mono ?_); rintro e w75 ⟨rfl, hb⟩; refine ⟨_, rfl, ?_⟩; have n0_ := Aside0.mk (below_step (by repeat (first | (with_reducible first | exact HB.out | apply below_alloc | apply pw_below_drewN | apply below_drew1) | exact HB.out)) hb); clear HB; have HB := n0_; clear n0_; (try clear hb); (try clear hb2); (try clear hk); (try clear hi)) | (go_at_call 12; (with_reducible refine (scalar_Ident.calls (a0 ++ (strOfNums y165)) t169 _ A29.out).mono ?_); rintro e w76 ⟨rfl, hb⟩; have n0_ := Aside0.mk (below_step (by repeat (first | (with_reducible first | exact HB.out | apply below_alloc | apply pw_below_drewN | apply below_drew1) | exact HB.out)) hb); clear HB; have HB := n0_; clear n0_; (try clear hb); (try clear hb2); (try clear hk); (try clear hi)) | (go_at_call 12; (with_reducible refine (scalar_Ident.calls ((⟨#[45]⟩ : ByteArray) ++ a0) false _ A61.out).mono ?_); rintro e w77 ⟨rfl, hb⟩; have n0_ := Aside0.mk (below_step (by repeat (first | (with_reducible first | exact HB.out | apply below_alloc | apply pw_below_drewN | apply below_drew1) | exact HB.out)) hb); clear HB; have HB := n0_; clear n0_; (try clear hb); (try clear hb2); (try clear hk); (try clear hi)) | (go_at_call 12; (with_reducible refine (scalar_Ident.calls ((⟨#[55]⟩ : ByteArray) ++ a0) false _ A66.out).mono ?_); rintro e w78 ⟨rfl, hb⟩; have n0_ := Aside0.mk (below_step (by repeat (first | (with_reducible first | exact HB.out | apply below_alloc | apply pw_below_drewN | apply below_drew1) | exact HB.out)) hb); clear HB; have HB := n0_; clear n0_; (try clear hb); (try clear hb2); (try clear hk); (try clear hi)) | (go_at_call 12; (with_reducible refine (scalar_Ident.calls (a0 ++ (⟨#[65]⟩ : ByteArray)) true _ A73.out).mono ?_); rintro e w79 ⟨rfl, hb⟩; have n0_ := Aside0.mk (below_step (by repeat (first | (with_reducible first | exact HB.out | apply below_alloc | apply pw_below_drewN | apply below_drew1) | exact HB.out)) hb); clear HB; have HB := n0_; clear n0_; (try clear hb); (try clear hb2); (try clear hk); (try clear hi)))
                                      go_ret
                                      exact ⟨by first | rfl | (simp [errW_none, errW_some] <;> rfl) | (simp only [← hji24]; first | rfl | (simp [errW_none, errW_some] <;> rfl)) | (simp [*, errW_none, errW_some] <;> rfl), by repeat (first | (with_reducible first | exact HB.out | apply below_alloc | apply pw_below_drewN | apply below_drew1) | exact HB.out)⟩
                                    · replace c74 := Bool.eq_false_iff.mpr c74
                                      subst c74
                                      have H1 : (some (decide ((a0.size : Int) ≤ 12))) = some r := by rw [if_neg (show ¬ (false = true) by decide)] at H; exact H
                                      clear H
                                      have H := H1
                                      clear H1
                                      obtain rfl := Option.some.inj H
                                      go_wp2_with (first | ((with_reducible refine gate_callee (f := 12) rfl ?_); refine goesL_ (some 54) rfl rfl Tryd.func12 (by kernel_rfl) rfl #[.string (a0.extract 0 ((ji24) : Int).toNat)] rfl (by (try simp only [List.map_toArray, List.map_cons, List.map_nil]); first | done | (simp only [hji24]; rfl) | rfl | (simp only [List.length_drop, List.length_take]; rfl)) ?_; (with_reducible refine (scalar_Ident.calls (a0.extract 0 ((ji24) : Int).toNat) true _ A27.out).mono ?_); rintro e w80 ⟨rfl, hb⟩; refine ⟨_, rfl, ?_⟩; have n0_ := Aside0.mk (below_step (by repeat (first | (with_reducible first | exact HB.out | apply below_alloc | apply pw_below_drewN | apply below_drew1) | exact HB.out)) hb); clear HB; have HB := n0_; clear n0_; (try clear hb); (try clear hb2); (try clear hk); (try clear hi)) | (go_at_call 12; (with_reducible refine (scalar_Ident.calls (a0 ++ (strOfNums y165)) t169 _ A29.out).mono ?_); rintro e w81 ⟨rfl, hb⟩; have n0_ := Aside0.mk (below_step (by repeat (first | (with_reducible first | exact HB.out | apply below_alloc | apply pw_below_drewN | apply below_drew1) | exact HB.out)) hb); clear HB; have HB := n0_; clear n0_; (try clear hb); (try clear hb2); (try clear hk); (try clear hi)) | (go_at_call 12; (with_reducible refine (scalar_Ident.calls ((⟨#[45]⟩ : ByteArray) ++ a0) false _ A61.out).mono ?_); rintro e w82 ⟨rfl, hb⟩; have n0_ := Aside0.mk (below_step (by repeat (first | (with_reducible first | exact HB.out | apply below_alloc | apply pw_below_drewN | apply below_drew1) | exact HB.out)) hb); clear HB; have HB := n0_; clear n0_; (try clear hb); (try clear hb2); (try clear hk); (try clear hi)) | (go_at_call 12; (with_reducible refine (scalar_Ident.calls ((⟨#[55]⟩ : ByteArray) ++ a0) false _ A66.out).mono ?_); rintro e w83 ⟨rfl, hb⟩; have n0_ := Aside0.mk (below_step (by repeat (first | (with_reducible first | exact HB.out | apply below_alloc | apply pw_below_drewN | apply below_drew1) | exact HB.out)) hb); clear HB; have HB := n0_; clear n0_; (try clear hb); (try clear hb2); (try clear hk); (try clear hi)) | (go_at_call 12; (with_reducible refine (scalar_Ident.calls (a0 ++ (⟨#[65]⟩ : ByteArray)) false _ A73.out).mono ?_); rintro e w84 ⟨rfl, hb⟩; have n0_ := Aside0.mk (below_step (by repeat (first | (with_reducible first | exact HB.out | apply below_alloc | apply pw_below_drewN | apply below_drew1) | exact HB.out)) hb); clear HB; have HB := n0_; clear n0_; (try clear hb); (try clear hb2); (try clear hk); (try clear hi)))
                                      go_ret
                                      exact ⟨by first | rfl | (simp [errW_none, errW_some] <;> rfl) | (simp only [← hji24]; first | rfl | (simp [errW_none, errW_some] <;> rfl)) | (simp [*, errW_none, errW_some] <;> rfl), by repeat (first | (with_reducible first | exact HB.out | apply below_alloc | apply pw_below_drewN | apply below_drew1) | exact HB.out)⟩
                                  · rw [if_neg c72] at H
                                    exact absurd H (by simp)
                            · rw [if_neg c60] at H
                              exact absurd H (by simp)
                          · rw [if_neg c59] at H
                            have c59b0 : (t169 == false) = false := by simpa using c59
                            (try (have c59b1 : decide (t169 = false) = false := by simpa using c59))
                            (try (have c59b2 : (t169 == false) = false := by simpa using c59))
                            (try (have c59b3 : ¬ (t169 = false) := by simpa using c59))
                            clear c59
                            obtain rfl := Option.some.inj H
                            go_wp2_with (first | ((with_reducible refine gate_callee (f := 12) rfl ?_); refine goesL_ (some 54) rfl rfl Tryd.func12 (by kernel_rfl) rfl #[.string (a0.extract 0 ((ji24) : Int).toNat)] rfl (by (try simp only [List.map_toArray, List.map_cons, List.map_nil]); first | done | (simp only [hji24]; rfl) | rfl | (simp only [List.length_drop, List.length_take]; rfl)) ?_; (with_reducible refine (scalar_Ident.calls (a0.extract 0 ((ji24) : Int).toNat) true _ A27.out).mono ?_); rintro e w85 ⟨rfl, hb⟩; refine ⟨_, rfl, ?_⟩; have n0_ := Aside0.mk (below_step (by repeat (first | (with_reducible first | exact HB.out | apply below_alloc | apply pw_below_drewN | apply below_drew1) | exact HB.out)) hb); clear HB; have HB := n0_; clear n0_; (try clear hb); (try clear hb2); (try clear hk); (try clear hi)) | (go_at_call 12; (with_reducible refine (scalar_Ident.calls (a0 ++ (strOfNums y165)) t169 _ A29.out).mono ?_); rintro e w86 ⟨rfl, hb⟩; have n0_ := Aside0.mk (below_step (by repeat (first | (with_reducible first | exact HB.out | apply below_alloc | apply pw_below_drewN | apply below_drew1) | exact HB.out)) hb); clear HB; have HB := n0_; clear n0_; (try clear hb); (try clear hb2); (try clear hk); (try clear hi)))
                            go_ret
                            exact ⟨by first | rfl | (simp [errW_none, errW_some] <;> rfl) | (simp only [← hji24]; first | rfl | (simp [errW_none, errW_some] <;> rfl)) | (simp [*, errW_none, errW_some] <;> rfl), by repeat (first | (with_reducible first | exact HB.out | apply below_alloc | apply pw_below_drewN | apply below_drew1) | exact HB.out)⟩
                      · replace c28 := Bool.eq_false_iff.mpr c28
                        subst c28
                        have H1 : (some false) = some r := by rw [if_neg (show ¬ (false = true) by decide)] at H; exact H
                        clear H
                        have H := H1
                        clear H1
                        obtain rfl := Option.some.inj H
                        go_wp2_with (first | ((with_reducible refine gate_callee (f := 12) rfl ?_); refine goesL_ (some 54) rfl rfl Tryd.func12 (by kernel_rfl) rfl #[.string (a0.extract 0 ((ji24) : Int).toNat)] rfl (by (try simp only [List.map_toArray, List.map_cons, List.map_nil]); first | done | (simp only [hji24]; rfl) | rfl | (simp only [List.length_drop, List.length_take]; rfl)) ?_; (with_reducible refine (scalar_Ident.calls (a0.extract 0 ((ji24) : Int).toNat) false _ A27.out).mono ?_); rintro e w87 ⟨rfl, hb⟩; refine ⟨_, rfl, ?_⟩; have n0_ := Aside0.mk (below_step (by repeat (first | (with_reducible first | exact HB.out | apply below_alloc | apply pw_below_drewN | apply below_drew1) | exact HB.out)) hb); clear HB; have HB := n0_; clear n0_; (try clear hb); (try clear hb2); (try clear hk); (try clear hi)))
                        go_ret
                        exact ⟨by first | rfl | (simp [errW_none, errW_some] <;> rfl) | (simp only [← hji24]; first | rfl | (simp [errW_none, errW_some] <;> rfl)) | (simp [*, errW_none, errW_some] <;> rfl), by repeat (first | (with_reducible first | exact HB.out | apply below_alloc | apply pw_below_drewN | apply below_drew1) | exact HB.out)⟩
                    · rw [if_neg c26] at H
                      exact absurd H (by simp)
                  · rw [if_neg c25] at H
                    exact absurd H (by simp)
            · rw [if_neg c13] at H
              exact absurd H (by simp)
  · replace c5 := Bool.eq_false_iff.mpr c5
    subst c5
    have H1 : (some false) = some r := by rw [if_neg (show ¬ (false = true) by decide)] at H; exact H
    clear H
    have H := H1
    clear H1
    obtain rfl := Option.some.inj H
    go_enter Tryd.func6, Tryd.ntmps6
    go_wp2_with (first | ((with_reducible refine gate_callee (f := 7) rfl ?_); refine goesL_ (some 11) rfl rfl Tryd.func7 (by kernel_rfl) rfl #[] rfl (by (try simp only [List.map_toArray, List.map_cons, List.map_nil]); first | done | rfl | (simp only [List.length_drop, List.length_take]; rfl)) ?_; (with_reducible refine (tollbarlaw06_awake.calls  false _ (gOf HG0.out (by repeat (first | (with_reducible first | exact HB.out | apply below_alloc | apply pw_below_drewN | apply below_drew1) | exact HB.out))) A4.out).mono ?_); rintro e w88 ⟨rfl, hb⟩; refine ⟨_, rfl, ?_⟩; have n0_ := Aside0.mk (below_step (by repeat (first | (with_reducible first | exact HB.out | apply below_alloc | apply pw_below_drewN | apply below_drew1) | exact HB.out)) hb); clear HB; have HB := n0_; clear n0_; (try clear hb); (try clear hb2); (try clear hk); (try clear hi)))
    go_ret
    exact ⟨by first | rfl | (simp [errW_none, errW_some] <;> rfl) | (simp [*, errW_none, errW_some] <;> rfl), by repeat (first | (with_reducible first | exact HB.out | apply below_alloc | apply pw_below_drewN | apply below_drew1) | exact HB.out)⟩

/-- THE ONE PURE STATEMENT of tollbarlaw06_ScalarNames: yours. -/
def tollbarlaw06_ScalarNames.Pure : Prop := ∀ (a0 : ByteArray) (a1 : Int) (a2 : Int), a0.size ≤ 140737488351232 → (Lit.int .u8 a1).wf = true → (Lit.int .u8 a2).wf = true → ∃ k, tollbarlaw06_ScalarNames.f k a0 a1 a2 = some true

end Go.Proofs.YtdlkjcginamemaaDoor.QScalar
