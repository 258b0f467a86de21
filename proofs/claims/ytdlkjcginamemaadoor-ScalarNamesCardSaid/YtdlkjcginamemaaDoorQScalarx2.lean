-- laid by a program of this session (pp.sh) out of the translation
import Derived.Test.YtdlkjcginamemaaDoorQScalarx0
import Derived.Test.YtdlkjcginamemaaDoorQScalarx1
namespace Go.Proofs.YtdlkjcginamemaaDoor.QScalar
open Go.RowKit Go.Proofs.YtdlkjcginamemaaDoorW.PrintWords Go.Proofs.YtdlkjcginamemaaDoorW.PrintLast Go.Proofs.YtdlkjcginamemaaDoorW.PrintMore
open Go.Proofs.YtdlkjcginamemaaDoor.Scalar (G gOf)
attribute [local go_sem] max2_int min2_int max_two min_two max_three min_three max_four min_four   -- for this text's walks alone
set_option linter.unusedVariables false
set_option linter.unusedSimpArgs false

/-! ### tollbarref06_Rate: function 11 -/
mutual
def tollbarref06_Rate.j0 : Nat → ByteArray → Int → Bool → Option (Int × Bool)
  | 0, _, _, _ => none
  | k + 1, x0, x4, x16 => if x16 = true then (tollbarref06_Rate.j1 k x0 1000) else (tollbarref06_Rate.j1 k x0 x4)
def tollbarref06_Rate.j1 : Nat → ByteArray → Int → Option (Int × Bool)
  | 0, _, _ => none
  | k + 1, x0, x4 => if x0.toList = ([] : List UInt8) then (tollbarref06_Rate.j2 k x0 x4 false) else (if 0 ≤ (wrap64 ((x0.size : Int) - 1)) then (if (wrap64 ((x0.size : Int) - 1)) < (x0.size : Int) then (tollbarref06_Rate.j2 k x0 x4 ((bt x0 (wrap64 ((x0.size : Int) - 1))) == 109)) else (none)) else (none))
def tollbarref06_Rate.j2 : Nat → ByteArray → Int → Bool → Option (Int × Bool)
  | 0, _, _, _ => none
  | k + 1, x0, x4, x26 => if x26 = true then (tollbarref06_Rate.j3 k x0 1000000) else (tollbarref06_Rate.j3 k x0 x4)
def tollbarref06_Rate.j3 : Nat → ByteArray → Int → Option (Int × Bool)
  | 0, _, _ => none
  | k + 1, x0, x4 => if x4 > 1 then (if 0 ≤ (wrap64 ((x0.size : Int) - 1)) then (if (wrap64 ((x0.size : Int) - 1)) ≤ (x0.size : Int) then ((tollbarref06_Uint.f k (x0.extract 0 ((wrap64 ((x0.size : Int) - 1)) : Int).toNat)).bind fun bt121 => (if bt121.2 = true then (if x4 = 0 then (none) else (if bt121.1 > (IntKind.u64.wrap (Int.tdiv (18446744073709551615 : Int) x4)) then (some (0, false)) else (some (IntKind.u64.wrap (bt121.1 * x4), true)))) else (some (0, false)))) else (none)) else (none)) else ((tollbarref06_Uint.f k x0).bind fun bt123 => (if bt123.2 = true then (if x4 = 0 then (none) else (if bt123.1 > (IntKind.u64.wrap (Int.tdiv (18446744073709551615 : Int) x4)) then (some (0, false)) else (some (IntKind.u64.wrap (bt123.1 * x4), true)))) else (some (0, false))))
end
def tollbarref06_Rate.f (k : Nat) (a0 : ByteArray) : Option (Int × Bool) := if a0.toList = ([] : List UInt8) then (tollbarref06_Rate.j0 k a0 1 false) else (if 0 ≤ (wrap64 ((a0.size : Int) - 1)) then (if (wrap64 ((a0.size : Int) - 1)) < (a0.size : Int) then (tollbarref06_Rate.j0 k a0 1 ((bt a0 (wrap64 ((a0.size : Int) - 1))) == 107)) else (none)) else (none))
theorem tollbarref06_Rate.mono_l : ∀ k, (∀ y0 y1 y2, LeO (tollbarref06_Rate.j0 k y0 y1 y2) (tollbarref06_Rate.j0 (k + 1) y0 y1 y2)) ∧ (∀ y0 y1, LeO (tollbarref06_Rate.j1 k y0 y1) (tollbarref06_Rate.j1 (k + 1) y0 y1)) ∧ (∀ y0 y1 y2, LeO (tollbarref06_Rate.j2 k y0 y1 y2) (tollbarref06_Rate.j2 (k + 1) y0 y1 y2)) ∧ (∀ y0 y1, LeO (tollbarref06_Rate.j3 k y0 y1) (tollbarref06_Rate.j3 (k + 1) y0 y1))
  | 0 => ⟨fun _ _ _ r h => by simp [tollbarref06_Rate.j0] at h, fun _ _ r h => by simp [tollbarref06_Rate.j1] at h, fun _ _ _ r h => by simp [tollbarref06_Rate.j2] at h, fun _ _ r h => by simp [tollbarref06_Rate.j3] at h⟩
  | k + 1 => by
    obtain ⟨ih0, ih1, ih2, ih3⟩ := tollbarref06_Rate.mono_l k
    refine ⟨?_, ?_, ?_, ?_⟩
    · intro y0 y1 y2
      unfold tollbarref06_Rate.j0
      repeat' first
      | (with_reducible exact ih0 _ _ _)
      | (with_reducible exact ih1 _ _)
      | (with_reducible exact ih2 _ _ _)
      | (with_reducible exact ih3 _ _)
      | (with_reducible exact tollbarref06_Uint.mono _ _)
      | (with_reducible exact LeO.refl _)
      | (with_reducible exact LeO.none _)
      | (with_reducible refine LeO.ite ?_ ?_)
      | (with_reducible refine LeO.bind ?_ (fun _ => ?_))
      | exact ih0 _ _ _
      | exact ih1 _ _
      | exact ih2 _ _ _
      | exact ih3 _ _
      | exact tollbarref06_Uint.mono _ _
      | exact LeO.none _
      | refine LeO.ite ?_ ?_
      | refine LeO.bind ?_ (fun _ => ?_)
    · intro y0 y1
      unfold tollbarref06_Rate.j1
      repeat' first
      | (with_reducible exact ih0 _ _ _)
      | (with_reducible exact ih1 _ _)
      | (with_reducible exact ih2 _ _ _)
      | (with_reducible exact ih3 _ _)
      | (with_reducible exact tollbarref06_Uint.mono _ _)
      | (with_reducible exact LeO.refl _)
      | (with_reducible exact LeO.none _)
      | (with_reducible refine LeO.ite ?_ ?_)
      | (with_reducible refine LeO.bind ?_ (fun _ => ?_))
      | exact ih0 _ _ _
      | exact ih1 _ _
      | exact ih2 _ _ _
      | exact ih3 _ _
      | exact tollbarref06_Uint.mono _ _
      | exact LeO.none _
      | refine LeO.ite ?_ ?_
      | refine LeO.bind ?_ (fun _ => ?_)
    · intro y0 y1 y2
      unfold tollbarref06_Rate.j2
      repeat' first
      | (with_reducible exact ih0 _ _ _)
      | (with_reducible exact ih1 _ _)
      | (with_reducible exact ih2 _ _ _)
      | (with_reducible exact ih3 _ _)
      | (with_reducible exact tollbarref06_Uint.mono _ _)
      | (with_reducible exact LeO.refl _)
      | (with_reducible exact LeO.none _)
      | (with_reducible refine LeO.ite ?_ ?_)
      | (with_reducible refine LeO.bind ?_ (fun _ => ?_))
      | exact ih0 _ _ _
      | exact ih1 _ _
      | exact ih2 _ _ _
      | exact ih3 _ _
      | exact tollbarref06_Uint.mono _ _
      | exact LeO.none _
      | refine LeO.ite ?_ ?_
      | refine LeO.bind ?_ (fun _ => ?_)
    · intro y0 y1
      unfold tollbarref06_Rate.j3
      repeat' first
      | (with_reducible exact ih0 _ _ _)
      | (with_reducible exact ih1 _ _)
      | (with_reducible exact ih2 _ _ _)
      | (with_reducible exact ih3 _ _)
      | (with_reducible exact tollbarref06_Uint.mono _ _)
      | (with_reducible exact LeO.refl _)
      | (with_reducible exact LeO.none _)
      | (with_reducible refine LeO.ite ?_ ?_)
      | (with_reducible refine LeO.bind ?_ (fun _ => ?_))
      | exact ih0 _ _ _
      | exact ih1 _ _
      | exact ih2 _ _ _
      | exact ih3 _ _
      | exact tollbarref06_Uint.mono _ _
      | exact LeO.none _
      | refine LeO.ite ?_ ?_
      | refine LeO.bind ?_ (fun _ => ?_)
theorem tollbarref06_Rate.mono : ∀ a0 k, LeO (tollbarref06_Rate.f k a0) (tollbarref06_Rate.f (k + 1) a0) := by
  intro a0 k
  obtain ⟨ih0, ih1, ih2, ih3⟩ := tollbarref06_Rate.mono_l k
  unfold tollbarref06_Rate.f
  repeat' first
      | (with_reducible exact ih0 _ _ _)
      | (with_reducible exact ih1 _ _)
      | (with_reducible exact ih2 _ _ _)
      | (with_reducible exact ih3 _ _)
      | (with_reducible exact tollbarref06_Uint.mono _ _)
      | (with_reducible exact LeO.refl _)
      | (with_reducible exact LeO.none _)
      | (with_reducible refine LeO.ite ?_ ?_)
      | (with_reducible refine LeO.bind ?_ (fun _ => ?_))
      | exact ih0 _ _ _
      | exact ih1 _ _
      | exact ih2 _ _ _
      | exact ih3 _ _
      | exact tollbarref06_Uint.mono _ _
      | exact LeO.none _
      | refine LeO.ite ?_ ?_
      | refine LeO.bind ?_ (fun _ => ?_)
set_option maxHeartbeats 8000000 in
set_option maxRecDepth 100000 in
theorem tollbarref06_Rate.calls (k : Nat) (a0 : ByteArray) (r1 : Int) (r2 : Bool) (w : World) (h : tollbarref06_Rate.f k a0 = some (r1, r2)) :
    Calls Tryd.prog 11 #[.string a0] w fun e w' => e = .returned (.tuple #[.int .u64 r1, .bool r2]) ∧ Below w.heap.size w w' := by
  have HB := Aside0.mk (Below.refl w.heap.size w)
  have H : (if a0.toList = ([] : List UInt8) then (tollbarref06_Rate.j0 k a0 1 false) else (if 0 ≤ (wrap64 ((a0.size : Int) - 1)) then (if (wrap64 ((a0.size : Int) - 1)) < (a0.size : Int) then (tollbarref06_Rate.j0 k a0 1 ((bt a0 (wrap64 ((a0.size : Int) - 1))) == 107)) else (none)) else (none))) = some (r1, r2) := h
  clear h
  have HC2 := Aside0.mk H
  clear H
  go_enter Tryd.func11, Tryd.ntmps11
  go_upto_region 2 with (fail)
  go_cut [16] (fun v16 wc => ∃ (kq : Nat) (x16_1 : Bool), v16 = .bool x16_1 ∧ Aside0 (tollbarref06_Rate.j0 kq a0 1 x16_1 = some (r1, r2)) ∧ Aside0 (kq ≤ k) ∧ Aside0 (Below w.heap.size w wc))
  case first =>
    have H := HC2.out
    clear HC2
    by_cases c3 : a0.toList = ([] : List UInt8)
    · rw [if_pos c3] at H
      have c3b0 : (a0.toList == ([] : List UInt8)) = true := beq_iff_eq.mpr c3
      have c3b1 : (a0.toList != ([] : List UInt8)) = false := bne_eq_false_iff_eq.mpr c3
      clear c3
      (first | rw [c3b0] | (simp only [i64_w, i32_w]; rw [c3b0]) | skip)
      have H' := Aside0.mk H
      clear H
      go_wp2
      go_meet
      case rel => exact ⟨_, (false), (by first | rfl | (simp; done) | (simp [*]; done) | exact congrArg Value.bool (isEmpty_ne _)), H', ⟨by first | omega | exact Nat.le_refl _⟩, ⟨by repeat (first | (with_reducible first | exact HB.out | apply below_alloc | apply pw_below_drewN | apply below_drew1) | exact HB.out)⟩⟩
    · rw [if_neg c3] at H
      have c3b0 : (a0.toList == ([] : List UInt8)) = false := beq_eq_false_iff_ne.mpr c3
      have c3b1 : (a0.toList != ([] : List UInt8)) = true := bne_iff_ne.mpr c3
      (first | rw [c3b0] | (simp only [i64_w, i32_w]; rw [c3b0]) | skip)
      obtain ⟨ji4, hji4⟩ : ∃ j_ : Int, (wrap64 ((a0.size : Int) - 1)) = j_ := ⟨_, rfl⟩
      replace H : (if 0 ≤ (ji4) then (if (ji4) < (a0.size : Int) then (tollbarref06_Rate.j0 k a0 1 ((bt a0 (ji4)) == 107)) else (none)) else (none)) = some (r1, r2) := by first | (rw [hji4] at H; exact H) | (simp only [hji4] at H ⊢; exact H)
      have hji4w : (IntKind.i64.wrap ((a0.size : Int) - 1)) = ji4 := (i64_w _).trans hji4
      by_cases c5 : 0 ≤ (ji4)
      · rw [if_pos c5] at H
        have c5b0 : decide (0 ≤ (ji4)) = true := decide_eq_true c5
        clear c5
        by_cases c6 : (ji4) < (a0.size : Int)
        · rw [if_pos c6] at H
          have c6b0 : decide ((ji4) < (a0.size : Int)) = true := decide_eq_true c6
          clear c6
          have H' := Aside0.mk H
          clear H
          have p7 : 0 ≤ ((ji4) : Int) := of_decide_eq_true (by first | (with_reducible assumption) | assumption)
          have q7 : (ji4) < (a0.size : Int) := of_decide_eq_true (by first | (with_reducible assumption) | assumption)
          have hx7 := bt_at a0 (ji4)
          replace p7 := eq_true p7
          replace q7 := eq_true q7
          go_wp2
          go_meet
          case rel => exact ⟨_, (((bt a0 (ji4)) == 107)), (by first | rfl | (simp; done) | (simp only [← hji4] <;> (first | rfl | simp)) | (simp [*]; done)), H', ⟨by first | omega | exact Nat.le_refl _⟩, ⟨by repeat (first | (with_reducible first | exact HB.out | apply below_alloc | apply pw_below_drewN | apply below_drew1) | exact HB.out)⟩⟩
        · rw [if_neg c6] at H
          exact absurd H (by simp)
      · rw [if_neg c5] at H
        exact absurd H (by simp)
  case rest =>
    clear HC2
    try clear c1
    try clear p2
    try clear c3
    try clear c3b0
    try clear c3b1
    try clear c5
    try clear c5b0
    try clear c6
    try clear c6b0
    try clear p6
    try clear p7
    try clear q7
    try clear hx7
    try clear p7
    try clear q7
    obtain ⟨kq, x16_1, rfl, HA, HJ1, HB⟩ := hcut
    cases kq with
    | zero => exact absurd HA.out (by simp [tollbarref06_Rate.j0])
    | succ kj1 =>
      have H := HA.out
      clear HA
      simp only [tollbarref06_Rate.j0] at H
      have HC8 := Aside0.mk H
      clear H
      go_upto_if 16 with (fail)
      go_cut [4] (fun v4 wc => ∃ (kq : Nat) (x4_7 : Int), v4 = .int .u64 x4_7 ∧ Aside0 (tollbarref06_Rate.j1 kq a0 x4_7 = some (r1, r2)) ∧ Aside0 (kq ≤ kj1) ∧ Aside0 (Below w.heap.size w wc))
      case first =>
        have H := HC8.out
        clear HC8
        by_cases c9 : x16_1 = true
        · subst c9
          have H1 : (tollbarref06_Rate.j1 kj1 a0 1000) = some (r1, r2) := by rw [if_pos rfl] at H; exact H
          clear H
          have H := H1
          clear H1
          have H' := Aside0.mk H
          clear H
          go_wp2
          go_meet
          case rel => exact ⟨_, (1000), (by first | rfl | (simp; done) | (simp [*]; done) | exact congrArg Value.bool (isEmpty_ne _)), H', ⟨by have := HJ1.out; first | omega | exact Nat.le_refl _⟩, ⟨by repeat (first | (with_reducible first | exact HB.out | apply below_alloc | apply pw_below_drewN | apply below_drew1) | exact HB.out)⟩⟩
        · replace c9 := Bool.eq_false_iff.mpr c9
          subst c9
          have H1 : (tollbarref06_Rate.j1 kj1 a0 1) = some (r1, r2) := by rw [if_neg (show ¬ (false = true) by decide)] at H; exact H
          clear H
          have H := H1
          clear H1
          have H' := Aside0.mk H
          clear H
          go_wp2
          go_meet
          case rel => exact ⟨_, (1), (by first | rfl | (simp; done) | (simp [*]; done) | exact congrArg Value.bool (isEmpty_ne _)), H', ⟨by have := HJ1.out; first | omega | exact Nat.le_refl _⟩, ⟨by repeat (first | (with_reducible first | exact HB.out | apply below_alloc | apply pw_below_drewN | apply below_drew1) | exact HB.out)⟩⟩
      case rest =>
        clear HC8
        try clear c1
        try clear p2
        try clear c3
        try clear c3b0
        try clear c3b1
        try clear c5
        try clear c5b0
        try clear c6
        try clear c6b0
        try clear p6
        try clear p7
        try clear q7
        try clear hx7
        try clear c9
        try clear p2
        try clear p6
        try clear p7
        try clear q7
        obtain ⟨kq, x4_7, rfl, HA, HJ7, HB⟩ := hcut
        cases kq with
        | zero => exact absurd HA.out (by simp [tollbarref06_Rate.j1])
        | succ kj7 =>
          have H := HA.out
          clear HA
          simp only [tollbarref06_Rate.j1] at H
          have HC10 := Aside0.mk H
          clear H
          go_upto_region 4 with (fail)
          go_cut [26] (fun v26 wc => ∃ (kq : Nat) (x26_9 : Bool), v26 = .bool x26_9 ∧ Aside0 (tollbarref06_Rate.j2 kq a0 x4_7 x26_9 = some (r1, r2)) ∧ Aside0 (kq ≤ kj7) ∧ Aside0 (Below w.heap.size w wc))
          case first =>
            have H := HC10.out
            clear HC10
            by_cases c11 : a0.toList = ([] : List UInt8)
            · rw [if_pos c11] at H
              have c11b0 : (a0.toList == ([] : List UInt8)) = true := beq_iff_eq.mpr c11
              have c11b1 : (a0.toList != ([] : List UInt8)) = false := bne_eq_false_iff_eq.mpr c11
              clear c11
              (first | rw [c11b0] | (simp only [i64_w, i32_w]; rw [c11b0]) | skip)
              have H' := Aside0.mk H
              clear H
              go_wp2
              go_meet
              case rel => exact ⟨_, (false), (by first | rfl | (simp; done) | (simp [*]; done) | exact congrArg Value.bool (isEmpty_ne _)), H', ⟨by have := HJ1.out; have := HJ7.out; first | omega | exact Nat.le_refl _⟩, ⟨by repeat (first | (with_reducible first | exact HB.out | apply below_alloc | apply pw_below_drewN | apply below_drew1) | exact HB.out)⟩⟩
            · rw [if_neg c11] at H
              have c11b0 : (a0.toList == ([] : List UInt8)) = false := beq_eq_false_iff_ne.mpr c11
              have c11b1 : (a0.toList != ([] : List UInt8)) = true := bne_iff_ne.mpr c11
              (first | rw [c11b0] | (simp only [i64_w, i32_w]; rw [c11b0]) | skip)
              obtain ⟨ji12, hji12⟩ : ∃ j_ : Int, (wrap64 ((a0.size : Int) - 1)) = j_ := ⟨_, rfl⟩
              replace H : (if 0 ≤ (ji12) then (if (ji12) < (a0.size : Int) then (tollbarref06_Rate.j2 kj7 a0 x4_7 ((bt a0 (ji12)) == 109)) else (none)) else (none)) = some (r1, r2) := by first | (rw [hji12] at H; exact H) | (simp only [hji12] at H ⊢; exact H)
              have hji12w : (IntKind.i64.wrap ((a0.size : Int) - 1)) = ji12 := (i64_w _).trans hji12
              by_cases c13 : 0 ≤ (ji12)
              · rw [if_pos c13] at H
                have c13b0 : decide (0 ≤ (ji12)) = true := decide_eq_true c13
                clear c13
                by_cases c14 : (ji12) < (a0.size : Int)
                · rw [if_pos c14] at H
                  have c14b0 : decide ((ji12) < (a0.size : Int)) = true := decide_eq_true c14
                  clear c14
                  have H' := Aside0.mk H
                  clear H
                  have p15 : 0 ≤ ((ji12) : Int) := of_decide_eq_true (by first | (with_reducible assumption) | assumption)
                  have q15 : (ji12) < (a0.size : Int) := of_decide_eq_true (by first | (with_reducible assumption) | assumption)
                  have hx15 := bt_at a0 (ji12)
                  replace p15 := eq_true p15
                  replace q15 := eq_true q15
                  go_wp2
                  go_meet
                  case rel => exact ⟨_, (((bt a0 (ji12)) == 109)), (by first | rfl | (simp; done) | (simp only [← hji12] <;> (first | rfl | simp)) | (simp [*]; done)), H', ⟨by have := HJ1.out; have := HJ7.out; first | omega | exact Nat.le_refl _⟩, ⟨by repeat (first | (with_reducible first | exact HB.out | apply below_alloc | apply pw_below_drewN | apply below_drew1) | exact HB.out)⟩⟩
                · rw [if_neg c14] at H
                  exact absurd H (by simp)
              · rw [if_neg c13] at H
                exact absurd H (by simp)
          case rest =>
            clear HC10
            try clear c1
            try clear p1
            try clear q1
            try clear hx1
            try clear p2
            try clear c3
            try clear c3b0
            try clear c3b1
            try clear c5
            try clear c5b0
            try clear c6
            try clear c6b0
            try clear p6
            try clear p7
            try clear q7
            try clear hx7
            try clear c9
            try clear c11
            try clear c11b0
            try clear c11b1
            try clear c13
            try clear c13b0
            try clear c14
            try clear c14b0
            try clear p15
            try clear q15
            try clear hx15
            try clear p15
            try clear p2
            try clear p6
            try clear p7
            try clear q15
            try clear q7
            obtain ⟨kq, x26_9, rfl, HA, HJ9, HB⟩ := hcut
            cases kq with
            | zero => exact absurd HA.out (by simp [tollbarref06_Rate.j2])
            | succ kj9 =>
              have H := HA.out
              clear HA
              simp only [tollbarref06_Rate.j2] at H
              have HC16 := Aside0.mk H
              clear H
              go_upto_if 26 with (fail)
              go_cut [4] (fun v4 wc => ∃ (kq : Nat) (x4_15 : Int), v4 = .int .u64 x4_15 ∧ Aside0 (tollbarref06_Rate.j3 kq a0 x4_15 = some (r1, r2)) ∧ Aside0 (kq ≤ kj9) ∧ Aside0 (Below w.heap.size w wc))
              case first =>
                have H := HC16.out
                clear HC16
                by_cases c17 : x26_9 = true
                · subst c17
                  have H1 : (tollbarref06_Rate.j3 kj9 a0 1000000) = some (r1, r2) := by rw [if_pos rfl] at H; exact H
                  clear H
                  have H := H1
                  clear H1
                  have H' := Aside0.mk H
                  clear H
                  go_wp2
                  go_meet
                  case rel => exact ⟨_, (1000000), (by first | rfl | (simp; done) | (simp [*]; done) | exact congrArg Value.bool (isEmpty_ne _)), H', ⟨by have := HJ1.out; have := HJ7.out; have := HJ9.out; first | omega | exact Nat.le_refl _⟩, ⟨by repeat (first | (with_reducible first | exact HB.out | apply below_alloc | apply pw_below_drewN | apply below_drew1) | exact HB.out)⟩⟩
                · replace c17 := Bool.eq_false_iff.mpr c17
                  subst c17
                  have H1 : (tollbarref06_Rate.j3 kj9 a0 x4_7) = some (r1, r2) := by rw [if_neg (show ¬ (false = true) by decide)] at H; exact H
                  clear H
                  have H := H1
                  clear H1
                  have H' := Aside0.mk H
                  clear H
                  go_wp2
                  go_meet
                  case rel => exact ⟨_, (x4_7), (by first | rfl | (simp; done) | (simp [*]; done) | exact congrArg Value.bool (isEmpty_ne _)), H', ⟨by have := HJ1.out; have := HJ7.out; have := HJ9.out; first | omega | exact Nat.le_refl _⟩, ⟨by repeat (first | (with_reducible first | exact HB.out | apply below_alloc | apply pw_below_drewN | apply below_drew1) | exact HB.out)⟩⟩
              case rest =>
                clear HC16
                try clear c1
                try clear p1
                try clear q1
                try clear hx1
                try clear p2
                try clear c3
                try clear c3b0
                try clear c3b1
                try clear c5
                try clear c5b0
                try clear c6
                try clear c6b0
                try clear p6
                try clear p7
                try clear q7
                try clear hx7
                try clear c9
                try clear c11
                try clear c11b0
                try clear c11b1
                try clear c13
                try clear c13b0
                try clear c14
                try clear c14b0
                try clear p15
                try clear q15
                try clear hx15
                try clear c17
                try clear p1
                try clear p15
                try clear p2
                try clear p6
                try clear p7
                try clear q1
                try clear q15
                try clear q7
                obtain ⟨kq, x4_15, rfl, HA, HJ15, HB⟩ := hcut
                cases kq with
                | zero => exact absurd HA.out (by simp [tollbarref06_Rate.j3])
                | succ kj15 =>
                  have H := HA.out
                  clear HA
                  simp only [tollbarref06_Rate.j3] at H
                  by_cases c18 : x4_15 > 1
                  · rw [if_pos c18] at H
                    have c18b0 : decide (1 < x4_15) = true := decide_eq_true c18
                    clear c18
                    obtain ⟨ji19, hji19⟩ : ∃ j_ : Int, (wrap64 ((a0.size : Int) - 1)) = j_ := ⟨_, rfl⟩
                    replace H : (if 0 ≤ (ji19) then (if (ji19) ≤ (a0.size : Int) then ((tollbarref06_Uint.f kj15 (a0.extract 0 ((ji19) : Int).toNat)).bind fun bt121 => (if bt121.2 = true then (if x4_15 = 0 then (none) else (if bt121.1 > (IntKind.u64.wrap (Int.tdiv (18446744073709551615 : Int) x4_15)) then (some (0, false)) else (some (IntKind.u64.wrap (bt121.1 * x4_15), true)))) else (some (0, false)))) else (none)) else (none)) = some (r1, r2) := by first | (rw [hji19] at H; exact H) | (simp only [hji19] at H ⊢; exact H)
                    have hji19w : (IntKind.i64.wrap ((a0.size : Int) - 1)) = ji19 := (i64_w _).trans hji19
                    by_cases c20 : 0 ≤ (ji19)
                    · rw [if_pos c20] at H
                      have c20b0 := eq_true c20
                      have c20b1 : decide (0 ≤ (ji19)) = true := decide_eq_true c20
                      clear c20
                      by_cases c21 : (ji19) ≤ (a0.size : Int)
                      · rw [if_pos c21] at H
                        have c21b0 := eq_true c21
                        have c21b1 : decide ((ji19) ≤ (a0.size : Int)) = true := decide_eq_true c21
                        clear c21
                        replace H := Option.bind_eq_some_iff.mp H
                        obtain ⟨⟨t121, t122⟩, A220, H⟩ := H
                        replace H : (if t122 = true then (if x4_15 = 0 then (none) else (if t121 > (IntKind.u64.wrap (Int.tdiv (18446744073709551615 : Int) x4_15)) then (some (0, false)) else (some (IntKind.u64.wrap (t121 * x4_15), true)))) else (some (0, false))) = some (r1, r2) := H
                        have A22 := Aside0.mk A220
                        clear A220
                        by_cases c23 : t122 = true
                        · subst c23
                          have H1 : (if x4_15 = 0 then (none) else (if t121 > (IntKind.u64.wrap (Int.tdiv (18446744073709551615 : Int) x4_15)) then (some (0, false)) else (some (IntKind.u64.wrap (t121 * x4_15), true)))) = some (r1, r2) := by rw [if_pos rfl] at H; exact H
                          clear H
                          have H := H1
                          clear H1
                          by_cases c24 : x4_15 = 0
                          · rw [if_pos c24] at H
                            exact absurd H (by simp)
                          · rw [if_neg c24] at H
                            have c24b0 : (x4_15 == 0) = false := beq_eq_false_iff_ne.mpr c24
                            have c24b1 : (x4_15 != 0) = true := bne_iff_ne.mpr c24
                            by_cases c25 : t121 > (IntKind.u64.wrap (Int.tdiv (18446744073709551615 : Int) x4_15))
                            · rw [if_pos c25] at H
                              have c25b0 : decide ((IntKind.u64.wrap (Int.tdiv (18446744073709551615 : Int) x4_15)) < t121) = true := decide_eq_true c25
                              clear c25
                              simp only [Option.some.injEq, Prod.mk.injEq] at H
                              obtain ⟨rfl, rfl⟩ := H
                              go_wp2_with (first | ((with_reducible refine gate_callee (f := 9) rfl ?_); refine goesL_ (some 36) rfl rfl Tryd.func9 (by kernel_rfl) rfl #[.string (a0.extract 0 ((ji19) : Int).toNat)] rfl (by (try simp only [List.map_toArray, List.map_cons, List.map_nil]); first | done | (simp only [hji19]; rfl) | rfl | (simp only [List.length_drop, List.length_take]; rfl)) ?_; (with_reducible refine (tollbarref06_Uint.calls kj15 (a0.extract 0 ((ji19) : Int).toNat) t121 true _ A22.out).mono ?_); rintro e w26 ⟨rfl, hb⟩; refine ⟨_, rfl, ?_⟩; have n0_ := Aside0.mk (below_step (by repeat (first | (with_reducible first | exact HB.out | apply below_alloc | apply pw_below_drewN | apply below_drew1) | exact HB.out)) hb); clear HB; have HB := n0_; clear n0_; (try clear hb); (try clear hb2); (try clear hk); (try clear hi)))
                              go_ret2
                              exact ⟨by first | rfl | (simp [errW_none, errW_some] <;> rfl) | (simp only [← hji19]; first | rfl | (simp [errW_none, errW_some] <;> rfl)) | (simp [*, errW_none, errW_some] <;> rfl), by repeat (first | (with_reducible first | exact HB.out | apply below_alloc | apply pw_below_drewN | apply below_drew1) | exact HB.out)⟩
                            · rw [if_neg c25] at H
                              have c25b0 : decide ((IntKind.u64.wrap (Int.tdiv (18446744073709551615 : Int) x4_15)) < t121) = false := decide_eq_false c25
                              clear c25
                              simp only [Option.some.injEq, Prod.mk.injEq] at H
                              obtain ⟨rfl, rfl⟩ := H
                              go_wp2_with (first | ((with_reducible refine gate_callee (f := 9) rfl ?_); refine goesL_ (some 36) rfl rfl Tryd.func9 (by kernel_rfl) rfl #[.string (a0.extract 0 ((ji19) : Int).toNat)] rfl (by (try simp only [List.map_toArray, List.map_cons, List.map_nil]); first | done | (simp only [hji19]; rfl) | rfl | (simp only [List.length_drop, List.length_take]; rfl)) ?_; (with_reducible refine (tollbarref06_Uint.calls kj15 (a0.extract 0 ((ji19) : Int).toNat) t121 true _ A22.out).mono ?_); rintro e w27 ⟨rfl, hb⟩; refine ⟨_, rfl, ?_⟩; have n0_ := Aside0.mk (below_step (by repeat (first | (with_reducible first | exact HB.out | apply below_alloc | apply pw_below_drewN | apply below_drew1) | exact HB.out)) hb); clear HB; have HB := n0_; clear n0_; (try clear hb); (try clear hb2); (try clear hk); (try clear hi)))
                              go_ret2
                              exact ⟨by first | rfl | (simp [errW_none, errW_some] <;> rfl) | (simp only [← hji19]; first | rfl | (simp [errW_none, errW_some] <;> rfl)) | (simp [*, errW_none, errW_some] <;> rfl), by repeat (first | (with_reducible first | exact HB.out | apply below_alloc | apply pw_below_drewN | apply below_drew1) | exact HB.out)⟩
                        · replace c23 := Bool.eq_false_iff.mpr c23
                          subst c23
                          have H1 : (some (0, false)) = some (r1, r2) := by rw [if_neg (show ¬ (false = true) by decide)] at H; exact H
                          clear H
                          have H := H1
                          clear H1
                          simp only [Option.some.injEq, Prod.mk.injEq] at H
                          obtain ⟨rfl, rfl⟩ := H
                          go_wp2_with (first | ((with_reducible refine gate_callee (f := 9) rfl ?_); refine goesL_ (some 36) rfl rfl Tryd.func9 (by kernel_rfl) rfl #[.string (a0.extract 0 ((ji19) : Int).toNat)] rfl (by (try simp only [List.map_toArray, List.map_cons, List.map_nil]); first | done | (simp only [hji19]; rfl) | rfl | (simp only [List.length_drop, List.length_take]; rfl)) ?_; (with_reducible refine (tollbarref06_Uint.calls kj15 (a0.extract 0 ((ji19) : Int).toNat) t121 false _ A22.out).mono ?_); rintro e w28 ⟨rfl, hb⟩; refine ⟨_, rfl, ?_⟩; have n0_ := Aside0.mk (below_step (by repeat (first | (with_reducible first | exact HB.out | apply below_alloc | apply pw_below_drewN | apply below_drew1) | exact HB.out)) hb); clear HB; have HB := n0_; clear n0_; (try clear hb); (try clear hb2); (try clear hk); (try clear hi)))
                          go_ret2
                          exact ⟨by first | rfl | (simp [errW_none, errW_some] <;> rfl) | (simp only [← hji19]; first | rfl | (simp [errW_none, errW_some] <;> rfl)) | (simp [*, errW_none, errW_some] <;> rfl), by repeat (first | (with_reducible first | exact HB.out | apply below_alloc | apply pw_below_drewN | apply below_drew1) | exact HB.out)⟩
                      · rw [if_neg c21] at H
                        exact absurd H (by simp)
                    · rw [if_neg c20] at H
                      exact absurd H (by simp)
                  · rw [if_neg c18] at H
                    have c18b0 : decide (1 < x4_15) = false := decide_eq_false c18
                    clear c18
                    replace H := Option.bind_eq_some_iff.mp H
                    obtain ⟨⟨t123, t124⟩, A290, H⟩ := H
                    replace H : (if t124 = true then (if x4_15 = 0 then (none) else (if t123 > (IntKind.u64.wrap (Int.tdiv (18446744073709551615 : Int) x4_15)) then (some (0, false)) else (some (IntKind.u64.wrap (t123 * x4_15), true)))) else (some (0, false))) = some (r1, r2) := H
                    have A29 := Aside0.mk A290
                    clear A290
                    by_cases c30 : t124 = true
                    · subst c30
                      have H1 : (if x4_15 = 0 then (none) else (if t123 > (IntKind.u64.wrap (Int.tdiv (18446744073709551615 : Int) x4_15)) then (some (0, false)) else (some (IntKind.u64.wrap (t123 * x4_15), true)))) = some (r1, r2) := by rw [if_pos rfl] at H; exact H
                      clear H
                      have H := H1
                      clear H1
                      by_cases c31 : x4_15 = 0
                      · rw [if_pos c31] at H
                        exact absurd H (by simp)
                      · rw [if_neg c31] at H
                        have c31b0 : (x4_15 == 0) = false := beq_eq_false_iff_ne.mpr c31
                        have c31b1 : (x4_15 != 0) = true := bne_iff_ne.mpr c31
                        by_cases c32 : t123 > (IntKind.u64.wrap (Int.tdiv (18446744073709551615 : Int) x4_15))
                        · rw [if_pos c32] at H
                          have c32b0 : decide ((IntKind.u64.wrap (Int.tdiv (18446744073709551615 : Int) x4_15)) < t123) = true := decide_eq_true c32
                          clear c32
                          simp only [Option.some.injEq, Prod.mk.injEq] at H
                          obtain ⟨rfl, rfl⟩ := H
                          go_wp2_with (first | ((with_reducible refine gate_callee (f := 9) rfl ?_); refine goesL_ (some 36) rfl rfl Tryd.func9 (by kernel_rfl) rfl #[.string a0] rfl (by (try simp only [List.map_toArray, List.map_cons, List.map_nil]); first | done | rfl | (simp only [List.length_drop, List.length_take]; rfl)) ?_; (with_reducible refine (tollbarref06_Uint.calls kj15 a0 t123 true _ A29.out).mono ?_); rintro e w33 ⟨rfl, hb⟩; refine ⟨_, rfl, ?_⟩; have n0_ := Aside0.mk (below_step (by repeat (first | (with_reducible first | exact HB.out | apply below_alloc | apply pw_below_drewN | apply below_drew1) | exact HB.out)) hb); clear HB; have HB := n0_; clear n0_; (try clear hb); (try clear hb2); (try clear hk); (try clear hi)))
                          go_ret2
                          exact ⟨by first | rfl | (simp [errW_none, errW_some] <;> rfl) | (simp [*, errW_none, errW_some] <;> rfl), by repeat (first | (with_reducible first | exact HB.out | apply below_alloc | apply pw_below_drewN | apply below_drew1) | exact HB.out)⟩
                        · rw [if_neg c32] at H
                          have c32b0 : decide ((IntKind.u64.wrap (Int.tdiv (18446744073709551615 : Int) x4_15)) < t123) = false := decide_eq_false c32
                          clear c32
                          simp only [Option.some.injEq, Prod.mk.injEq] at H
                          obtain ⟨rfl, rfl⟩ := H
                          go_wp2_with (first | ((with_reducible refine gate_callee (f := 9) rfl ?_); refine goesL_ (some 36) rfl rfl Tryd.func9 (by kernel_rfl) rfl #[.string a0] rfl (by (try simp only [List.map_toArray, List.map_cons, List.map_nil]); first | done | rfl | (simp only [List.length_drop, List.length_take]; rfl)) ?_; (with_reducible refine (tollbarref06_Uint.calls kj15 a0 t123 true _ A29.out).mono ?_); rintro e w34 ⟨rfl, hb⟩; refine ⟨_, rfl, ?_⟩; have n0_ := Aside0.mk (below_step (by repeat (first | (with_reducible first | exact HB.out | apply below_alloc | apply pw_below_drewN | apply below_drew1) | exact HB.out)) hb); clear HB; have HB := n0_; clear n0_; (try clear hb); (try clear hb2); (try clear hk); (try clear hi)))
                          go_ret2
                          exact ⟨by first | rfl | (simp [errW_none, errW_some] <;> rfl) | (simp [*, errW_none, errW_some] <;> rfl), by repeat (first | (with_reducible first | exact HB.out | apply below_alloc | apply pw_below_drewN | apply below_drew1) | exact HB.out)⟩
                    · replace c30 := Bool.eq_false_iff.mpr c30
                      subst c30
                      have H1 : (some (0, false)) = some (r1, r2) := by rw [if_neg (show ¬ (false = true) by decide)] at H; exact H
                      clear H
                      have H := H1
                      clear H1
                      simp only [Option.some.injEq, Prod.mk.injEq] at H
                      obtain ⟨rfl, rfl⟩ := H
                      go_wp2_with (first | ((with_reducible refine gate_callee (f := 9) rfl ?_); refine goesL_ (some 36) rfl rfl Tryd.func9 (by kernel_rfl) rfl #[.string a0] rfl (by (try simp only [List.map_toArray, List.map_cons, List.map_nil]); first | done | rfl | (simp only [List.length_drop, List.length_take]; rfl)) ?_; (with_reducible refine (tollbarref06_Uint.calls kj15 a0 t123 false _ A29.out).mono ?_); rintro e w35 ⟨rfl, hb⟩; refine ⟨_, rfl, ?_⟩; have n0_ := Aside0.mk (below_step (by repeat (first | (with_reducible first | exact HB.out | apply below_alloc | apply pw_below_drewN | apply below_drew1) | exact HB.out)) hb); clear HB; have HB := n0_; clear n0_; (try clear hb); (try clear hb2); (try clear hk); (try clear hi)))
                      go_ret2
                      exact ⟨by first | rfl | (simp [errW_none, errW_some] <;> rfl) | (simp [*, errW_none, errW_some] <;> rfl), by repeat (first | (with_reducible first | exact HB.out | apply below_alloc | apply pw_below_drewN | apply below_drew1) | exact HB.out)⟩

end Go.Proofs.YtdlkjcginamemaaDoor.QScalar
