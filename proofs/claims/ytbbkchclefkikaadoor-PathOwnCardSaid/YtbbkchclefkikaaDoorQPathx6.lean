-- laid by a program of this session (pp.sh) out of the translation
import Derived.Test.YtbbkchclefkikaaDoorQPathx0
import Derived.Test.YtbbkchclefkikaaDoorQPathx1
import Derived.Test.YtbbkchclefkikaaDoorQPathx4
import Derived.Test.YtbbkchclefkikaaDoorQPathx5
namespace Go.Proofs.YtbbkchclefkikaaDoor.QPath
open Go.RowKit Go.Proofs.YtbbkchclefkikaaDoorW.PrintWords Go.Proofs.YtbbkchclefkikaaDoorW.PrintLast Go.Proofs.YtbbkchclefkikaaDoorW.PrintMore
attribute [local go_sem] max2_int min2_int max_two min_two max_three min_three max_four min_four   -- for this text's walks alone
set_option linter.unusedVariables false
set_option linter.unusedSimpArgs false

attribute [local go_sem high] eqA46
/-! ### tollbarref15_Parse: function 9 -/
mutual
def tollbarref15_Parse.l0 : Nat → ByteArray → List (S46) → Int → Option ((List (S46)) × Int × Int)
  | 0, _, _, _ => none
  | k + 1, x0, x5, x6 => if x6 < (x0.size : Int) then (tollbarref15_Parse.j1 k x0 x5 x6 true) else (tollbarref15_Parse.j1 k x0 x5 x6 (x6 == 0))
def tollbarref15_Parse.j1 : Nat → ByteArray → List (S46) → Int → Bool → Option ((List (S46)) × Int × Int)
  | 0, _, _, _, _ => none
  | k + 1, x0, x5, x6, x20 => if x20 = true then (if x6 ≥ (x0.size : Int) then (tollbarref15_Parse.j2 k x0 x5 x6 true) else (if 0 ≤ x6 then (if x6 < (x0.size : Int) then (tollbarref15_Parse.j2 k x0 x5 x6 ((bt x0 x6) != 47)) else (none)) else (none))) else (some (x5, 0, 0))
def tollbarref15_Parse.j2 : Nat → ByteArray → List (S46) → Int → Bool → Option ((List (S46)) × Int × Int)
  | 0, _, _, _, _ => none
  | k + 1, x0, x5, x6, x30 => if x30 = true then (some (([] : List (S46)), 21, x6)) else (if (x5.length : Int) = 6 then (some (([] : List (S46)), 13, x6)) else ((tollbarref15_word.f k x0 (wrap64 (x6 + 1))).bind fun t171 => (if 0 ≤ (wrap64 (x6 + 1)) then (if (wrap64 (x6 + 1)) ≤ t171 then (if t171 ≤ (x0.size : Int) then ((tollbarref06_Ident.f k (x0.extract ((wrap64 (x6 + 1)) : Int).toNat (t171 : Int).toNat)).bind fun t173 => (if t173 = true then (if t171 < (x0.size : Int) then (if 0 ≤ t171 then (tollbarref15_Parse.j3 k x0 x5 t171 ((bt x0 t171) == 91) (x0.extract ((wrap64 (x6 + 1)) : Int).toNat (t171 : Int).toNat) (⟨#[]⟩ : ByteArray)) else (none)) else (tollbarref15_Parse.j3 k x0 x5 t171 false (x0.extract ((wrap64 (x6 + 1)) : Int).toNat (t171 : Int).toNat) (⟨#[]⟩ : ByteArray))) else (some (([] : List (S46)), 22, wrap64 (x6 + 1))))) else (none)) else (none)) else (none))))
def tollbarref15_Parse.j3 : Nat → ByteArray → List (S46) → Int → Bool → ByteArray → ByteArray → Option ((List (S46)) × Int × Int)
  | 0, _, _, _, _, _, _ => none
  | k + 1, x0, x5, x6, x62, x173000, x173001 => if x62 = true then ((tollbarref15_word.f k x0 (wrap64 (x6 + 1))).bind fun t174 => (if 0 ≤ (wrap64 (x6 + 1)) then (if (wrap64 (x6 + 1)) ≤ t174 then (if t174 ≤ (x0.size : Int) then ((tollbarref06_Ident.f k (x0.extract ((wrap64 (x6 + 1)) : Int).toNat (t174 : Int).toNat)).bind fun t175 => (if t175 = true then (if t174 ≥ (x0.size : Int) then (some (([] : List (S46)), 21, t174)) else (if 0 ≤ t174 then (if t174 < (x0.size : Int) then (if (bt x0 t174) = 93 then (if x5.length < 4398046511104 then (tollbarref15_Parse.l0 k x0 (x5 ++ [(⟨x173000, x0.extract ((wrap64 (x6 + 1)) : Int).toNat (t174 : Int).toNat⟩ : S46)]) (wrap64 (t174 + 1))) else (none)) else (some (([] : List (S46)), 21, t174))) else (none)) else (none))) else (some (([] : List (S46)), 22, wrap64 (x6 + 1))))) else (none)) else (none)) else (none))) else (if x5.length < 4398046511104 then (tollbarref15_Parse.l0 k x0 (x5 ++ [(⟨x173000, x173001⟩ : S46)]) x6) else (none))
end
def tollbarref15_Parse.f (k : Nat) (a0 : ByteArray) : Option ((List (S46)) × Int × Int) := if a0.toList = ([47] : List UInt8) then (some (([] : List (S46)), 0, 0)) else (tollbarref15_Parse.l0 k a0 ([] : List (S46)) 0)
theorem tollbarref15_Parse.mono_l : ∀ k, (∀ y0 y1 y2, LeO (tollbarref15_Parse.l0 k y0 y1 y2) (tollbarref15_Parse.l0 (k + 1) y0 y1 y2)) ∧ (∀ y0 y1 y2 y3, LeO (tollbarref15_Parse.j1 k y0 y1 y2 y3) (tollbarref15_Parse.j1 (k + 1) y0 y1 y2 y3)) ∧ (∀ y0 y1 y2 y3, LeO (tollbarref15_Parse.j2 k y0 y1 y2 y3) (tollbarref15_Parse.j2 (k + 1) y0 y1 y2 y3)) ∧ (∀ y0 y1 y2 y3 y4 y5, LeO (tollbarref15_Parse.j3 k y0 y1 y2 y3 y4 y5) (tollbarref15_Parse.j3 (k + 1) y0 y1 y2 y3 y4 y5))
  | 0 => ⟨fun _ _ _ r h => by simp [tollbarref15_Parse.l0] at h, fun _ _ _ _ r h => by simp [tollbarref15_Parse.j1] at h, fun _ _ _ _ r h => by simp [tollbarref15_Parse.j2] at h, fun _ _ _ _ _ _ r h => by simp [tollbarref15_Parse.j3] at h⟩
  | k + 1 => by
    obtain ⟨ih0, ih1, ih2, ih3⟩ := tollbarref15_Parse.mono_l k
    refine ⟨?_, ?_, ?_, ?_⟩
    · intro y0 y1 y2
      unfold tollbarref15_Parse.l0
      repeat' first
      | (with_reducible exact ih0 _ _ _)
      | (with_reducible exact ih1 _ _ _ _)
      | (with_reducible exact ih2 _ _ _ _)
      | (with_reducible exact ih3 _ _ _ _ _ _)
      | (with_reducible exact tollbarref06_Ident.mono _ _)
      | (with_reducible exact tollbarref15_word.mono _ _ _)
      | (with_reducible exact LeO.refl _)
      | (with_reducible exact LeO.none _)
      | (with_reducible refine LeO.ite ?_ ?_)
      | (with_reducible refine LeO.bind ?_ (fun _ => ?_))
      | exact ih0 _ _ _
      | exact ih1 _ _ _ _
      | exact ih2 _ _ _ _
      | exact ih3 _ _ _ _ _ _
      | exact tollbarref06_Ident.mono _ _
      | exact tollbarref15_word.mono _ _ _
      | exact LeO.none _
      | refine LeO.ite ?_ ?_
      | refine LeO.bind ?_ (fun _ => ?_)
    · intro y0 y1 y2 y3
      unfold tollbarref15_Parse.j1
      repeat' first
      | (with_reducible exact ih0 _ _ _)
      | (with_reducible exact ih1 _ _ _ _)
      | (with_reducible exact ih2 _ _ _ _)
      | (with_reducible exact ih3 _ _ _ _ _ _)
      | (with_reducible exact tollbarref06_Ident.mono _ _)
      | (with_reducible exact tollbarref15_word.mono _ _ _)
      | (with_reducible exact LeO.refl _)
      | (with_reducible exact LeO.none _)
      | (with_reducible refine LeO.ite ?_ ?_)
      | (with_reducible refine LeO.bind ?_ (fun _ => ?_))
      | exact ih0 _ _ _
      | exact ih1 _ _ _ _
      | exact ih2 _ _ _ _
      | exact ih3 _ _ _ _ _ _
      | exact tollbarref06_Ident.mono _ _
      | exact tollbarref15_word.mono _ _ _
      | exact LeO.none _
      | refine LeO.ite ?_ ?_
      | refine LeO.bind ?_ (fun _ => ?_)
    · intro y0 y1 y2 y3
      unfold tollbarref15_Parse.j2
      repeat' first
      | (with_reducible exact ih0 _ _ _)
      | (with_reducible exact ih1 _ _ _ _)
      | (with_reducible exact ih2 _ _ _ _)
      | (with_reducible exact ih3 _ _ _ _ _ _)
      | (with_reducible exact tollbarref06_Ident.mono _ _)
      | (with_reducible exact tollbarref15_word.mono _ _ _)
      | (with_reducible exact LeO.refl _)
      | (with_reducible exact LeO.none _)
      | (with_reducible refine LeO.ite ?_ ?_)
      | (with_reducible refine LeO.bind ?_ (fun _ => ?_))
      | exact ih0 _ _ _
      | exact ih1 _ _ _ _
      | exact ih2 _ _ _ _
      | exact ih3 _ _ _ _ _ _
      | exact tollbarref06_Ident.mono _ _
      | exact tollbarref15_word.mono _ _ _
      | exact LeO.none _
      | refine LeO.ite ?_ ?_
      | refine LeO.bind ?_ (fun _ => ?_)
    · intro y0 y1 y2 y3 y4 y5
      unfold tollbarref15_Parse.j3
      repeat' first
      | (with_reducible exact ih0 _ _ _)
      | (with_reducible exact ih1 _ _ _ _)
      | (with_reducible exact ih2 _ _ _ _)
      | (with_reducible exact ih3 _ _ _ _ _ _)
      | (with_reducible exact tollbarref06_Ident.mono _ _)
      | (with_reducible exact tollbarref15_word.mono _ _ _)
      | (with_reducible exact LeO.refl _)
      | (with_reducible exact LeO.none _)
      | (with_reducible refine LeO.ite ?_ ?_)
      | (with_reducible refine LeO.bind ?_ (fun _ => ?_))
      | exact ih0 _ _ _
      | exact ih1 _ _ _ _
      | exact ih2 _ _ _ _
      | exact ih3 _ _ _ _ _ _
      | exact tollbarref06_Ident.mono _ _
      | exact tollbarref15_word.mono _ _ _
      | exact LeO.none _
      | refine LeO.ite ?_ ?_
      | refine LeO.bind ?_ (fun _ => ?_)
theorem tollbarref15_Parse.mono : ∀ a0 k, LeO (tollbarref15_Parse.f k a0) (tollbarref15_Parse.f (k + 1) a0) := by
  intro a0 k
  obtain ⟨ih0, ih1, ih2, ih3⟩ := tollbarref15_Parse.mono_l k
  unfold tollbarref15_Parse.f
  repeat' first
      | (with_reducible exact ih0 _ _ _)
      | (with_reducible exact ih1 _ _ _ _)
      | (with_reducible exact ih2 _ _ _ _)
      | (with_reducible exact ih3 _ _ _ _ _ _)
      | (with_reducible exact tollbarref06_Ident.mono _ _)
      | (with_reducible exact tollbarref15_word.mono _ _ _)
      | (with_reducible exact LeO.refl _)
      | (with_reducible exact LeO.none _)
      | (with_reducible refine LeO.ite ?_ ?_)
      | (with_reducible refine LeO.bind ?_ (fun _ => ?_))
      | exact ih0 _ _ _
      | exact ih1 _ _ _ _
      | exact ih2 _ _ _ _
      | exact ih3 _ _ _ _ _ _
      | exact tollbarref06_Ident.mono _ _
      | exact tollbarref15_word.mono _ _ _
      | exact LeO.none _
      | refine LeO.ite ?_ ?_
      | refine LeO.bind ?_ (fun _ => ?_)
set_option maxHeartbeats 8000000 in
set_option maxRecDepth 100000 in
theorem tollbarref15_Parse.calls (k : Nat) (a0 : ByteArray) (r1 : List (S46)) (r2 : Int) (r3 : Int) (w : World) (h : tollbarref15_Parse.f k a0 = some (r1, r2, r3)) :
    Calls Tryd.prog 9 #[.string a0] w fun e w' => ∃ v0_ : Value, e = .returned (.tuple #[v0_, .int .i64 r2, .int .i64 r3]) ∧ Kd.R k46 46 w' w.heap.size (fun _ => True) v0_ r1 ∧ Below w.heap.size w w' := by
  have hu46 := Tryd.underlying46
  have HB := Aside0.mk (Below.refl w.heap.size w)
  have H : (if a0.toList = ([47] : List UInt8) then (some (([] : List (S46)), 0, 0)) else (tollbarref15_Parse.l0 k a0 ([] : List (S46)) 0)) = some (r1, r2, r3) := h
  clear h
  by_cases c2 : a0.toList = ([47] : List UInt8)
  · rw [if_pos c2] at H
    have c2b0 : (a0.toList == ([47] : List UInt8)) = true := beq_iff_eq.mpr c2
    have c2b1 : (a0.toList != ([47] : List UInt8)) = false := bne_eq_false_iff_eq.mpr c2
    clear c2
    simp only [Option.some.injEq, Prod.mk.injEq] at H
    obtain ⟨rfl, rfl, rfl⟩ := H
    go_enter Tryd.func9, Tryd.ntmps9
    go_wp2
    go_ret3
    exact ⟨_, by first | rfl | (simp [errW_none, errW_some] <;> rfl) | (simp [*, errW_none, errW_some] <;> rfl), by first | exact Kd.R_nil _ _ _ _ _ | exact Kd.R_nil _ _ _ 0 _ | exact Kd.N_nil _ _ _ _ _ | exact Kd.N_nil _ _ _ 0 _ | exact Kd.V_nil _ _ _ _ _ | exact Kd.Q_nil _ _ _ _ _ | exact Kd.S_nil _ _ _ _ _, by repeat (first | (with_reducible first | exact HB.out | apply below_alloc | apply pw_below_drewN | apply below_drew1) | exact HB.out)⟩
  · rw [if_neg c2] at H
    have c2b0 : (a0.toList == ([47] : List UInt8)) = false := beq_eq_false_iff_ne.mpr c2
    have c2b1 : (a0.toList != ([47] : List UInt8)) = true := bne_iff_ne.mpr c2
    have H' := Aside0.mk H
    clear H
    go_enter Tryd.func9, Tryd.ntmps9
    go_wp2
    go_loopg [5, 6] k (fun kq v5 v6 w' => ∃ (x5_1 : List (S46)) (x6_1 : Int), v6 = .int .i64 x6_1 ∧ Aside0 (tollbarref15_Parse.l0 kq a0 x5_1 x6_1 = some (r1, r2, r3)) ∧ Aside0 (kq ≤ k) ∧ Aside0 (Kd.R k46 46 w' w.heap.size (fun _ => True) v5 x5_1) ∧ Aside0 (Below w.heap.size w w'))
    case atStart => exact ⟨(([] : List (S46))), (0), (by first | rfl | (simp; done) | (simp [*]; done) | exact congrArg Value.bool (isEmpty_ne _) | exact congrArg Value.bool (notEmpty_ne _)), H', ⟨Nat.le_refl _⟩, ⟨by first | exact Kd.R_nil _ _ _ _ _ | exact Kd.R_nil _ _ _ 0 _ | exact Kd.N_nil _ _ _ _ _ | exact Kd.N_nil _ _ _ 0 _ | exact Kd.V_nil _ _ _ _ _ | exact Kd.Q_nil _ _ _ _ _ | exact Kd.S_nil _ _ _ _ _⟩, ⟨by repeat (first | (with_reducible first | exact HB.out | apply below_alloc | apply pw_below_drewN | apply below_drew1) | exact HB.out)⟩⟩
    case round =>
      clear H'
      try clear c2
      try clear c2b0
      try clear c2b1
      try clear p2
      obtain ⟨x5_1, x6_1, rfl, HA, HK1, HO_5, HB⟩ := hrel
      cases gk with
      | zero => exact absurd HA.out (by simp [tollbarref15_Parse.l0])
      | succ k1 =>
        have H := HA.out
        clear HA
        simp only [tollbarref15_Parse.l0] at H
        have HC3 := Aside0.mk H
        clear H
        go_upto_region 5 with (fail)
        go_cut [20] (fun v20 wc => ∃ (kq : Nat) (x20_2 : Bool), v20 = .bool x20_2 ∧ Aside0 (tollbarref15_Parse.j1 kq a0 x5_1 x6_1 x20_2 = some (r1, r2, r3)) ∧ Aside0 (kq ≤ k1) ∧ Aside0 (Kd.R k46 46 wc w.heap.size (fun _ => True) u5 x5_1) ∧ Aside0 (Below w.heap.size w wc))
        case first =>
          have H := HC3.out
          clear HC3
          by_cases c4 : x6_1 < (a0.size : Int)
          · rw [if_pos c4] at H
            have c4b0 : decide (x6_1 < (a0.size : Int)) = true := decide_eq_true c4
            clear c4
            (first | rw [c4b0] | (simp only [i64_w, i32_w]; rw [c4b0]) | skip)
            have H' := Aside0.mk H
            clear H
            go_wp2
            go_meet
            case rel => exact ⟨_, (true), (by first | rfl | (simp; done) | (simp [*]; done) | exact congrArg Value.bool (isEmpty_ne _) | exact congrArg Value.bool (notEmpty_ne _)), H', ⟨by have := HK1.out; first | omega | exact Nat.le_refl _⟩, ⟨by (with_reducible repeat (first | apply Kd.R_alloc | apply Kd.R_drewN | apply Kd.R_drew)); exact HO_5.out⟩, ⟨by repeat (first | (with_reducible first | exact HB.out | apply below_alloc | apply pw_below_drewN | apply below_drew1) | exact HB.out)⟩⟩
          · rw [if_neg c4] at H
            have c4b0 : decide (x6_1 < (a0.size : Int)) = false := decide_eq_false c4
            clear c4
            (first | rw [c4b0] | (simp only [i64_w, i32_w]; rw [c4b0]) | skip)
            have H' := Aside0.mk H
            clear H
            go_wp2
            go_meet
            case rel => exact ⟨_, ((x6_1 == 0)), (by first | rfl | (simp; done) | (simp [*]; done) | exact congrArg Value.bool (isEmpty_ne _) | exact congrArg Value.bool (notEmpty_ne _)), H', ⟨by have := HK1.out; first | omega | exact Nat.le_refl _⟩, ⟨by (with_reducible repeat (first | apply Kd.R_alloc | apply Kd.R_drewN | apply Kd.R_drew)); exact HO_5.out⟩, ⟨by repeat (first | (with_reducible first | exact HB.out | apply below_alloc | apply pw_below_drewN | apply below_drew1) | exact HB.out)⟩⟩
        case rest =>
          clear HC3
          try clear c2
          try clear c2b0
          try clear c2b1
          try clear p2
          try clear c4
          try clear c4b0
          try clear p2
          obtain ⟨kq, x20_2, rfl, HA, HJ2, HO_5, HB⟩ := hcut
          cases kq with
          | zero => exact absurd HA.out (by simp [tollbarref15_Parse.j1])
          | succ kj2 =>
            have H := HA.out
            clear HA
            simp only [tollbarref15_Parse.j1] at H
            by_cases c5 : x20_2 = true
            · subst c5
              have H1 : (if x6_1 ≥ (a0.size : Int) then (tollbarref15_Parse.j2 kj2 a0 x5_1 x6_1 true) else (if 0 ≤ x6_1 then (if x6_1 < (a0.size : Int) then (tollbarref15_Parse.j2 kj2 a0 x5_1 x6_1 ((bt a0 x6_1) != 47)) else (none)) else (none))) = some (r1, r2, r3) := by rw [if_pos rfl] at H; exact H
              clear H
              have H := H1
              clear H1
              have HC6 := Aside0.mk H
              clear H
              go_upto_region 6 with (fail)
              go_cut [30] (fun v30 wc => ∃ (kq : Nat) (x30_5 : Bool), v30 = .bool x30_5 ∧ Aside0 (tollbarref15_Parse.j2 kq a0 x5_1 x6_1 x30_5 = some (r1, r2, r3)) ∧ Aside0 (kq ≤ kj2) ∧ Aside0 (Kd.R k46 46 wc w.heap.size (fun _ => True) u5 x5_1) ∧ Aside0 (Below w.heap.size w wc))
              case first =>
                have H := HC6.out
                clear HC6
                by_cases c7 : x6_1 ≥ (a0.size : Int)
                · rw [if_pos c7] at H
                  have c7b0 : decide ((a0.size : Int) ≤ x6_1) = true := decide_eq_true c7
                  clear c7
                  (first | rw [c7b0] | (simp only [i64_w, i32_w]; rw [c7b0]) | skip)
                  have H' := Aside0.mk H
                  clear H
                  go_wp2
                  go_meet
                  case rel => exact ⟨_, (true), (by first | rfl | (simp; done) | (simp [*]; done) | exact congrArg Value.bool (isEmpty_ne _) | exact congrArg Value.bool (notEmpty_ne _)), H', ⟨by have := HK1.out; have := HJ2.out; first | omega | exact Nat.le_refl _⟩, ⟨by (with_reducible repeat (first | apply Kd.R_alloc | apply Kd.R_drewN | apply Kd.R_drew)); exact HO_5.out⟩, ⟨by repeat (first | (with_reducible first | exact HB.out | apply below_alloc | apply pw_below_drewN | apply below_drew1) | exact HB.out)⟩⟩
                · rw [if_neg c7] at H
                  have c7b0 : decide ((a0.size : Int) ≤ x6_1) = false := decide_eq_false c7
                  clear c7
                  (first | rw [c7b0] | (simp only [i64_w, i32_w]; rw [c7b0]) | skip)
                  by_cases c8 : 0 ≤ x6_1
                  · rw [if_pos c8] at H
                    have c8b0 : decide (0 ≤ x6_1) = true := decide_eq_true c8
                    clear c8
                    by_cases c9 : x6_1 < (a0.size : Int)
                    · rw [if_pos c9] at H
                      have c9b0 : decide (x6_1 < (a0.size : Int)) = true := decide_eq_true c9
                      clear c9
                      have H' := Aside0.mk H
                      clear H
                      have p10 : 0 ≤ (x6_1 : Int) := of_decide_eq_true (by first | (with_reducible assumption) | assumption)
                      have q10 : x6_1 < (a0.size : Int) := of_decide_eq_true (by first | (with_reducible assumption) | assumption)
                      have hx10 := bt_at a0 x6_1
                      replace p10 := eq_true p10
                      replace q10 := eq_true q10
                      go_wp2
                      go_meet
                      case rel => exact ⟨_, (((bt a0 x6_1) != 47)), (by first | rfl | (simp; done) | (simp [*]; done) | exact congrArg Value.bool (isEmpty_ne _) | exact congrArg Value.bool (notEmpty_ne _)), H', ⟨by have := HK1.out; have := HJ2.out; first | omega | exact Nat.le_refl _⟩, ⟨by (with_reducible repeat (first | apply Kd.R_alloc | apply Kd.R_drewN | apply Kd.R_drew)); exact HO_5.out⟩, ⟨by repeat (first | (with_reducible first | exact HB.out | apply below_alloc | apply pw_below_drewN | apply below_drew1) | exact HB.out)⟩⟩
                    · rw [if_neg c9] at H
                      exact absurd H (by simp)
                  · rw [if_neg c8] at H
                    exact absurd H (by simp)
              case rest =>
                clear HC6
                try clear p1
                try clear q1
                try clear hx1
                try clear c2
                try clear c2b0
                try clear c2b1
                try clear p2
                try clear c4
                try clear c4b0
                try clear c5
                try clear c7
                try clear c7b0
                try clear c8
                try clear c8b0
                try clear c9
                try clear c9b0
                try clear p10
                try clear q10
                try clear hx10
                try clear p10
                try clear p2
                try clear q10
                obtain ⟨kq, x30_5, rfl, HA, HJ5, HO_5, HB⟩ := hcut
                cases kq with
                | zero => exact absurd HA.out (by simp [tollbarref15_Parse.j2])
                | succ kj5 =>
                  have H := HA.out
                  clear HA
                  simp only [tollbarref15_Parse.j2] at H
                  by_cases c11 : x30_5 = true
                  · subst c11
                    have H1 : (some (([] : List (S46)), 21, x6_1)) = some (r1, r2, r3) := by rw [if_pos rfl] at H; exact H
                    clear H
                    have H := H1
                    clear H1
                    simp only [Option.some.injEq, Prod.mk.injEq] at H
                    obtain ⟨rfl, rfl, rfl⟩ := H
                    go_wp2
                    go_ret3
                    exact ⟨_, by first | rfl | (simp [errW_none, errW_some] <;> rfl) | (simp [*, errW_none, errW_some] <;> rfl), by first | exact Kd.R_nil _ _ _ _ _ | exact Kd.R_nil _ _ _ 0 _ | exact Kd.N_nil _ _ _ _ _ | exact Kd.N_nil _ _ _ 0 _ | exact Kd.V_nil _ _ _ _ _ | exact Kd.Q_nil _ _ _ _ _ | exact Kd.S_nil _ _ _ _ _, by repeat (first | (with_reducible first | exact HB.out | apply below_alloc | apply pw_below_drewN | apply below_drew1) | exact HB.out)⟩
                  · replace c11 := Bool.eq_false_iff.mpr c11
                    subst c11
                    have H1 : (if (x5_1.length : Int) = 6 then (some (([] : List (S46)), 13, x6_1)) else ((tollbarref15_word.f kj5 a0 (wrap64 (x6_1 + 1))).bind fun t171 => (if 0 ≤ (wrap64 (x6_1 + 1)) then (if (wrap64 (x6_1 + 1)) ≤ t171 then (if t171 ≤ (a0.size : Int) then ((tollbarref06_Ident.f kj5 (a0.extract ((wrap64 (x6_1 + 1)) : Int).toNat (t171 : Int).toNat)).bind fun t173 => (if t173 = true then (if t171 < (a0.size : Int) then (if 0 ≤ t171 then (tollbarref15_Parse.j3 kj5 a0 x5_1 t171 ((bt a0 t171) == 91) (a0.extract ((wrap64 (x6_1 + 1)) : Int).toNat (t171 : Int).toNat) (⟨#[]⟩ : ByteArray)) else (none)) else (tollbarref15_Parse.j3 kj5 a0 x5_1 t171 false (a0.extract ((wrap64 (x6_1 + 1)) : Int).toNat (t171 : Int).toNat) (⟨#[]⟩ : ByteArray))) else (some (([] : List (S46)), 22, wrap64 (x6_1 + 1))))) else (none)) else (none)) else (none)))) = some (r1, r2, r3) := by rw [if_neg (show ¬ (false = true) by decide)] at H; exact H
                    clear H
                    have H := H1
                    clear H1
                    by_cases c12 : (x5_1.length : Int) = 6
                    · rw [if_pos c12] at H
                      have c12b0 : ((x5_1.length : Int) == 6) = true := beq_iff_eq.mpr c12
                      have c12b1 : ((x5_1.length : Int) != 6) = false := bne_eq_false_iff_eq.mpr c12
                      clear c12
                      simp only [Option.some.injEq, Prod.mk.injEq] at H
                      obtain ⟨rfl, rfl, rfl⟩ := H
                      obtain ⟨Ao13, co13, eo13⟩ := Kd.R_slice HO_5.out
                      subst eo13
                      go_wp2
                      go_ret3
                      exact ⟨_, by first | rfl | (simp [errW_none, errW_some] <;> rfl) | (simp [*, errW_none, errW_some] <;> rfl), by first | exact Kd.R_nil _ _ _ _ _ | exact Kd.R_nil _ _ _ 0 _ | exact Kd.N_nil _ _ _ _ _ | exact Kd.N_nil _ _ _ 0 _ | exact Kd.V_nil _ _ _ _ _ | exact Kd.Q_nil _ _ _ _ _ | exact Kd.S_nil _ _ _ _ _, by repeat (first | (with_reducible first | exact HB.out | apply below_alloc | apply pw_below_drewN | apply below_drew1) | exact HB.out)⟩
                    · rw [if_neg c12] at H
                      have c12b0 : ((x5_1.length : Int) == 6) = false := beq_eq_false_iff_ne.mpr c12
                      have c12b1 : ((x5_1.length : Int) != 6) = true := bne_iff_ne.mpr c12
                      replace H := Option.bind_eq_some_iff.mp H
                      obtain ⟨t171, A140, H⟩ := H
                      replace H : (if 0 ≤ (wrap64 (x6_1 + 1)) then (if (wrap64 (x6_1 + 1)) ≤ t171 then (if t171 ≤ (a0.size : Int) then ((tollbarref06_Ident.f kj5 (a0.extract ((wrap64 (x6_1 + 1)) : Int).toNat (t171 : Int).toNat)).bind fun t173 => (if t173 = true then (if t171 < (a0.size : Int) then (if 0 ≤ t171 then (tollbarref15_Parse.j3 kj5 a0 x5_1 t171 ((bt a0 t171) == 91) (a0.extract ((wrap64 (x6_1 + 1)) : Int).toNat (t171 : Int).toNat) (⟨#[]⟩ : ByteArray)) else (none)) else (tollbarref15_Parse.j3 kj5 a0 x5_1 t171 false (a0.extract ((wrap64 (x6_1 + 1)) : Int).toNat (t171 : Int).toNat) (⟨#[]⟩ : ByteArray))) else (some (([] : List (S46)), 22, wrap64 (x6_1 + 1))))) else (none)) else (none)) else (none)) = some (r1, r2, r3) := H
                      have A14 := Aside0.mk A140
                      clear A140
                      obtain ⟨ji15, hji15⟩ : ∃ j_ : Int, (wrap64 (x6_1 + 1)) = j_ := ⟨_, rfl⟩
                      replace H : (if 0 ≤ (ji15) then (if (ji15) ≤ t171 then (if t171 ≤ (a0.size : Int) then ((tollbarref06_Ident.f kj5 (a0.extract ((ji15) : Int).toNat (t171 : Int).toNat)).bind fun t173 => (if t173 = true then (if t171 < (a0.size : Int) then (if 0 ≤ t171 then (tollbarref15_Parse.j3 kj5 a0 x5_1 t171 ((bt a0 t171) == 91) (a0.extract ((ji15) : Int).toNat (t171 : Int).toNat) (⟨#[]⟩ : ByteArray)) else (none)) else (tollbarref15_Parse.j3 kj5 a0 x5_1 t171 false (a0.extract ((ji15) : Int).toNat (t171 : Int).toNat) (⟨#[]⟩ : ByteArray))) else (some (([] : List (S46)), 22, ji15)))) else (none)) else (none)) else (none)) = some (r1, r2, r3) := by first | (rw [hji15] at H; exact H) | (simp only [hji15] at H ⊢; exact H)
                      (try rw [hji15] at A14)
                      have hji15w : (IntKind.i64.wrap (x6_1 + 1)) = ji15 := (i64_w _).trans hji15
                      by_cases c16 : 0 ≤ (ji15)
                      · rw [if_pos c16] at H
                        have c16b0 := eq_true c16
                        have c16b1 : decide (0 ≤ (ji15)) = true := decide_eq_true c16
                        clear c16
                        by_cases c17 : (ji15) ≤ t171
                        · rw [if_pos c17] at H
                          have c17b0 := eq_true c17
                          have c17b1 : decide ((ji15) ≤ t171) = true := decide_eq_true c17
                          clear c17
                          by_cases c18 : t171 ≤ (a0.size : Int)
                          · rw [if_pos c18] at H
                            have c18b0 := eq_true c18
                            have c18b1 : decide (t171 ≤ (a0.size : Int)) = true := decide_eq_true c18
                            clear c18
                            replace H := Option.bind_eq_some_iff.mp H
                            obtain ⟨t173, A190, H⟩ := H
                            replace H : (if t173 = true then (if t171 < (a0.size : Int) then (if 0 ≤ t171 then (tollbarref15_Parse.j3 kj5 a0 x5_1 t171 ((bt a0 t171) == 91) (a0.extract ((ji15) : Int).toNat (t171 : Int).toNat) (⟨#[]⟩ : ByteArray)) else (none)) else (tollbarref15_Parse.j3 kj5 a0 x5_1 t171 false (a0.extract ((ji15) : Int).toNat (t171 : Int).toNat) (⟨#[]⟩ : ByteArray))) else (some (([] : List (S46)), 22, ji15))) = some (r1, r2, r3) := H
                            have A19 := Aside0.mk A190
                            clear A190
                            by_cases c20 : t173 = true
                            · subst c20
                              have H1 : (if t171 < (a0.size : Int) then (if 0 ≤ t171 then (tollbarref15_Parse.j3 kj5 a0 x5_1 t171 ((bt a0 t171) == 91) (a0.extract ((ji15) : Int).toNat (t171 : Int).toNat) (⟨#[]⟩ : ByteArray)) else (none)) else (tollbarref15_Parse.j3 kj5 a0 x5_1 t171 false (a0.extract ((ji15) : Int).toNat (t171 : Int).toNat) (⟨#[]⟩ : ByteArray))) = some (r1, r2, r3) := by rw [if_pos rfl] at H; exact H
                              clear H
                              have H := H1
                              clear H1
                              have HC21 := Aside0.mk H
                              clear H
                              obtain ⟨Ao22, co22, eo22⟩ := Kd.R_slice HO_5.out
                              subst eo22
                              go_upto_region 17 with (first | ((with_reducible refine gate_callee (f := 21) rfl ?_); refine goesL_ (some 40) rfl rfl Tryd.func21 (by kernel_rfl) rfl #[.string a0, .int .i64 ji15] rfl (by (try simp only [List.map_toArray, List.map_cons, List.map_nil]); first | done | (simp only [hji15]; rfl) | rfl | (simp only [List.length_drop, List.length_take]; rfl)) ?_; (with_reducible refine (tollbarref15_word.calls kj5 a0 ji15 t171 _ A14.out).mono ?_); rintro e w' ⟨rfl, ⟨nd, rfl⟩⟩; refine ⟨_, rfl, ?_⟩; (try (rw [drewN_self wc]; generalize hq_ : World.drewN wc _ = wc; have n0_ : Aside0 (Kd.R k46 46 wc w.heap.size (fun _ => True) (.slice Ao22 x5_1.length co22) x5_1) := ⟨by rw [← hq_]; exact (by (with_reducible repeat (first | apply Kd.R_alloc | apply Kd.R_drewN | apply Kd.R_drew)); exact HO_5.out)⟩; have n1_ : Aside0 (Below w.heap.size w wc) := ⟨by rw [← hq_]; exact (by repeat (first | (with_reducible first | exact HB.out | apply below_alloc | apply pw_below_drewN | apply below_drew1) | exact HB.out))⟩; clear HO_5 HB hq_; have HO_5 := n0_; have HB := n1_; clear n0_ n1_))) | ((with_reducible refine gate_dst (N := 8) rfl ?_); refine box_event ?hg (N := 8) ?hd (cs := #[.string (⟨#[]⟩ : ByteArray), .string (⟨#[]⟩ : ByteArray)]) (t := 46) ?hr ?_; (case hd => rfl); (case hg => rfl); (case hr => first | (go_simp; done) | (go_simp; rfl)); intro gb172 hg w23 hbox hb; have n0_ := Aside0.mk (Kd.R_below (Kd.R_elderB (by (with_reducible repeat (first | apply Kd.R_alloc | apply Kd.R_drewN | apply Kd.R_drew)); exact HO_5.out) gb172 (Nat.le_of_eq hg.symm)) hb); have n1_ := Aside0.mk (below_step (by repeat (first | (with_reducible first | exact HB.out | apply below_alloc | apply pw_below_drewN | apply below_drew1) | exact HB.out)) hb); have n2_ := Aside0.mk (hbox); have n3_ := Aside0.mk ((by rw [hg]; exact (below_size (by repeat (first | (with_reducible first | exact HB.out | apply below_alloc | apply pw_below_drewN | apply below_drew1) | exact HB.out))) : w.heap.size ≤ gb172)); have n4_ := Aside0.mk ((by rw [hg]; exact (below_size (by repeat (first | (with_reducible first | exact HB.out | apply below_alloc | apply pw_below_drewN | apply below_drew1) | exact HB.out))) : w.heap.size ≤ gb172)); clear HO_5; clear HB; have HO_5 := n0_; have HB := n1_; have BK172 := n2_; have GW172 := n3_; have GE172 := n4_; clear n0_ n1_ n2_ n3_ n4_; clear hb hbox hg; have hcz24_0 : w23.cell? ⟨gb172, 0, none⟩ = some (.string (⟨#[]⟩ : ByteArray)) := (blk_cell BK172.out 0).trans rfl; have hcz24_1 : w23.cell? ⟨gb172, 1, none⟩ = some (.string (⟨#[]⟩ : ByteArray)) := (blk_cell BK172.out 1).trans rfl; have hfz24_0 := blk_frozen BK172.out 0; have hfz24_1 := blk_frozen BK172.out 1) | ((with_reducible refine gate_callee (f := 22) rfl ?_); refine goesL_ (some 48) rfl rfl Tryd.func22 (by kernel_rfl) rfl #[.string (a0.extract ((ji15) : Int).toNat (t171 : Int).toNat)] rfl (by (try simp only [List.map_toArray, List.map_cons, List.map_nil]); first | done | (simp only [hji15]; rfl) | rfl | (simp only [List.length_drop, List.length_take]; rfl)) ?_; (with_reducible refine (tollbarref06_Ident.calls kj5 (a0.extract ((ji15) : Int).toNat (t171 : Int).toNat) true _ A19.out).mono ?_); rintro e w' ⟨rfl, ⟨nd, rfl⟩⟩; refine ⟨_, rfl, ?_⟩))
                              (try simp only [Act.put, List.setIfInBounds_toArray, List.set_cons_zero, List.set_cons_succ])
                              go_cut [62] (fun v62 wc => ∃ (kq : Nat) (x62_20 : Bool), v62 = .bool x62_20 ∧ Aside0 (tollbarref15_Parse.j3 kq a0 x5_1 t171 x62_20 (a0.extract ((ji15) : Int).toNat (t171 : Int).toNat) (⟨#[]⟩ : ByteArray) = some (r1, r2, r3)) ∧ Aside0 (kq ≤ kj5) ∧ Aside0 (Kd.R k46 46 wc w.heap.size (fun k_ => k_ ≠ gb172) (.slice Ao22 x5_1.length co22) x5_1) ∧ Aside0 (wc.heap[gb172]? = some (.cells #[.string (a0.extract ((ji15) : Int).toNat (t171 : Int).toNat), .string (⟨#[]⟩ : ByteArray)] 46 (0, 0))) ∧ Aside0 (Below w.heap.size w wc))
                              case first =>
                                have H := HC21.out
                                clear HC21
                                by_cases c25 : t171 < (a0.size : Int)
                                · rw [if_pos c25] at H
                                  have c25b0 : decide (t171 < (a0.size : Int)) = true := decide_eq_true c25
                                  clear c25
                                  (first | rw [c25b0] | (simp only [i64_w, i32_w]; rw [c25b0]) | skip)
                                  by_cases c26 : 0 ≤ t171
                                  · rw [if_pos c26] at H
                                    have c26b0 : decide (0 ≤ t171) = true := decide_eq_true c26
                                    clear c26
                                    have H' := Aside0.mk H
                                    clear H
                                    have p27 : 0 ≤ (t171 : Int) := of_decide_eq_true (by first | (with_reducible assumption) | assumption)
                                    have q27 : t171 < (a0.size : Int) := of_decide_eq_true (by first | (with_reducible assumption) | assumption)
                                    have hx27 := bt_at a0 t171
                                    replace p27 := eq_true p27
                                    replace q27 := eq_true q27
                                    go_wp2
                                    go_meet
                                    case rel => exact ⟨_, (((bt a0 t171) == 91)), (by first | rfl | (simp; done) | (simp [*]; done) | exact congrArg Value.bool (isEmpty_ne _) | exact congrArg Value.bool (notEmpty_ne _)), H', ⟨by have := HK1.out; have := HJ2.out; have := HJ5.out; first | omega | exact Nat.le_refl _⟩, ⟨by (with_reducible repeat (first | apply Kd.R_alloc | apply Kd.R_drewN | apply Kd.R_drew)); exact Kd.R_mono (Kd.R_far (p := ⟨gb172, 1, none⟩) (Kd.R_far (p := ⟨gb172, 0, none⟩) (Kd.R_mono HO_5.out (fun k_ hk => (⟨hk, hk.2⟩ : _ ∧ k_ ≠ gb172))) (fun _ hk => hk.2) (.string (a0.extract ((ji15) : Int).toNat (t171 : Int).toNat))) (fun _ hk => hk.2) (.string (⟨#[]⟩ : ByteArray))) (fun _ hk => hk.1.2)⟩, ⟨by (with_reducible repeat (first | refine blk_drewN ?_ _ | refine blk_drew ?_ | refine blk_alloc ?_ _)); refine blk_put (cs := #[.string (a0.extract ((ji15) : Int).toNat (t171 : Int).toNat), .string (⟨#[]⟩ : ByteArray)]) ?_ 1 _ rfl; (with_reducible repeat (first | refine blk_drewN ?_ _ | refine blk_drew ?_ | refine blk_alloc ?_ _)); refine blk_put (cs := #[.string (⟨#[]⟩ : ByteArray), .string (⟨#[]⟩ : ByteArray)]) ?_ 0 _ rfl; (with_reducible repeat (first | refine blk_drewN ?_ _ | refine blk_drew ?_ | refine blk_alloc ?_ _)); exact BK172.out⟩, ⟨by repeat (first | (with_reducible first | exact HB.out | apply below_alloc | apply pw_below_drewN | apply below_drew1 | refine below_set ?_ GE172.out) | exact HB.out)⟩⟩
                                  · rw [if_neg c26] at H
                                    exact absurd H (by simp)
                                · rw [if_neg c25] at H
                                  have c25b0 : decide (t171 < (a0.size : Int)) = false := decide_eq_false c25
                                  clear c25
                                  (first | rw [c25b0] | (simp only [i64_w, i32_w]; rw [c25b0]) | skip)
                                  have H' := Aside0.mk H
                                  clear H
                                  go_wp2
                                  go_meet
                                  case rel => exact ⟨_, (false), (by first | rfl | (simp; done) | (simp [*]; done) | exact congrArg Value.bool (isEmpty_ne _) | exact congrArg Value.bool (notEmpty_ne _)), H', ⟨by have := HK1.out; have := HJ2.out; have := HJ5.out; first | omega | exact Nat.le_refl _⟩, ⟨by (with_reducible repeat (first | apply Kd.R_alloc | apply Kd.R_drewN | apply Kd.R_drew)); exact Kd.R_mono (Kd.R_far (p := ⟨gb172, 1, none⟩) (Kd.R_far (p := ⟨gb172, 0, none⟩) (Kd.R_mono HO_5.out (fun k_ hk => (⟨hk, hk.2⟩ : _ ∧ k_ ≠ gb172))) (fun _ hk => hk.2) (.string (a0.extract ((ji15) : Int).toNat (t171 : Int).toNat))) (fun _ hk => hk.2) (.string (⟨#[]⟩ : ByteArray))) (fun _ hk => hk.1.2)⟩, ⟨by (with_reducible repeat (first | refine blk_drewN ?_ _ | refine blk_drew ?_ | refine blk_alloc ?_ _)); refine blk_put (cs := #[.string (a0.extract ((ji15) : Int).toNat (t171 : Int).toNat), .string (⟨#[]⟩ : ByteArray)]) ?_ 1 _ rfl; (with_reducible repeat (first | refine blk_drewN ?_ _ | refine blk_drew ?_ | refine blk_alloc ?_ _)); refine blk_put (cs := #[.string (⟨#[]⟩ : ByteArray), .string (⟨#[]⟩ : ByteArray)]) ?_ 0 _ rfl; (with_reducible repeat (first | refine blk_drewN ?_ _ | refine blk_drew ?_ | refine blk_alloc ?_ _)); exact BK172.out⟩, ⟨by repeat (first | (with_reducible first | exact HB.out | apply below_alloc | apply pw_below_drewN | apply below_drew1 | refine below_set ?_ GE172.out) | exact HB.out)⟩⟩
                              case rest =>
                                clear HC21
                                try clear c1
                                try clear p1
                                try clear q1
                                try clear hx1
                                try clear c2
                                try clear c2b0
                                try clear c2b1
                                try clear p2
                                try clear q2
                                try clear hx2
                                try clear c4
                                try clear c4b0
                                try clear c5
                                try clear p6
                                try clear c7
                                try clear c7b0
                                try clear c8
                                try clear c8b0
                                try clear c9
                                try clear c9b0
                                try clear p10
                                try clear q10
                                try clear hx10
                                try clear c11
                                try clear c12
                                try clear c12b0
                                try clear c12b1
                                try clear c16
                                try clear c16b0
                                try clear c16b1
                                try clear c17
                                try clear c17b0
                                try clear c17b1
                                try clear c18
                                try clear c18b0
                                try clear c18b1
                                try clear c20
                                try clear c21
                                try clear c22
                                try clear c25
                                try clear c25b0
                                try clear c26
                                try clear c26b0
                                try clear p27
                                try clear q27
                                try clear hx27
                                try clear hcz24_0
                                try clear hcz24_1
                                try clear hfz24_0
                                try clear hfz24_1
                                try clear p1
                                try clear p10
                                try clear p2
                                try clear p27
                                try clear q1
                                try clear q10
                                try clear q27
                                obtain ⟨kq, x62_20, rfl, HA, HJ20, HO_5, BK172, HB⟩ := hcut
                                cases kq with
                                | zero => exact absurd HA.out (by simp [tollbarref15_Parse.j3])
                                | succ kj20 =>
                                  have H := HA.out
                                  clear HA
                                  simp only [tollbarref15_Parse.j3] at H
                                  by_cases c28 : x62_20 = true
                                  · subst c28
                                    have H1 : ((tollbarref15_word.f kj20 a0 (wrap64 (t171 + 1))).bind fun t174 => (if 0 ≤ (wrap64 (t171 + 1)) then (if (wrap64 (t171 + 1)) ≤ t174 then (if t174 ≤ (a0.size : Int) then ((tollbarref06_Ident.f kj20 (a0.extract ((wrap64 (t171 + 1)) : Int).toNat (t174 : Int).toNat)).bind fun t175 => (if t175 = true then (if t174 ≥ (a0.size : Int) then (some (([] : List (S46)), 21, t174)) else (if 0 ≤ t174 then (if t174 < (a0.size : Int) then (if (bt a0 t174) = 93 then (if x5_1.length < 4398046511104 then (tollbarref15_Parse.l0 kj20 a0 (x5_1 ++ [(⟨(a0.extract ((ji15) : Int).toNat (t171 : Int).toNat), a0.extract ((wrap64 (t171 + 1)) : Int).toNat (t174 : Int).toNat⟩ : S46)]) (wrap64 (t174 + 1))) else (none)) else (some (([] : List (S46)), 21, t174))) else (none)) else (none))) else (some (([] : List (S46)), 22, wrap64 (t171 + 1))))) else (none)) else (none)) else (none))) = some (r1, r2, r3) := by rw [if_pos rfl] at H; exact H
                                    clear H
                                    have H := H1
                                    clear H1
                                    replace H := Option.bind_eq_some_iff.mp H
                                    obtain ⟨t174, A290, H⟩ := H
                                    replace H : (if 0 ≤ (wrap64 (t171 + 1)) then (if (wrap64 (t171 + 1)) ≤ t174 then (if t174 ≤ (a0.size : Int) then ((tollbarref06_Ident.f kj20 (a0.extract ((wrap64 (t171 + 1)) : Int).toNat (t174 : Int).toNat)).bind fun t175 => (if t175 = true then (if t174 ≥ (a0.size : Int) then (some (([] : List (S46)), 21, t174)) else (if 0 ≤ t174 then (if t174 < (a0.size : Int) then (if (bt a0 t174) = 93 then (if x5_1.length < 4398046511104 then (tollbarref15_Parse.l0 kj20 a0 (x5_1 ++ [(⟨(a0.extract ((ji15) : Int).toNat (t171 : Int).toNat), a0.extract ((wrap64 (t171 + 1)) : Int).toNat (t174 : Int).toNat⟩ : S46)]) (wrap64 (t174 + 1))) else (none)) else (some (([] : List (S46)), 21, t174))) else (none)) else (none))) else (some (([] : List (S46)), 22, wrap64 (t171 + 1))))) else (none)) else (none)) else (none)) = some (r1, r2, r3) := H
                                    have A29 := Aside0.mk A290
                                    clear A290
                                    obtain ⟨ji30, hji30⟩ : ∃ j_ : Int, (wrap64 (t171 + 1)) = j_ := ⟨_, rfl⟩
                                    replace H : (if 0 ≤ (ji30) then (if (ji30) ≤ t174 then (if t174 ≤ (a0.size : Int) then ((tollbarref06_Ident.f kj20 (a0.extract ((ji30) : Int).toNat (t174 : Int).toNat)).bind fun t175 => (if t175 = true then (if t174 ≥ (a0.size : Int) then (some (([] : List (S46)), 21, t174)) else (if 0 ≤ t174 then (if t174 < (a0.size : Int) then (if (bt a0 t174) = 93 then (if x5_1.length < 4398046511104 then (tollbarref15_Parse.l0 kj20 a0 (x5_1 ++ [(⟨(a0.extract ((ji15) : Int).toNat (t171 : Int).toNat), a0.extract ((ji30) : Int).toNat (t174 : Int).toNat⟩ : S46)]) (wrap64 (t174 + 1))) else (none)) else (some (([] : List (S46)), 21, t174))) else (none)) else (none))) else (some (([] : List (S46)), 22, ji30)))) else (none)) else (none)) else (none)) = some (r1, r2, r3) := by first | (rw [hji30] at H; exact H) | (simp only [hji30] at H ⊢; exact H)
                                    (try rw [hji30] at A29)
                                    have hji30w : (IntKind.i64.wrap (t171 + 1)) = ji30 := (i64_w _).trans hji30
                                    by_cases c31 : 0 ≤ (ji30)
                                    · rw [if_pos c31] at H
                                      have c31b0 := eq_true c31
                                      have c31b1 : decide (0 ≤ (ji30)) = true := decide_eq_true c31
                                      clear c31
                                      by_cases c32 : (ji30) ≤ t174
                                      · rw [if_pos c32] at H
                                        have c32b0 := eq_true c32
                                        have c32b1 : decide ((ji30) ≤ t174) = true := decide_eq_true c32
                                        clear c32
                                        by_cases c33 : t174 ≤ (a0.size : Int)
                                        · rw [if_pos c33] at H
                                          have c33b0 := eq_true c33
                                          have c33b1 : decide (t174 ≤ (a0.size : Int)) = true := decide_eq_true c33
                                          clear c33
                                          replace H := Option.bind_eq_some_iff.mp H
                                          obtain ⟨t175, A340, H⟩ := H
                                          replace H : (if t175 = true then (if t174 ≥ (a0.size : Int) then (some (([] : List (S46)), 21, t174)) else (if 0 ≤ t174 then (if t174 < (a0.size : Int) then (if (bt a0 t174) = 93 then (if x5_1.length < 4398046511104 then (tollbarref15_Parse.l0 kj20 a0 (x5_1 ++ [(⟨(a0.extract ((ji15) : Int).toNat (t171 : Int).toNat), a0.extract ((ji30) : Int).toNat (t174 : Int).toNat⟩ : S46)]) (wrap64 (t174 + 1))) else (none)) else (some (([] : List (S46)), 21, t174))) else (none)) else (none))) else (some (([] : List (S46)), 22, ji30))) = some (r1, r2, r3) := H
                                          have A34 := Aside0.mk A340
                                          clear A340
                                          by_cases c35 : t175 = true
                                          · subst c35
                                            have H1 : (if t174 ≥ (a0.size : Int) then (some (([] : List (S46)), 21, t174)) else (if 0 ≤ t174 then (if t174 < (a0.size : Int) then (if (bt a0 t174) = 93 then (if x5_1.length < 4398046511104 then (tollbarref15_Parse.l0 kj20 a0 (x5_1 ++ [(⟨(a0.extract ((ji15) : Int).toNat (t171 : Int).toNat), a0.extract ((ji30) : Int).toNat (t174 : Int).toNat⟩ : S46)]) (wrap64 (t174 + 1))) else (none)) else (some (([] : List (S46)), 21, t174))) else (none)) else (none))) = some (r1, r2, r3) := by rw [if_pos rfl] at H; exact H
                                            clear H
                                            have H := H1
                                            clear H1
                                            by_cases c36 : t174 ≥ (a0.size : Int)
                                            · rw [if_pos c36] at H
                                              have c36b0 : decide ((a0.size : Int) ≤ t174) = true := decide_eq_true c36
                                              clear c36
                                              simp only [Option.some.injEq, Prod.mk.injEq] at H
                                              obtain ⟨rfl, rfl, rfl⟩ := H
                                              go_wp2_with (first | ((with_reducible refine gate_callee (f := 21) rfl ?_); refine goesL_ (some 66) rfl rfl Tryd.func21 (by kernel_rfl) rfl #[.string a0, .int .i64 ji30] rfl (by (try simp only [List.map_toArray, List.map_cons, List.map_nil]); first | done | (simp only [hji30]; rfl) | rfl | (simp only [List.length_drop, List.length_take]; rfl)) ?_; (with_reducible refine (tollbarref15_word.calls kj20 a0 ji30 t174 _ A29.out).mono ?_); rintro e w' ⟨rfl, ⟨nd, rfl⟩⟩; refine ⟨_, rfl, ?_⟩; (try (rw [drewN_self wc]; generalize hq_ : World.drewN wc _ = wc; have n0_ : Aside0 (Kd.R k46 46 wc w.heap.size (fun k_ => k_ ≠ gb172) (.slice Ao22 x5_1.length co22) x5_1) := ⟨by rw [← hq_]; exact (by (with_reducible repeat (first | apply Kd.R_alloc | apply Kd.R_drewN | apply Kd.R_drew)); exact HO_5.out)⟩; have n1_ : Aside0 (wc.heap[gb172]? = some (.cells #[.string (a0.extract ((ji15) : Int).toNat (t171 : Int).toNat), .string (⟨#[]⟩ : ByteArray)] 46 (0, 0))) := ⟨by rw [← hq_]; exact (by (with_reducible repeat (first | refine blk_drewN ?_ _ | refine blk_drew ?_ | refine blk_alloc ?_ _)); exact BK172.out)⟩; have n2_ : Aside0 (Below w.heap.size w wc) := ⟨by rw [← hq_]; exact (by repeat (first | (with_reducible first | exact HB.out | apply below_alloc | apply pw_below_drewN | apply below_drew1 | refine below_set ?_ GE172.out) | exact HB.out))⟩; clear HO_5 BK172 HB hq_; have HO_5 := n0_; have BK172 := n1_; have HB := n2_; clear n0_ n1_ n2_)); have hcz37_0 : wc.cell? ⟨gb172, 0, none⟩ = some (.string (a0.extract ((ji15) : Int).toNat (t171 : Int).toNat)) := (blk_cell BK172.out 0).trans rfl; have hcz37_1 : wc.cell? ⟨gb172, 1, none⟩ = some (.string (⟨#[]⟩ : ByteArray)) := (blk_cell BK172.out 1).trans rfl; have hfz37_0 := blk_frozen BK172.out 0; have hfz37_1 := blk_frozen BK172.out 1) | ((with_reducible refine gate_callee (f := 22) rfl ?_); refine goesL_ (some 75) rfl rfl Tryd.func22 (by kernel_rfl) rfl #[.string (a0.extract ((ji30) : Int).toNat (t174 : Int).toNat)] rfl (by (try simp only [List.map_toArray, List.map_cons, List.map_nil]); first | done | (simp only [hji30]; rfl) | rfl | (simp only [List.length_drop, List.length_take]; rfl)) ?_; (with_reducible refine (tollbarref06_Ident.calls kj20 (a0.extract ((ji30) : Int).toNat (t174 : Int).toNat) true _ A34.out).mono ?_); rintro e w' ⟨rfl, ⟨nd, rfl⟩⟩; refine ⟨_, rfl, ?_⟩))
                                              go_ret3
                                              exact ⟨_, by first | rfl | (simp [errW_none, errW_some] <;> rfl) | (simp only [← hji15, ← hji30]; first | rfl | (simp [errW_none, errW_some] <;> rfl)) | (simp [*, errW_none, errW_some] <;> rfl), by first | exact Kd.R_nil _ _ _ _ _ | exact Kd.R_nil _ _ _ 0 _ | exact Kd.N_nil _ _ _ _ _ | exact Kd.N_nil _ _ _ 0 _ | exact Kd.V_nil _ _ _ _ _ | exact Kd.Q_nil _ _ _ _ _ | exact Kd.S_nil _ _ _ _ _, by repeat (first | (with_reducible first | exact HB.out | apply below_alloc | apply pw_below_drewN | apply below_drew1 | refine below_set ?_ GE172.out) | exact HB.out)⟩
                                            · rw [if_neg c36] at H
                                              have c36b0 : decide ((a0.size : Int) ≤ t174) = false := decide_eq_false c36
                                              clear c36
                                              by_cases c38 : 0 ≤ t174
                                              · rw [if_pos c38] at H
                                                have c38b0 : decide (0 ≤ t174) = true := decide_eq_true c38
                                                clear c38
                                                by_cases c39 : t174 < (a0.size : Int)
                                                · rw [if_pos c39] at H
                                                  have c39b0 : decide (t174 < (a0.size : Int)) = true := decide_eq_true c39
                                                  clear c39
                                                  by_cases c41 : (bt a0 t174) = 93
                                                  · rw [if_pos c41] at H
                                                    have c41b0 : ((bt a0 t174) == 93) = true := beq_iff_eq.mpr c41
                                                    have c41b1 : ((bt a0 t174) != 93) = false := bne_eq_false_iff_eq.mpr c41
                                                    clear c41
                                                    by_cases c42 : x5_1.length < 4398046511104
                                                    · rw [if_pos c42] at H
                                                      have LMc42 := Aside0.mk c42
                                                      clear c42
                                                      obtain ⟨y176, hy176⟩ : ∃ y_ : List (S46), y_ = (x5_1 ++ [(⟨(a0.extract ((ji15) : Int).toNat (t171 : Int).toNat), a0.extract ((ji30) : Int).toNat (t174 : Int).toNat⟩ : S46)]) := ⟨_, rfl⟩
                                                      replace H : (tollbarref15_Parse.l0 kj20 a0 y176 (wrap64 (t174 + 1))) = some (r1, r2, r3) := by first | (rw [hy176]; with_reducible exact H) | (have H2_ := (Option.bind_some _ _).symm.trans H; rw [hy176]; with_reducible exact H2_) | (have H2_ := (Option.bind_some _ _).symm.trans H; with_reducible exact H2_) | with_reducible exact H | (rw [hy176]; exact H) | exact H
                                                      have Ny176 := Aside0.mk hy176
                                                      clear hy176
                                                      have H' := Aside0.mk H
                                                      clear H
                                                      go_wp2_with (first | ((with_reducible refine gate_callee (f := 21) rfl ?_); refine goesL_ (some 66) rfl rfl Tryd.func21 (by kernel_rfl) rfl #[.string a0, .int .i64 ji30] rfl (by (try simp only [List.map_toArray, List.map_cons, List.map_nil]); first | done | (simp only [hji30]; rfl) | rfl | (simp only [List.length_drop, List.length_take]; rfl)) ?_; (with_reducible refine (tollbarref15_word.calls kj20 a0 ji30 t174 _ A29.out).mono ?_); rintro e w' ⟨rfl, ⟨nd, rfl⟩⟩; refine ⟨_, rfl, ?_⟩; (try (rw [drewN_self wc]; generalize hq_ : World.drewN wc _ = wc; have n0_ : Aside0 (Kd.R k46 46 wc w.heap.size (fun k_ => k_ ≠ gb172) (.slice Ao22 x5_1.length co22) x5_1) := ⟨by rw [← hq_]; exact (by (with_reducible repeat (first | apply Kd.R_alloc | apply Kd.R_drewN | apply Kd.R_drew)); exact HO_5.out)⟩; have n1_ : Aside0 (wc.heap[gb172]? = some (.cells #[.string (a0.extract ((ji15) : Int).toNat (t171 : Int).toNat), .string (⟨#[]⟩ : ByteArray)] 46 (0, 0))) := ⟨by rw [← hq_]; exact (by (with_reducible repeat (first | refine blk_drewN ?_ _ | refine blk_drew ?_ | refine blk_alloc ?_ _)); exact BK172.out)⟩; have n2_ : Aside0 (Below w.heap.size w wc) := ⟨by rw [← hq_]; exact (by repeat (first | (with_reducible first | exact HB.out | apply below_alloc | apply pw_below_drewN | apply below_drew1 | refine below_set ?_ GE172.out) | exact HB.out))⟩; clear HO_5 BK172 HB hq_; have HO_5 := n0_; have BK172 := n1_; have HB := n2_; clear n0_ n1_ n2_)); have hcz43_0 : wc.cell? ⟨gb172, 0, none⟩ = some (.string (a0.extract ((ji15) : Int).toNat (t171 : Int).toNat)) := (blk_cell BK172.out 0).trans rfl; have hcz43_1 : wc.cell? ⟨gb172, 1, none⟩ = some (.string (⟨#[]⟩ : ByteArray)) := (blk_cell BK172.out 1).trans rfl; have hfz43_0 := blk_frozen BK172.out 0; have hfz43_1 := blk_frozen BK172.out 1) | ((with_reducible refine gate_callee (f := 22) rfl ?_); refine goesL_ (some 75) rfl rfl Tryd.func22 (by kernel_rfl) rfl #[.string (a0.extract ((ji30) : Int).toNat (t174 : Int).toNat)] rfl (by (try simp only [List.map_toArray, List.map_cons, List.map_nil]); first | done | (simp only [hji30]; rfl) | rfl | (simp only [List.length_drop, List.length_take]; rfl)) ?_; (with_reducible refine (tollbarref06_Ident.calls kj20 (a0.extract ((ji30) : Int).toNat (t174 : Int).toNat) true _ A34.out).mono ?_); rintro e w' ⟨rfl, ⟨nd, rfl⟩⟩; refine ⟨_, rfl, ?_⟩; have p40 : 0 ≤ (t174 : Int) := of_decide_eq_true (by first | (with_reducible assumption) | assumption); have q40 : t174 < (a0.size : Int) := of_decide_eq_true (by first | (with_reducible assumption) | assumption); have hx40 := bt_at a0 t174; replace p40 := eq_true p40; replace q40 := eq_true q40) | ((with_reducible refine gate_builtin (b := .append) (xs := #[.tmp 93, .tmp 95]) rfl ?_); at_builtin; refine Kd.R_append k46 (w0 := w) w.heap.size rfl (.tmp 93) (.tmp 95) 23 46 (.agg #[(.string ⟨#[]⟩), (.string ⟨#[]⟩)]) 32 rfl Tryd.underlying23 info46 rfl (by decide) (by omega) (.slice Ao22 x5_1.length co22) x5_1 (⟨(a0.extract ((ji15) : Int).toNat (t171 : Int).toNat), a0.extract ((ji30) : Int).toNat (t174 : Int).toNat⟩ : S46) [.string (a0.extract ((ji15) : Int).toNat (t171 : Int).toNat), .string (a0.extract ((ji30) : Int).toNat (t174 : Int).toNat)] (fun k_ => k_ ≠ gb172) (fun _ => False) rfl (by first | (go_simp; done) | (go_simp; rfl)) ?aP (fun _ hk => hk.elim) ?aF ?aO ?aB ?aS ?aL ?_; (case aP => exact k46_mkM _ _ _ (⟨(a0.extract ((ji15) : Int).toNat (t171 : Int).toNat), a0.extract ((ji30) : Int).toNat (t174 : Int).toNat⟩ : S46)); (case aB => exact (by repeat (first | (with_reducible first | exact HB.out | apply below_alloc | apply pw_below_drewN | apply below_drew1 | refine below_set ?_ GE172.out) | exact HB.out))); (case aF => exact (fun k_ hk => Kd.freshB (g := gb172) (o := .cells #[.string (a0.extract ((ji15) : Int).toNat (t171 : Int).toNat), .string (a0.extract ((ji30) : Int).toNat (t174 : Int).toNat)] 46 (0, 0)) (by (with_reducible repeat (first | refine blk_drewN ?_ _ | refine blk_drew ?_ | refine blk_alloc ?_ _)); refine blk_put (cs := #[.string (a0.extract ((ji15) : Int).toNat (t171 : Int).toNat), .string (⟨#[]⟩ : ByteArray)]) ?_ 1 _ rfl; (with_reducible repeat (first | refine blk_drewN ?_ _ | refine blk_drew ?_ | refine blk_alloc ?_ _)); exact BK172.out) k_ hk)); (case aO => exact (by (with_reducible repeat (first | apply Kd.R_alloc | apply Kd.R_drewN | apply Kd.R_drew)); exact Kd.R_mono (Kd.R_far (p := ⟨gb172, 1, none⟩) (Kd.R_mono HO_5.out (fun k_ hk => (⟨hk, hk⟩ : _ ∧ k_ ≠ gb172))) (fun _ hk => hk.2) (.string (a0.extract ((ji30) : Int).toNat (t174 : Int).toNat))) (fun _ hk => hk.1))); (case aS => exact (below_size (by repeat (first | (with_reducible first | exact HB.out | apply below_alloc | apply pw_below_drewN | apply below_drew1 | refine below_set ?_ GE172.out) | exact HB.out)))); (case aL => have := LMc42.out; omega); intro v177 w44 ho hb hg hat; rw [← Ny176.out] at ho; have n0_ := Aside0.mk (blk_grown (g := gb172) (o := .cells #[.string (a0.extract ((ji15) : Int).toNat (t171 : Int).toNat), .string (a0.extract ((ji30) : Int).toNat (t174 : Int).toNat)] 46 (0, 0)) (by (with_reducible repeat (first | refine blk_drewN ?_ _ | refine blk_drew ?_ | refine blk_alloc ?_ _)); refine blk_put (cs := #[.string (a0.extract ((ji15) : Int).toNat (t171 : Int).toNat), .string (⟨#[]⟩ : ByteArray)]) ?_ 1 _ rfl; (with_reducible repeat (first | refine blk_drewN ?_ _ | refine blk_drew ?_ | refine blk_alloc ?_ _)); exact BK172.out) hg (Kd.R_away HO_5.out (fun _ hk => hk))); have n1_ := Aside0.mk (hb); have n2_ := Aside0.mk (ho); clear BK172; clear HB; clear HO_5; have BK172 := n0_; have HB := n1_; have HO178 := n2_; clear n0_ n1_ n2_; clear ho hb hg hat))
                                                      go_roundg kj20
                                                      case measure => have := HK1.out; have := HJ2.out; have := HJ5.out; have := HJ20.out; omega
                                                      case rel => exact ⟨(y176), (wrap64 (t174 + 1)), (by first | rfl | (simp; done) | (simp [*]; done) | exact congrArg Value.bool (isEmpty_ne _) | exact congrArg Value.bool (notEmpty_ne _)), H', ⟨by have := HK1.out; have := HJ2.out; have := HJ5.out; have := HJ20.out; omega⟩, ⟨by (with_reducible repeat (first | apply Kd.R_alloc | apply Kd.R_drewN | apply Kd.R_drew)); exact Kd.R_mono HO178.out (fun _ hk => trivial)⟩, ⟨by repeat (first | (with_reducible first | exact HB.out | apply below_alloc | apply pw_below_drewN | apply below_drew1 | refine below_set ?_ GE172.out) | exact HB.out)⟩⟩
                                                    · rw [if_neg c42] at H
                                                      exact absurd H (by simp)
                                                  · rw [if_neg c41] at H
                                                    have c41b0 : ((bt a0 t174) == 93) = false := beq_eq_false_iff_ne.mpr c41
                                                    have c41b1 : ((bt a0 t174) != 93) = true := bne_iff_ne.mpr c41
                                                    simp only [Option.some.injEq, Prod.mk.injEq] at H
                                                    obtain ⟨rfl, rfl, rfl⟩ := H
                                                    go_wp2_with (first | ((with_reducible refine gate_callee (f := 21) rfl ?_); refine goesL_ (some 66) rfl rfl Tryd.func21 (by kernel_rfl) rfl #[.string a0, .int .i64 ji30] rfl (by (try simp only [List.map_toArray, List.map_cons, List.map_nil]); first | done | (simp only [hji30]; rfl) | rfl | (simp only [List.length_drop, List.length_take]; rfl)) ?_; (with_reducible refine (tollbarref15_word.calls kj20 a0 ji30 t174 _ A29.out).mono ?_); rintro e w' ⟨rfl, ⟨nd, rfl⟩⟩; refine ⟨_, rfl, ?_⟩; (try (rw [drewN_self wc]; generalize hq_ : World.drewN wc _ = wc; have n0_ : Aside0 (Kd.R k46 46 wc w.heap.size (fun k_ => k_ ≠ gb172) (.slice Ao22 x5_1.length co22) x5_1) := ⟨by rw [← hq_]; exact (by (with_reducible repeat (first | apply Kd.R_alloc | apply Kd.R_drewN | apply Kd.R_drew)); exact HO_5.out)⟩; have n1_ : Aside0 (wc.heap[gb172]? = some (.cells #[.string (a0.extract ((ji15) : Int).toNat (t171 : Int).toNat), .string (⟨#[]⟩ : ByteArray)] 46 (0, 0))) := ⟨by rw [← hq_]; exact (by (with_reducible repeat (first | refine blk_drewN ?_ _ | refine blk_drew ?_ | refine blk_alloc ?_ _)); exact BK172.out)⟩; have n2_ : Aside0 (Below w.heap.size w wc) := ⟨by rw [← hq_]; exact (by repeat (first | (with_reducible first | exact HB.out | apply below_alloc | apply pw_below_drewN | apply below_drew1 | refine below_set ?_ GE172.out) | exact HB.out))⟩; clear HO_5 BK172 HB hq_; have HO_5 := n0_; have BK172 := n1_; have HB := n2_; clear n0_ n1_ n2_)); have hcz45_0 : wc.cell? ⟨gb172, 0, none⟩ = some (.string (a0.extract ((ji15) : Int).toNat (t171 : Int).toNat)) := (blk_cell BK172.out 0).trans rfl; have hcz45_1 : wc.cell? ⟨gb172, 1, none⟩ = some (.string (⟨#[]⟩ : ByteArray)) := (blk_cell BK172.out 1).trans rfl; have hfz45_0 := blk_frozen BK172.out 0; have hfz45_1 := blk_frozen BK172.out 1) | ((with_reducible refine gate_callee (f := 22) rfl ?_); refine goesL_ (some 75) rfl rfl Tryd.func22 (by kernel_rfl) rfl #[.string (a0.extract ((ji30) : Int).toNat (t174 : Int).toNat)] rfl (by (try simp only [List.map_toArray, List.map_cons, List.map_nil]); first | done | (simp only [hji30]; rfl) | rfl | (simp only [List.length_drop, List.length_take]; rfl)) ?_; (with_reducible refine (tollbarref06_Ident.calls kj20 (a0.extract ((ji30) : Int).toNat (t174 : Int).toNat) true _ A34.out).mono ?_); rintro e w' ⟨rfl, ⟨nd, rfl⟩⟩; refine ⟨_, rfl, ?_⟩; have p40 : 0 ≤ (t174 : Int) := of_decide_eq_true (by first | (with_reducible assumption) | assumption); have q40 : t174 < (a0.size : Int) := of_decide_eq_true (by first | (with_reducible assumption) | assumption); have hx40 := bt_at a0 t174; replace p40 := eq_true p40; replace q40 := eq_true q40))
                                                    go_ret3
                                                    exact ⟨_, by first | rfl | (simp [errW_none, errW_some] <;> rfl) | (simp only [← hji15, ← hji30]; first | rfl | (simp [errW_none, errW_some] <;> rfl)) | (simp [*, errW_none, errW_some] <;> rfl), by first | exact Kd.R_nil _ _ _ _ _ | exact Kd.R_nil _ _ _ 0 _ | exact Kd.N_nil _ _ _ _ _ | exact Kd.N_nil _ _ _ 0 _ | exact Kd.V_nil _ _ _ _ _ | exact Kd.Q_nil _ _ _ _ _ | exact Kd.S_nil _ _ _ _ _, by repeat (first | (with_reducible first | exact HB.out | apply below_alloc | apply pw_below_drewN | apply below_drew1 | refine below_set ?_ GE172.out) | exact HB.out)⟩
                                                · rw [if_neg c39] at H
                                                  exact absurd H (by simp)
                                              · rw [if_neg c38] at H
                                                exact absurd H (by simp)
                                          · replace c35 := Bool.eq_false_iff.mpr c35
                                            subst c35
                                            have H1 : (some (([] : List (S46)), 22, ji30)) = some (r1, r2, r3) := by rw [if_neg (show ¬ (false = true) by decide)] at H; exact H
                                            clear H
                                            have H := H1
                                            clear H1
                                            simp only [Option.some.injEq, Prod.mk.injEq] at H
                                            obtain ⟨rfl, rfl, rfl⟩ := H
                                            go_wp2_with (first | ((with_reducible refine gate_callee (f := 21) rfl ?_); refine goesL_ (some 66) rfl rfl Tryd.func21 (by kernel_rfl) rfl #[.string a0, .int .i64 ji30] rfl (by (try simp only [List.map_toArray, List.map_cons, List.map_nil]); first | done | (simp only [hji30]; rfl) | rfl | (simp only [List.length_drop, List.length_take]; rfl)) ?_; (with_reducible refine (tollbarref15_word.calls kj20 a0 ji30 t174 _ A29.out).mono ?_); rintro e w' ⟨rfl, ⟨nd, rfl⟩⟩; refine ⟨_, rfl, ?_⟩; (try (rw [drewN_self wc]; generalize hq_ : World.drewN wc _ = wc; have n0_ : Aside0 (Kd.R k46 46 wc w.heap.size (fun k_ => k_ ≠ gb172) (.slice Ao22 x5_1.length co22) x5_1) := ⟨by rw [← hq_]; exact (by (with_reducible repeat (first | apply Kd.R_alloc | apply Kd.R_drewN | apply Kd.R_drew)); exact HO_5.out)⟩; have n1_ : Aside0 (wc.heap[gb172]? = some (.cells #[.string (a0.extract ((ji15) : Int).toNat (t171 : Int).toNat), .string (⟨#[]⟩ : ByteArray)] 46 (0, 0))) := ⟨by rw [← hq_]; exact (by (with_reducible repeat (first | refine blk_drewN ?_ _ | refine blk_drew ?_ | refine blk_alloc ?_ _)); exact BK172.out)⟩; have n2_ : Aside0 (Below w.heap.size w wc) := ⟨by rw [← hq_]; exact (by repeat (first | (with_reducible first | exact HB.out | apply below_alloc | apply pw_below_drewN | apply below_drew1 | refine below_set ?_ GE172.out) | exact HB.out))⟩; clear HO_5 BK172 HB hq_; have HO_5 := n0_; have BK172 := n1_; have HB := n2_; clear n0_ n1_ n2_)); have hcz46_0 : wc.cell? ⟨gb172, 0, none⟩ = some (.string (a0.extract ((ji15) : Int).toNat (t171 : Int).toNat)) := (blk_cell BK172.out 0).trans rfl; have hcz46_1 : wc.cell? ⟨gb172, 1, none⟩ = some (.string (⟨#[]⟩ : ByteArray)) := (blk_cell BK172.out 1).trans rfl; have hfz46_0 := blk_frozen BK172.out 0; have hfz46_1 := blk_frozen BK172.out 1) | ((with_reducible refine gate_callee (f := 22) rfl ?_); refine goesL_ (some 75) rfl rfl Tryd.func22 (by kernel_rfl) rfl #[.string (a0.extract ((ji30) : Int).toNat (t174 : Int).toNat)] rfl (by (try simp only [List.map_toArray, List.map_cons, List.map_nil]); first | done | (simp only [hji30]; rfl) | rfl | (simp only [List.length_drop, List.length_take]; rfl)) ?_; (with_reducible refine (tollbarref06_Ident.calls kj20 (a0.extract ((ji30) : Int).toNat (t174 : Int).toNat) false _ A34.out).mono ?_); rintro e w' ⟨rfl, ⟨nd, rfl⟩⟩; refine ⟨_, rfl, ?_⟩))
                                            go_ret3
                                            exact ⟨_, by first | rfl | (simp [errW_none, errW_some] <;> rfl) | (simp only [← hji15, ← hji30]; first | rfl | (simp [errW_none, errW_some] <;> rfl)) | (simp [*, errW_none, errW_some] <;> rfl), by first | exact Kd.R_nil _ _ _ _ _ | exact Kd.R_nil _ _ _ 0 _ | exact Kd.N_nil _ _ _ _ _ | exact Kd.N_nil _ _ _ 0 _ | exact Kd.V_nil _ _ _ _ _ | exact Kd.Q_nil _ _ _ _ _ | exact Kd.S_nil _ _ _ _ _, by repeat (first | (with_reducible first | exact HB.out | apply below_alloc | apply pw_below_drewN | apply below_drew1 | refine below_set ?_ GE172.out) | exact HB.out)⟩
                                        · rw [if_neg c33] at H
                                          exact absurd H (by simp)
                                      · rw [if_neg c32] at H
                                        exact absurd H (by simp)
                                    · rw [if_neg c31] at H
                                      exact absurd H (by simp)
                                  · replace c28 := Bool.eq_false_iff.mpr c28
                                    subst c28
                                    have H1 : (if x5_1.length < 4398046511104 then (tollbarref15_Parse.l0 kj20 a0 (x5_1 ++ [(⟨(a0.extract ((ji15) : Int).toNat (t171 : Int).toNat), (⟨#[]⟩ : ByteArray)⟩ : S46)]) t171) else (none)) = some (r1, r2, r3) := by rw [if_neg (show ¬ (false = true) by decide)] at H; exact H
                                    clear H
                                    have H := H1
                                    clear H1
                                    by_cases c47 : x5_1.length < 4398046511104
                                    · rw [if_pos c47] at H
                                      have LMc47 := Aside0.mk c47
                                      clear c47
                                      obtain ⟨y179, hy179⟩ : ∃ y_ : List (S46), y_ = (x5_1 ++ [(⟨(a0.extract ((ji15) : Int).toNat (t171 : Int).toNat), (⟨#[]⟩ : ByteArray)⟩ : S46)]) := ⟨_, rfl⟩
                                      replace H : (tollbarref15_Parse.l0 kj20 a0 y179 t171) = some (r1, r2, r3) := by first | (rw [hy179]; with_reducible exact H) | (have H2_ := (Option.bind_some _ _).symm.trans H; rw [hy179]; with_reducible exact H2_) | (have H2_ := (Option.bind_some _ _).symm.trans H; with_reducible exact H2_) | with_reducible exact H | (rw [hy179]; exact H) | exact H
                                      have Ny179 := Aside0.mk hy179
                                      clear hy179
                                      have H' := Aside0.mk H
                                      clear H
                                      have hcz48_0 : wc.cell? ⟨gb172, 0, none⟩ = some (.string (a0.extract ((ji15) : Int).toNat (t171 : Int).toNat)) := (blk_cell BK172.out 0).trans rfl
                                      have hcz48_1 : wc.cell? ⟨gb172, 1, none⟩ = some (.string (⟨#[]⟩ : ByteArray)) := (blk_cell BK172.out 1).trans rfl
                                      have hfz48_0 := blk_frozen BK172.out 0
                                      have hfz48_1 := blk_frozen BK172.out 1
                                      go_wp2_with (first | ((with_reducible refine gate_builtin (b := .append) (xs := #[.tmp 93, .tmp 95]) rfl ?_); at_builtin; refine Kd.R_append k46 (w0 := w) w.heap.size rfl (.tmp 93) (.tmp 95) 23 46 (.agg #[(.string ⟨#[]⟩), (.string ⟨#[]⟩)]) 32 rfl Tryd.underlying23 info46 rfl (by decide) (by omega) (.slice Ao22 x5_1.length co22) x5_1 (⟨(a0.extract ((ji15) : Int).toNat (t171 : Int).toNat), (⟨#[]⟩ : ByteArray)⟩ : S46) [.string (a0.extract ((ji15) : Int).toNat (t171 : Int).toNat), .string (⟨#[]⟩ : ByteArray)] (fun k_ => k_ ≠ gb172) (fun _ => False) rfl rfl ?aP (fun _ hk => hk.elim) ?aF ?aO ?aB ?aS ?aL ?_; (case aP => exact k46_mkM _ _ _ (⟨(a0.extract ((ji15) : Int).toNat (t171 : Int).toNat), (⟨#[]⟩ : ByteArray)⟩ : S46)); (case aB => exact (by repeat (first | (with_reducible first | exact HB.out | apply below_alloc | apply pw_below_drewN | apply below_drew1 | refine below_set ?_ GE172.out) | exact HB.out))); (case aF => exact (fun k_ hk => Kd.freshB (g := gb172) (o := .cells #[.string (a0.extract ((ji15) : Int).toNat (t171 : Int).toNat), .string (⟨#[]⟩ : ByteArray)] 46 (0, 0)) (by (with_reducible repeat (first | refine blk_drewN ?_ _ | refine blk_drew ?_ | refine blk_alloc ?_ _)); exact BK172.out) k_ hk)); (case aO => exact (by (with_reducible repeat (first | apply Kd.R_alloc | apply Kd.R_drewN | apply Kd.R_drew)); exact HO_5.out)); (case aS => exact (below_size (by repeat (first | (with_reducible first | exact HB.out | apply below_alloc | apply pw_below_drewN | apply below_drew1 | refine below_set ?_ GE172.out) | exact HB.out)))); (case aL => have := LMc47.out; omega); intro v180 w49 ho hb hg hat; rw [← Ny179.out] at ho; have n0_ := Aside0.mk (blk_grown (g := gb172) (o := .cells #[.string (a0.extract ((ji15) : Int).toNat (t171 : Int).toNat), .string (⟨#[]⟩ : ByteArray)] 46 (0, 0)) (by (with_reducible repeat (first | refine blk_drewN ?_ _ | refine blk_drew ?_ | refine blk_alloc ?_ _)); exact BK172.out) hg (Kd.R_away HO_5.out (fun _ hk => hk))); have n1_ := Aside0.mk (hb); have n2_ := Aside0.mk (ho); clear BK172; clear HB; clear HO_5; have BK172 := n0_; have HB := n1_; have HO181 := n2_; clear n0_ n1_ n2_; clear ho hb hg hat))
                                      go_roundg kj20
                                      case measure => have := HK1.out; have := HJ2.out; have := HJ5.out; have := HJ20.out; omega
                                      case rel => exact ⟨(y179), (t171), (by first | rfl | (simp; done) | (simp [*]; done) | exact congrArg Value.bool (isEmpty_ne _) | exact congrArg Value.bool (notEmpty_ne _)), H', ⟨by have := HK1.out; have := HJ2.out; have := HJ5.out; have := HJ20.out; omega⟩, ⟨by (with_reducible repeat (first | apply Kd.R_alloc | apply Kd.R_drewN | apply Kd.R_drew)); exact Kd.R_mono HO181.out (fun _ hk => trivial)⟩, ⟨by repeat (first | (with_reducible first | exact HB.out | apply below_alloc | apply pw_below_drewN | apply below_drew1 | refine below_set ?_ GE172.out) | exact HB.out)⟩⟩
                                    · rw [if_neg c47] at H
                                      exact absurd H (by simp)
                            · replace c20 := Bool.eq_false_iff.mpr c20
                              subst c20
                              have H1 : (some (([] : List (S46)), 22, ji15)) = some (r1, r2, r3) := by rw [if_neg (show ¬ (false = true) by decide)] at H; exact H
                              clear H
                              have H := H1
                              clear H1
                              simp only [Option.some.injEq, Prod.mk.injEq] at H
                              obtain ⟨rfl, rfl, rfl⟩ := H
                              obtain ⟨Ao50, co50, eo50⟩ := Kd.R_slice HO_5.out
                              subst eo50
                              go_wp2_with (first | ((with_reducible refine gate_callee (f := 21) rfl ?_); refine goesL_ (some 40) rfl rfl Tryd.func21 (by kernel_rfl) rfl #[.string a0, .int .i64 ji15] rfl (by (try simp only [List.map_toArray, List.map_cons, List.map_nil]); first | done | (simp only [hji15]; rfl) | rfl | (simp only [List.length_drop, List.length_take]; rfl)) ?_; (with_reducible refine (tollbarref15_word.calls kj5 a0 ji15 t171 _ A14.out).mono ?_); rintro e w' ⟨rfl, ⟨nd, rfl⟩⟩; refine ⟨_, rfl, ?_⟩; (try (rw [drewN_self wc]; generalize hq_ : World.drewN wc _ = wc; have n0_ : Aside0 (Kd.R k46 46 wc w.heap.size (fun _ => True) (.slice Ao50 x5_1.length co50) x5_1) := ⟨by rw [← hq_]; exact (by (with_reducible repeat (first | apply Kd.R_alloc | apply Kd.R_drewN | apply Kd.R_drew)); exact HO_5.out)⟩; have n1_ : Aside0 (Below w.heap.size w wc) := ⟨by rw [← hq_]; exact (by repeat (first | (with_reducible first | exact HB.out | apply below_alloc | apply pw_below_drewN | apply below_drew1) | exact HB.out))⟩; clear HO_5 HB hq_; have HO_5 := n0_; have HB := n1_; clear n0_ n1_))) | ((with_reducible refine gate_dst (N := 8) rfl ?_); refine box_event ?hg (N := 8) ?hd (cs := #[.string (⟨#[]⟩ : ByteArray), .string (⟨#[]⟩ : ByteArray)]) (t := 46) ?hr ?_; (case hd => rfl); (case hg => rfl); (case hr => first | (go_simp; done) | (go_simp; rfl)); intro gb172 hg w51 hbox hb; have n0_ := Aside0.mk (Kd.R_below (Kd.R_elderB (by (with_reducible repeat (first | apply Kd.R_alloc | apply Kd.R_drewN | apply Kd.R_drew)); exact HO_5.out) gb172 (Nat.le_of_eq hg.symm)) hb); have n1_ := Aside0.mk (below_step (by repeat (first | (with_reducible first | exact HB.out | apply below_alloc | apply pw_below_drewN | apply below_drew1) | exact HB.out)) hb); have n2_ := Aside0.mk (hbox); have n3_ := Aside0.mk ((by rw [hg]; exact (below_size (by repeat (first | (with_reducible first | exact HB.out | apply below_alloc | apply pw_below_drewN | apply below_drew1) | exact HB.out))) : w.heap.size ≤ gb172)); have n4_ := Aside0.mk ((by rw [hg]; exact (below_size (by repeat (first | (with_reducible first | exact HB.out | apply below_alloc | apply pw_below_drewN | apply below_drew1) | exact HB.out))) : w.heap.size ≤ gb172)); clear HO_5; clear HB; have HO_5 := n0_; have HB := n1_; have BK172 := n2_; have GW172 := n3_; have GE172 := n4_; clear n0_ n1_ n2_ n3_ n4_; clear hb hbox hg; have hcz52_0 : w51.cell? ⟨gb172, 0, none⟩ = some (.string (⟨#[]⟩ : ByteArray)) := (blk_cell BK172.out 0).trans rfl; have hcz52_1 : w51.cell? ⟨gb172, 1, none⟩ = some (.string (⟨#[]⟩ : ByteArray)) := (blk_cell BK172.out 1).trans rfl; have hfz52_0 := blk_frozen BK172.out 0; have hfz52_1 := blk_frozen BK172.out 1) | ((with_reducible refine gate_callee (f := 22) rfl ?_); refine goesL_ (some 48) rfl rfl Tryd.func22 (by kernel_rfl) rfl #[.string (a0.extract ((ji15) : Int).toNat (t171 : Int).toNat)] rfl (by (try simp only [List.map_toArray, List.map_cons, List.map_nil]); first | done | (simp only [hji15]; rfl) | rfl | (simp only [List.length_drop, List.length_take]; rfl)) ?_; (with_reducible refine (tollbarref06_Ident.calls kj5 (a0.extract ((ji15) : Int).toNat (t171 : Int).toNat) false _ A19.out).mono ?_); rintro e w' ⟨rfl, ⟨nd, rfl⟩⟩; refine ⟨_, rfl, ?_⟩))
                              go_ret3
                              exact ⟨_, by first | rfl | (simp [errW_none, errW_some] <;> rfl) | (simp only [← hji15]; first | rfl | (simp [errW_none, errW_some] <;> rfl)) | (simp [*, errW_none, errW_some] <;> rfl), by first | exact Kd.R_nil _ _ _ _ _ | exact Kd.R_nil _ _ _ 0 _ | exact Kd.N_nil _ _ _ _ _ | exact Kd.N_nil _ _ _ 0 _ | exact Kd.V_nil _ _ _ _ _ | exact Kd.Q_nil _ _ _ _ _ | exact Kd.S_nil _ _ _ _ _, by repeat (first | (with_reducible first | exact HB.out | apply below_alloc | apply pw_below_drewN | apply below_drew1 | refine below_set ?_ GE172.out) | exact HB.out)⟩
                          · rw [if_neg c18] at H
                            exact absurd H (by simp)
                        · rw [if_neg c17] at H
                          exact absurd H (by simp)
                      · rw [if_neg c16] at H
                        exact absurd H (by simp)
            · replace c5 := Bool.eq_false_iff.mpr c5
              subst c5
              have H1 : (some (x5_1, 0, 0)) = some (r1, r2, r3) := by rw [if_neg (show ¬ (false = true) by decide)] at H; exact H
              clear H
              have H := H1
              clear H1
              simp only [Option.some.injEq, Prod.mk.injEq] at H
              obtain ⟨rfl, rfl, rfl⟩ := H
              go_wp2
              go_ret3
              exact ⟨_, by first | rfl | (simp [errW_none, errW_some] <;> rfl) | (simp [*, errW_none, errW_some] <;> rfl), by (with_reducible repeat (first | apply Kd.R_alloc | apply Kd.R_drewN | apply Kd.R_drew)); exact HO_5.out, by repeat (first | (with_reducible first | exact HB.out | apply below_alloc | apply pw_below_drewN | apply below_drew1) | exact HB.out)⟩

/-! ### tollbarref10_Steps: function 10 -/
def tollbarref10_Steps.l0 : Nat → List (S46) → List (S46) → Int → Option (Bool)
  | 0, _, _, _ => none
  | k + 1, x0, x1, x5 => if x5 < (x0.length : Int) then (if 0 ≤ x5 then (if x5 < (x1.length : Int) then (if (!((((rd_T46 x0 x5).f0).toList) == (((rd_T46 x1 x5).f0).toList)) || (!((((rd_T46 x0 x5).f1).toList) == (((rd_T46 x1 x5).f1).toList)))) = true then (some false) else (tollbarref10_Steps.l0 k x0 x1 (wrap64 (x5 + 1)))) else (none)) else (none)) else (some true)
def tollbarref10_Steps.f (k : Nat) (l0 : List (S46)) (l1 : List (S46)) : Option (Bool) := if (l0.length : Int) = (l1.length : Int) then (tollbarref10_Steps.l0 k l0 l1 0) else (some false)
theorem tollbarref10_Steps.mono_l : ∀ k, (∀ y0 y1 y2, LeO (tollbarref10_Steps.l0 k y0 y1 y2) (tollbarref10_Steps.l0 (k + 1) y0 y1 y2))
  | 0 => fun _ _ _ r h => by simp [tollbarref10_Steps.l0] at h
  | k + 1 => by
    have ih0 := tollbarref10_Steps.mono_l k
    · intro y0 y1 y2
      unfold tollbarref10_Steps.l0
      repeat' first
      | (with_reducible exact ih0 _ _ _)
      | (with_reducible exact LeO.refl _)
      | (with_reducible exact LeO.none _)
      | (with_reducible refine LeO.ite ?_ ?_)
      | (with_reducible refine LeO.bind ?_ (fun _ => ?_))
      | exact ih0 _ _ _
      | exact LeO.none _
      | refine LeO.ite ?_ ?_
      | refine LeO.bind ?_ (fun _ => ?_)
theorem tollbarref10_Steps.mono : ∀ a0 a1 k, LeO (tollbarref10_Steps.f k a0 a1) (tollbarref10_Steps.f (k + 1) a0 a1) := by
  intro a0 a1 k
  have ih0 := tollbarref10_Steps.mono_l k
  unfold tollbarref10_Steps.f
  repeat' first
      | (with_reducible exact ih0 _ _ _)
      | (with_reducible exact LeO.refl _)
      | (with_reducible exact LeO.none _)
      | (with_reducible refine LeO.ite ?_ ?_)
      | (with_reducible refine LeO.bind ?_ (fun _ => ?_))
      | exact ih0 _ _ _
      | exact LeO.none _
      | refine LeO.ite ?_ ?_
      | refine LeO.bind ?_ (fun _ => ?_)
set_option maxHeartbeats 8000000 in
set_option maxRecDepth 100000 in
theorem tollbarref10_Steps.calls (k : Nat) (A0 : Option Addr) (c0 : Nat) (l0 : List (S46)) (A1 : Option Addr) (c1 : Nat) (l1 : List (S46)) (r : Bool) (w : World) (hr0 : Kd.C k46 w A0 l0.length l0) (hc0 : l0.length ≤ c0) (hr1 : Kd.C k46 w A1 l1.length l1) (hc1 : l1.length ≤ c1) (h : tollbarref10_Steps.f k l0 l1 = some r) :
    Calls Tryd.prog 10 #[.slice A0 l0.length c0, .slice A1 l1.length c1] w fun e w' => e = .returned (.bool r) ∧ Drawn0 w w' := by
  have hu46 := Tryd.underlying46
  have HR0 := Aside0.mk hr0
  have HC0 := Aside0.mk hc0
  clear hr0 hc0
  have HR1 := Aside0.mk hr1
  have HC1 := Aside0.mk hc1
  clear hr1 hc1
  have H : (if (l0.length : Int) = (l1.length : Int) then (tollbarref10_Steps.l0 k l0 l1 0) else (some false)) = some r := h
  clear h
  by_cases c3 : (l0.length : Int) = (l1.length : Int)
  · rw [if_pos c3] at H
    have c3b0 : ((l0.length : Int) == (l1.length : Int)) = true := beq_iff_eq.mpr c3
    have c3b1 : ((l0.length : Int) != (l1.length : Int)) = false := bne_eq_false_iff_eq.mpr c3
    have c3b2 : (l0.length == l1.length) = true := by first | simpa using c3 | (simp at c3 ⊢; omega)
    clear c3
    have H' := Aside0.mk H
    clear H
    go_enter Tryd.func10, Tryd.ntmps10
    go_wp2
    repeat (go_quiet (fail); try go_wp2)
    go_loopg [5] k (fun kq v5 w' => ∃ (x5_1 : Int), v5 = .int .i64 x5_1 ∧ Aside0 (tollbarref10_Steps.l0 kq l0 l1 x5_1 = some r) ∧ Aside0 (kq ≤ k) ∧ Drawn0 w w')
    case atStart => exact ⟨(0), (by first | rfl | (simp; done) | (simp [*]; done) | exact congrArg Value.bool (isEmpty_ne _) | exact congrArg Value.bool (notEmpty_ne _)), H', ⟨Nat.le_refl _⟩, by repeat (first | exact Drawn0.refl _ | apply Drawn0.step)⟩
    case round =>
      clear H'
      try clear c1
      try clear p2
      try clear c3
      try clear c3b0
      try clear c3b1
      try clear c3b2
      obtain ⟨x5_1, rfl, HA, HK1, ⟨m1, rfl⟩⟩ := hrel
      cases gk with
      | zero => exact absurd HA.out (by simp [tollbarref10_Steps.l0])
      | succ k1 =>
        have H := HA.out
        clear HA
        simp only [tollbarref10_Steps.l0] at H
        by_cases c4 : x5_1 < (l0.length : Int)
        · rw [if_pos c4] at H
          have c4b0 : decide (x5_1 < (l0.length : Int)) = true := decide_eq_true c4
          clear c4
          by_cases c5 : 0 ≤ x5_1
          · rw [if_pos c5] at H
            have c5b0 : decide (0 ≤ x5_1) = true := decide_eq_true c5
            clear c5
            by_cases c6 : x5_1 < (l1.length : Int)
            · rw [if_pos c6] at H
              have c6b0 : decide (x5_1 < (l1.length : Int)) = true := decide_eq_true c6
              clear c6
              by_cases c7 : (!((((rd_T46 l0 x5_1).f0).toList) == (((rd_T46 l1 x5_1).f0).toList)) || (!((((rd_T46 l0 x5_1).f1).toList) == (((rd_T46 l1 x5_1).f1).toList)))) = true
              · rw [if_pos c7] at H
                have c7b0 : (!((((rd_T46 l0 x5_1).f0).toList) == (((rd_T46 l1 x5_1).f0).toList)) || (!((((rd_T46 l0 x5_1).f1).toList) == (((rd_T46 l1 x5_1).f1).toList)))) = true := c7
                clear c7
                obtain rfl := Option.some.inj H
                have p182 : 0 ≤ (x5_1 : Int) := of_decide_eq_true (by first | (with_reducible assumption) | assumption)
                have q182 : x5_1 < (l0.length : Int) := of_decide_eq_true (by first | (with_reducible assumption) | assumption)
                obtain ⟨ad182, e182, hx182_0, hx182_1⟩ := at_T46 HR0.out x5_1 p182 q182
                cases e182
                replace p182 := eq_true p182
                replace q182 := eq_true q182
                have p183 : 0 ≤ (x5_1 : Int) := of_decide_eq_true (by first | (with_reducible assumption) | assumption)
                have q183 : x5_1 < (l1.length : Int) := of_decide_eq_true (by first | (with_reducible assumption) | assumption)
                obtain ⟨ad183, e183, hx183_0, hx183_1⟩ := at_T46 HR1.out x5_1 p183 q183
                cases e183
                replace p183 := eq_true p183
                replace q183 := eq_true q183
                go_wp2
                repeat (go_quiet (fail); try go_wp2)
                go_ret
                exact ⟨by first | rfl | (simp; done) | (simp [*]; done), by repeat (first | exact Drawn0.refl _ | apply Drawn0.step)⟩
              · rw [if_neg c7] at H
                have c7b0 : (!((((rd_T46 l0 x5_1).f0).toList) == (((rd_T46 l1 x5_1).f0).toList)) || (!((((rd_T46 l0 x5_1).f1).toList) == (((rd_T46 l1 x5_1).f1).toList)))) = false := by simpa using c7
                clear c7
                have H' := Aside0.mk H
                clear H
                have p182 : 0 ≤ (x5_1 : Int) := of_decide_eq_true (by first | (with_reducible assumption) | assumption)
                have q182 : x5_1 < (l0.length : Int) := of_decide_eq_true (by first | (with_reducible assumption) | assumption)
                obtain ⟨ad182, e182, hx182_0, hx182_1⟩ := at_T46 HR0.out x5_1 p182 q182
                cases e182
                replace p182 := eq_true p182
                replace q182 := eq_true q182
                have p183 : 0 ≤ (x5_1 : Int) := of_decide_eq_true (by first | (with_reducible assumption) | assumption)
                have q183 : x5_1 < (l1.length : Int) := of_decide_eq_true (by first | (with_reducible assumption) | assumption)
                obtain ⟨ad183, e183, hx183_0, hx183_1⟩ := at_T46 HR1.out x5_1 p183 q183
                cases e183
                replace p183 := eq_true p183
                replace q183 := eq_true q183
                go_wp2
                repeat (go_quiet (fail); try go_wp2)
                go_roundg k1
                case measure => have := HK1.out; omega
                case rel => exact ⟨(wrap64 (x5_1 + 1)), (by first | rfl | (simp; done) | (simp [*]; done) | exact congrArg Value.bool (isEmpty_ne _) | exact congrArg Value.bool (notEmpty_ne _)), H', ⟨by have := HK1.out; omega⟩, by repeat (first | exact Drawn0.refl _ | apply Drawn0.step)⟩
            · rw [if_neg c6] at H
              exact absurd H (by simp)
          · rw [if_neg c5] at H
            exact absurd H (by simp)
        · rw [if_neg c4] at H
          have c4b0 : decide (x5_1 < (l0.length : Int)) = false := decide_eq_false c4
          clear c4
          obtain rfl := Option.some.inj H
          go_wp2
          repeat (go_quiet (fail); try go_wp2)
          go_ret
          exact ⟨by first | rfl | (simp; done) | (simp [*]; done), by repeat (first | exact Drawn0.refl _ | apply Drawn0.step)⟩
  · rw [if_neg c3] at H
    have c3b0 : ((l0.length : Int) == (l1.length : Int)) = false := beq_eq_false_iff_ne.mpr c3
    have c3b1 : ((l0.length : Int) != (l1.length : Int)) = true := bne_iff_ne.mpr c3
    have c3b2 : (l0.length == l1.length) = false := by first | simpa using c3 | (simp at c3 ⊢; omega)
    obtain rfl := Option.some.inj H
    go_enter Tryd.func10, Tryd.ntmps10
    go_wp2
    repeat (go_quiet (fail); try go_wp2)
    go_ret
    exact ⟨by first | rfl | (simp; done) | (simp [*]; done), by repeat (first | exact Drawn0.refl _ | apply Drawn0.step)⟩

end Go.Proofs.YtbbkchclefkikaaDoor.QPath
