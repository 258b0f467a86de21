-- laid by a program of this session (pp.sh) out of the translation
import Derived.Test.YtbbkchclefkikaaDoorQPathx0
import Derived.Test.YtbbkchclefkikaaDoorQPathx1
import Derived.Test.YtbbkchclefkikaaDoorQPathx3
import Derived.Test.YtbbkchclefkikaaDoorQPathx4
namespace Go.Proofs.YtbbkchclefkikaaDoor.QPath
open Go.RowKit Go.Proofs.YtbbkchclefkikaaDoorW.PrintWords Go.Proofs.YtbbkchclefkikaaDoorW.PrintLast Go.Proofs.YtbbkchclefkikaaDoorW.PrintMore
attribute [local go_sem] max2_int min2_int max_two min_two max_three min_three max_four min_four   -- for this text's walks alone
set_option linter.unusedVariables false
set_option linter.unusedSimpArgs false

attribute [local go_sem high] eqA46
-- NOT PRINTED: function 16 (tollbarlaw15_plain)

/-! ### tollbarref15_Under: function 18 -/
def tollbarref15_Under.l0 : Nat → List (S46) → List (S46) → Int → Option (Bool)
  | 0, _, _, _ => none
  | k + 1, x0, x1, x5 => if x5 < (x1.length : Int) then (if x5 ≥ (x0.length : Int) then (some false) else (if 0 ≤ x5 then (if x5 < (x0.length : Int) then (if (!((((rd_T46 x0 x5).f0).toList) == (((rd_T46 x1 x5).f0).toList)) || (!((((rd_T46 x0 x5).f1).toList) == (((rd_T46 x1 x5).f1).toList)))) = true then (some false) else (tollbarref15_Under.l0 k x0 x1 (wrap64 (x5 + 1)))) else (none)) else (none))) else (some true)
def tollbarref15_Under.f (k : Nat) (l0 : List (S46)) (l1 : List (S46)) : Option (Bool) := tollbarref15_Under.l0 k l0 l1 0
theorem tollbarref15_Under.mono_l : ∀ k, (∀ y0 y1 y2, LeO (tollbarref15_Under.l0 k y0 y1 y2) (tollbarref15_Under.l0 (k + 1) y0 y1 y2))
  | 0 => fun _ _ _ r h => by simp [tollbarref15_Under.l0] at h
  | k + 1 => by
    have ih0 := tollbarref15_Under.mono_l k
    · intro y0 y1 y2
      unfold tollbarref15_Under.l0
      repeat' first
      | (with_reducible exact ih0 _ _ _)
      | (with_reducible exact LeO.refl _)
      | (with_reducible exact LeO.none _)
      | (with_reducible refine LeO.ite ?_ ?_)
      | (with_reducible refine LeO.bind ?_ (fun _ => ?_))
      | exact ih0 _ _ _
      | exact LeO.none _
      | refine LeO.ite ?_ ?_
      | refine LeO.bind ?_ (fun _ => ?_)
theorem tollbarref15_Under.mono : ∀ a0 a1 k, LeO (tollbarref15_Under.f k a0 a1) (tollbarref15_Under.f (k + 1) a0 a1) := by
  intro a0 a1 k
  have ih0 := tollbarref15_Under.mono_l k
  unfold tollbarref15_Under.f
  repeat' first
      | (with_reducible exact ih0 _ _ _)
      | (with_reducible exact LeO.refl _)
      | (with_reducible exact LeO.none _)
      | (with_reducible refine LeO.ite ?_ ?_)
      | (with_reducible refine LeO.bind ?_ (fun _ => ?_))
      | exact ih0 _ _ _
      | exact LeO.none _
      | refine LeO.ite ?_ ?_
      | refine LeO.bind ?_ (fun _ => ?_)
set_option maxHeartbeats 8000000 in
set_option maxRecDepth 100000 in
theorem tollbarref15_Under.calls (k : Nat) (A0 : Option Addr) (c0 : Nat) (l0 : List (S46)) (A1 : Option Addr) (c1 : Nat) (l1 : List (S46)) (r : Bool) (w : World) (hr0 : Kd.C k46 w A0 l0.length l0) (hc0 : l0.length ≤ c0) (hr1 : Kd.C k46 w A1 l1.length l1) (hc1 : l1.length ≤ c1) (h : tollbarref15_Under.f k l0 l1 = some r) :
    Calls Tryd.prog 18 #[.slice A0 l0.length c0, .slice A1 l1.length c1] w fun e w' => e = .returned (.bool r) ∧ Drawn0 w w' := by
  have hu46 := Tryd.underlying46
  have HR0 := Aside0.mk hr0
  have HC0 := Aside0.mk hc0
  clear hr0 hc0
  have HR1 := Aside0.mk hr1
  have HC1 := Aside0.mk hc1
  clear hr1 hc1
  have H : (tollbarref15_Under.l0 k l0 l1 0) = some r := h
  clear h
  have H' := Aside0.mk H
  clear H
  go_enter Tryd.func18, Tryd.ntmps18
  go_wp2
  repeat (go_quiet (fail); try go_wp2)
  go_loopg [5] k (fun kq v5 w' => ∃ (x5_1 : Int), v5 = .int .i64 x5_1 ∧ Aside0 (tollbarref15_Under.l0 kq l0 l1 x5_1 = some r) ∧ Aside0 (kq ≤ k) ∧ Drawn0 w w')
  case atStart => exact ⟨(0), (by first | rfl | (simp; done) | (simp [*]; done) | exact congrArg Value.bool (isEmpty_ne _) | exact congrArg Value.bool (notEmpty_ne _)), H', ⟨Nat.le_refl _⟩, by repeat (first | exact Drawn0.refl _ | apply Drawn0.step)⟩
  case round =>
    clear H'
    try clear c1
    try clear p2
    obtain ⟨x5_1, rfl, HA, HK1, ⟨m1, rfl⟩⟩ := hrel
    cases gk with
    | zero => exact absurd HA.out (by simp [tollbarref15_Under.l0])
    | succ k1 =>
      have H := HA.out
      clear HA
      simp only [tollbarref15_Under.l0] at H
      by_cases c3 : x5_1 < (l1.length : Int)
      · rw [if_pos c3] at H
        have c3b0 : decide (x5_1 < (l1.length : Int)) = true := decide_eq_true c3
        clear c3
        by_cases c4 : x5_1 ≥ (l0.length : Int)
        · rw [if_pos c4] at H
          have c4b0 : decide ((l0.length : Int) ≤ x5_1) = true := decide_eq_true c4
          clear c4
          obtain rfl := Option.some.inj H
          go_wp2
          repeat (go_quiet (fail); try go_wp2)
          go_ret
          exact ⟨by first | rfl | (simp; done) | (simp [*]; done), by repeat (first | exact Drawn0.refl _ | apply Drawn0.step)⟩
        · rw [if_neg c4] at H
          have c4b0 : decide ((l0.length : Int) ≤ x5_1) = false := decide_eq_false c4
          clear c4
          by_cases c5 : 0 ≤ x5_1
          · rw [if_pos c5] at H
            have c5b0 : decide (0 ≤ x5_1) = true := decide_eq_true c5
            clear c5
            by_cases c6 : x5_1 < (l0.length : Int)
            · rw [if_pos c6] at H
              have c6b0 : decide (x5_1 < (l0.length : Int)) = true := decide_eq_true c6
              clear c6
              by_cases c7 : (!((((rd_T46 l0 x5_1).f0).toList) == (((rd_T46 l1 x5_1).f0).toList)) || (!((((rd_T46 l0 x5_1).f1).toList) == (((rd_T46 l1 x5_1).f1).toList)))) = true
              · rw [if_pos c7] at H
                have c7b0 : (!((((rd_T46 l0 x5_1).f0).toList) == (((rd_T46 l1 x5_1).f0).toList)) || (!((((rd_T46 l0 x5_1).f1).toList) == (((rd_T46 l1 x5_1).f1).toList)))) = true := c7
                clear c7
                obtain rfl := Option.some.inj H
                have p373 : 0 ≤ (x5_1 : Int) := of_decide_eq_true (by first | (with_reducible assumption) | assumption)
                have q373 : x5_1 < (l0.length : Int) := of_decide_eq_true (by first | (with_reducible assumption) | assumption)
                obtain ⟨ad373, e373, hx373_0, hx373_1⟩ := at_T46 HR0.out x5_1 p373 q373
                cases e373
                replace p373 := eq_true p373
                replace q373 := eq_true q373
                have p374 : 0 ≤ (x5_1 : Int) := of_decide_eq_true (by first | (with_reducible assumption) | assumption)
                have q374 : x5_1 < (l1.length : Int) := of_decide_eq_true (by first | (with_reducible assumption) | assumption)
                obtain ⟨ad374, e374, hx374_0, hx374_1⟩ := at_T46 HR1.out x5_1 p374 q374
                cases e374
                replace p374 := eq_true p374
                replace q374 := eq_true q374
                go_wp2
                repeat (go_quiet (fail); try go_wp2)
                go_ret
                exact ⟨by first | rfl | (simp; done) | (simp [*]; done), by repeat (first | exact Drawn0.refl _ | apply Drawn0.step)⟩
              · rw [if_neg c7] at H
                have c7b0 : (!((((rd_T46 l0 x5_1).f0).toList) == (((rd_T46 l1 x5_1).f0).toList)) || (!((((rd_T46 l0 x5_1).f1).toList) == (((rd_T46 l1 x5_1).f1).toList)))) = false := by simpa using c7
                clear c7
                have H' := Aside0.mk H
                clear H
                have p373 : 0 ≤ (x5_1 : Int) := of_decide_eq_true (by first | (with_reducible assumption) | assumption)
                have q373 : x5_1 < (l0.length : Int) := of_decide_eq_true (by first | (with_reducible assumption) | assumption)
                obtain ⟨ad373, e373, hx373_0, hx373_1⟩ := at_T46 HR0.out x5_1 p373 q373
                cases e373
                replace p373 := eq_true p373
                replace q373 := eq_true q373
                have p374 : 0 ≤ (x5_1 : Int) := of_decide_eq_true (by first | (with_reducible assumption) | assumption)
                have q374 : x5_1 < (l1.length : Int) := of_decide_eq_true (by first | (with_reducible assumption) | assumption)
                obtain ⟨ad374, e374, hx374_0, hx374_1⟩ := at_T46 HR1.out x5_1 p374 q374
                cases e374
                replace p374 := eq_true p374
                replace q374 := eq_true q374
                go_wp2
                repeat (go_quiet (fail); try go_wp2)
                go_roundg k1
                case measure => have := HK1.out; omega
                case rel => exact ⟨(wrap64 (x5_1 + 1)), (by first | rfl | (simp; done) | (simp [*]; done) | exact congrArg Value.bool (isEmpty_ne _) | exact congrArg Value.bool (notEmpty_ne _)), H', ⟨by have := HK1.out; omega⟩, by repeat (first | exact Drawn0.refl _ | apply Drawn0.step)⟩
            · rw [if_neg c6] at H
              exact absurd H (by simp)
          · rw [if_neg c5] at H
            exact absurd H (by simp)
      · rw [if_neg c3] at H
        have c3b0 : decide (x5_1 < (l1.length : Int)) = false := decide_eq_false c3
        clear c3
        obtain rfl := Option.some.inj H
        go_wp2
        repeat (go_quiet (fail); try go_wp2)
        go_ret
        exact ⟨by first | rfl | (simp; done) | (simp [*]; done), by repeat (first | exact Drawn0.refl _ | apply Drawn0.step)⟩

-- NOT PRINTED: function 4 (tollbarlaw15_PathShows)

/-! ### tollbarlaw15_PathOwn: function 5 -/
def tollbarlaw15_PathOwn.j0 : Nat → ByteArray → List (S46) → List (S46) → Bool → Option (Bool)
  | 0, _, _, _, _ => none
  | k + 1, x0, x6, x9, x13 => (path_Show.f x6).bind fun t426 => (if t426.toList = x0.toList then ((path_Under.f k x9 x6).bind fun t427 => (if t427 = true then ((path_Under.f k x6 x9).bind fun t428 => (if t428 = true then (some false) else ((path_Under.f k x6 ([] : List (S46))).bind fun t429 => (if t429 = true then (some x13) else (some false))))) else (some false))) else (some false))
def tollbarlaw15_PathOwn.f (k : Nat) (a0 : ByteArray) (a1_0 : ByteArray) (a1_1 : ByteArray) : Option (Bool) := (tollbarlaw15_awake.f).bind fun t409 => (if t409 = true then (if (a0.size : Int) > 500 then (some true) else ((path_Parse.f k a0).bind fun bt410 => (if bt410.2.1 = 0 then (if ([] : List (S46)).length + bt410.1.length < 4398046511104 then ((some (([] : List (S46)) ++ bt410.1 : List (S46))).bind fun y415 => (if y415.length < 4398046511104 then ((some (y415 ++ [(⟨a1_0, a1_1⟩ : S46)] : List (S46))).bind fun y418 => (if a0.size + 3 ≤ 9223372036854775807 then ((path_Parse.f k (a0 ++ (⟨#[47, 117, 112]⟩ : ByteArray))).bind fun bt421 => (if bt421.2.1 = 0 then (if (bt421.1.length : Int) = (wrap64 ((bt410.1.length : Int) + 1)) then (tollbarlaw15_PathOwn.j0 k a0 bt410.1 y418 true) else (if (bt410.1.length : Int) = 6 then (if bt421.2.1 = 13 then (tollbarlaw15_PathOwn.j0 k a0 bt410.1 y418 true) else (if (bt410.1.length : Int) = 0 then (tollbarlaw15_PathOwn.j0 k a0 bt410.1 y418 (bt421.2.1 == 22)) else (tollbarlaw15_PathOwn.j0 k a0 bt410.1 y418 false))) else (if (bt410.1.length : Int) = 0 then (tollbarlaw15_PathOwn.j0 k a0 bt410.1 y418 (bt421.2.1 == 22)) else (tollbarlaw15_PathOwn.j0 k a0 bt410.1 y418 false)))) else (if (bt410.1.length : Int) = 6 then (if bt421.2.1 = 13 then (tollbarlaw15_PathOwn.j0 k a0 bt410.1 y418 true) else (if (bt410.1.length : Int) = 0 then (tollbarlaw15_PathOwn.j0 k a0 bt410.1 y418 (bt421.2.1 == 22)) else (tollbarlaw15_PathOwn.j0 k a0 bt410.1 y418 false))) else (if (bt410.1.length : Int) = 0 then (tollbarlaw15_PathOwn.j0 k a0 bt410.1 y418 (bt421.2.1 == 22)) else (tollbarlaw15_PathOwn.j0 k a0 bt410.1 y418 false))))) else (none))) else (none))) else (none)) else (if (bt410.1.length : Int) = 0 then (if bt410.2.2 ≥ 0 then (some (decide (bt410.2.2 ≤ (a0.size : Int)))) else (some false)) else (some false))))) else (some false))
theorem tollbarlaw15_PathOwn.mono_l : ∀ k, (∀ y0 y1 y2 y3, LeO (tollbarlaw15_PathOwn.j0 k y0 y1 y2 y3) (tollbarlaw15_PathOwn.j0 (k + 1) y0 y1 y2 y3))
  | 0 => fun _ _ _ _ r h => by simp [tollbarlaw15_PathOwn.j0] at h
  | k + 1 => by
    have ih0 := tollbarlaw15_PathOwn.mono_l k
    · intro y0 y1 y2 y3
      unfold tollbarlaw15_PathOwn.j0
      repeat' first
      | (with_reducible exact ih0 _ _ _ _)
      | (with_reducible exact path_Parse.mono _ _)
      | (with_reducible exact path_Under.mono _ _ _)
      | (with_reducible exact LeO.refl _)
      | (with_reducible exact LeO.none _)
      | (with_reducible refine LeO.ite ?_ ?_)
      | (with_reducible refine LeO.bind ?_ (fun _ => ?_))
      | exact ih0 _ _ _ _
      | exact path_Parse.mono _ _
      | exact path_Under.mono _ _ _
      | exact LeO.none _
      | refine LeO.ite ?_ ?_
      | refine LeO.bind ?_ (fun _ => ?_)
theorem tollbarlaw15_PathOwn.mono : ∀ a0 a1 a2 k, LeO (tollbarlaw15_PathOwn.f k a0 a1 a2) (tollbarlaw15_PathOwn.f (k + 1) a0 a1 a2) := by
  intro a0 a1 a2 k
  have ih0 := tollbarlaw15_PathOwn.mono_l k
  unfold tollbarlaw15_PathOwn.f
  repeat' first
      | (with_reducible exact ih0 _ _ _ _)
      | (with_reducible exact path_Parse.mono _ _)
      | (with_reducible exact path_Under.mono _ _ _)
      | (with_reducible exact LeO.refl _)
      | (with_reducible exact LeO.none _)
      | (with_reducible refine LeO.ite ?_ ?_)
      | (with_reducible refine LeO.bind ?_ (fun _ => ?_))
      | exact ih0 _ _ _ _
      | exact path_Parse.mono _ _
      | exact path_Under.mono _ _ _
      | exact LeO.none _
      | refine LeO.ite ?_ ?_
      | refine LeO.bind ?_ (fun _ => ?_)
set_option maxHeartbeats 8000000 in
set_option maxRecDepth 100000 in
theorem tollbarlaw15_PathOwn.calls (k : Nat) (a0 : ByteArray) (a1_0 : ByteArray) (a1_1 : ByteArray) (r : Bool) (w : World) (h : tollbarlaw15_PathOwn.f k a0 a1_0 a1_1 = some r) :
    Calls Tryd.prog 5 #[.string a0, .agg #[.string a1_0, .string a1_1]] w fun e w' => e = .returned (.bool r) ∧ Below w.heap.size w w' := by
  have hu46 := Tryd.underlying46
  have HB := Aside0.mk (Below.refl w.heap.size w)
  have H : ((tollbarlaw15_awake.f).bind fun t409 => (if t409 = true then (if (a0.size : Int) > 500 then (some true) else ((path_Parse.f k a0).bind fun bt410 => (if bt410.2.1 = 0 then (if ([] : List (S46)).length + bt410.1.length < 4398046511104 then ((some (([] : List (S46)) ++ bt410.1 : List (S46))).bind fun y415 => (if y415.length < 4398046511104 then ((some (y415 ++ [(⟨a1_0, a1_1⟩ : S46)] : List (S46))).bind fun y418 => (if a0.size + 3 ≤ 9223372036854775807 then ((path_Parse.f k (a0 ++ (⟨#[47, 117, 112]⟩ : ByteArray))).bind fun bt421 => (if bt421.2.1 = 0 then (if (bt421.1.length : Int) = (wrap64 ((bt410.1.length : Int) + 1)) then (tollbarlaw15_PathOwn.j0 k a0 bt410.1 y418 true) else (if (bt410.1.length : Int) = 6 then (if bt421.2.1 = 13 then (tollbarlaw15_PathOwn.j0 k a0 bt410.1 y418 true) else (if (bt410.1.length : Int) = 0 then (tollbarlaw15_PathOwn.j0 k a0 bt410.1 y418 (bt421.2.1 == 22)) else (tollbarlaw15_PathOwn.j0 k a0 bt410.1 y418 false))) else (if (bt410.1.length : Int) = 0 then (tollbarlaw15_PathOwn.j0 k a0 bt410.1 y418 (bt421.2.1 == 22)) else (tollbarlaw15_PathOwn.j0 k a0 bt410.1 y418 false)))) else (if (bt410.1.length : Int) = 6 then (if bt421.2.1 = 13 then (tollbarlaw15_PathOwn.j0 k a0 bt410.1 y418 true) else (if (bt410.1.length : Int) = 0 then (tollbarlaw15_PathOwn.j0 k a0 bt410.1 y418 (bt421.2.1 == 22)) else (tollbarlaw15_PathOwn.j0 k a0 bt410.1 y418 false))) else (if (bt410.1.length : Int) = 0 then (tollbarlaw15_PathOwn.j0 k a0 bt410.1 y418 (bt421.2.1 == 22)) else (tollbarlaw15_PathOwn.j0 k a0 bt410.1 y418 false))))) else (none))) else (none))) else (none)) else (if (bt410.1.length : Int) = 0 then (if bt410.2.2 ≥ 0 then (some (decide (bt410.2.2 ≤ (a0.size : Int)))) else (some false)) else (some false))))) else (some false))) = some r := h
  clear h
  replace H := Option.bind_eq_some_iff.mp H
  obtain ⟨t409, A30, H⟩ := H
  replace H : (if t409 = true then (if (a0.size : Int) > 500 then (some true) else ((path_Parse.f k a0).bind fun bt410 => (if bt410.2.1 = 0 then (if ([] : List (S46)).length + bt410.1.length < 4398046511104 then ((some (([] : List (S46)) ++ bt410.1 : List (S46))).bind fun y415 => (if y415.length < 4398046511104 then ((some (y415 ++ [(⟨a1_0, a1_1⟩ : S46)] : List (S46))).bind fun y418 => (if a0.size + 3 ≤ 9223372036854775807 then ((path_Parse.f k (a0 ++ (⟨#[47, 117, 112]⟩ : ByteArray))).bind fun bt421 => (if bt421.2.1 = 0 then (if (bt421.1.length : Int) = (wrap64 ((bt410.1.length : Int) + 1)) then (tollbarlaw15_PathOwn.j0 k a0 bt410.1 y418 true) else (if (bt410.1.length : Int) = 6 then (if bt421.2.1 = 13 then (tollbarlaw15_PathOwn.j0 k a0 bt410.1 y418 true) else (if (bt410.1.length : Int) = 0 then (tollbarlaw15_PathOwn.j0 k a0 bt410.1 y418 (bt421.2.1 == 22)) else (tollbarlaw15_PathOwn.j0 k a0 bt410.1 y418 false))) else (if (bt410.1.length : Int) = 0 then (tollbarlaw15_PathOwn.j0 k a0 bt410.1 y418 (bt421.2.1 == 22)) else (tollbarlaw15_PathOwn.j0 k a0 bt410.1 y418 false)))) else (if (bt410.1.length : Int) = 6 then (if bt421.2.1 = 13 then (tollbarlaw15_PathOwn.j0 k a0 bt410.1 y418 true) else (if (bt410.1.length : Int) = 0 then (tollbarlaw15_PathOwn.j0 k a0 bt410.1 y418 (bt421.2.1 == 22)) else (tollbarlaw15_PathOwn.j0 k a0 bt410.1 y418 false))) else (if (bt410.1.length : Int) = 0 then (tollbarlaw15_PathOwn.j0 k a0 bt410.1 y418 (bt421.2.1 == 22)) else (tollbarlaw15_PathOwn.j0 k a0 bt410.1 y418 false))))) else (none))) else (none))) else (none)) else (if (bt410.1.length : Int) = 0 then (if bt410.2.2 ≥ 0 then (some (decide (bt410.2.2 ≤ (a0.size : Int)))) else (some false)) else (some false))))) else (some false)) = some r := H
  have A3 := Aside0.mk A30
  clear A30
  by_cases c4 : t409 = true
  · subst c4
    have H1 : (if (a0.size : Int) > 500 then (some true) else ((path_Parse.f k a0).bind fun bt410 => (if bt410.2.1 = 0 then (if ([] : List (S46)).length + bt410.1.length < 4398046511104 then ((some (([] : List (S46)) ++ bt410.1 : List (S46))).bind fun y415 => (if y415.length < 4398046511104 then ((some (y415 ++ [(⟨a1_0, a1_1⟩ : S46)] : List (S46))).bind fun y418 => (if a0.size + 3 ≤ 9223372036854775807 then ((path_Parse.f k (a0 ++ (⟨#[47, 117, 112]⟩ : ByteArray))).bind fun bt421 => (if bt421.2.1 = 0 then (if (bt421.1.length : Int) = (wrap64 ((bt410.1.length : Int) + 1)) then (tollbarlaw15_PathOwn.j0 k a0 bt410.1 y418 true) else (if (bt410.1.length : Int) = 6 then (if bt421.2.1 = 13 then (tollbarlaw15_PathOwn.j0 k a0 bt410.1 y418 true) else (if (bt410.1.length : Int) = 0 then (tollbarlaw15_PathOwn.j0 k a0 bt410.1 y418 (bt421.2.1 == 22)) else (tollbarlaw15_PathOwn.j0 k a0 bt410.1 y418 false))) else (if (bt410.1.length : Int) = 0 then (tollbarlaw15_PathOwn.j0 k a0 bt410.1 y418 (bt421.2.1 == 22)) else (tollbarlaw15_PathOwn.j0 k a0 bt410.1 y418 false)))) else (if (bt410.1.length : Int) = 6 then (if bt421.2.1 = 13 then (tollbarlaw15_PathOwn.j0 k a0 bt410.1 y418 true) else (if (bt410.1.length : Int) = 0 then (tollbarlaw15_PathOwn.j0 k a0 bt410.1 y418 (bt421.2.1 == 22)) else (tollbarlaw15_PathOwn.j0 k a0 bt410.1 y418 false))) else (if (bt410.1.length : Int) = 0 then (tollbarlaw15_PathOwn.j0 k a0 bt410.1 y418 (bt421.2.1 == 22)) else (tollbarlaw15_PathOwn.j0 k a0 bt410.1 y418 false))))) else (none))) else (none))) else (none)) else (if (bt410.1.length : Int) = 0 then (if bt410.2.2 ≥ 0 then (some (decide (bt410.2.2 ≤ (a0.size : Int)))) else (some false)) else (some false))))) = some r := by rw [if_pos rfl] at H; exact H
    clear H
    have H := H1
    clear H1
    by_cases c5 : (a0.size : Int) > 500
    · rw [if_pos c5] at H
      have c5b0 : decide (500 < (a0.size : Int)) = true := decide_eq_true c5
      have c5b1 : decide (500 < a0.size) = true := decide_eq_true (by omega)
      clear c5
      obtain rfl := Option.some.inj H
      go_enter Tryd.func5, Tryd.ntmps5
      go_wp2_with (first | ((with_reducible refine gate_dst (N := 3) rfl ?_); (try (refine gate_guard (by rfl) ?_; dsimp only)); refine box_event ?hg (N := 3) ?hd (cs := #[.string a1_0, .string a1_1]) (t := 46) ?hr ?_; (case hd => rfl); (case hg => rfl); (case hr => first | (go_simp; done) | (go_simp; rfl)); intro gb408 hg w6 hbox hb; have n0_ := Aside0.mk (below_step (by repeat (first | (with_reducible first | exact HB.out | apply below_alloc | apply pw_below_drewN | apply below_drew1) | exact HB.out)) hb); have n1_ := Aside0.mk (hbox); have n2_ := Aside0.mk ((by rw [hg]; exact (below_size (by repeat (first | (with_reducible first | exact HB.out | apply below_alloc | apply pw_below_drewN | apply below_drew1) | exact HB.out))) : w.heap.size ≤ gb408)); have n3_ := Aside0.mk ((by rw [hg]; exact (below_size (by repeat (first | (with_reducible first | exact HB.out | apply below_alloc | apply pw_below_drewN | apply below_drew1) | exact HB.out))) : w.heap.size ≤ gb408)); clear HB; have HB := n0_; have BK408 := n1_; have GW408 := n2_; have GE408 := n3_; clear n0_ n1_ n2_ n3_; clear hb hbox hg) | ((with_reducible refine gate_callee (f := 7) rfl ?_); refine goesL_ (some 14) rfl rfl Tryd.func7 (by kernel_rfl) rfl #[] rfl (by (try simp only [List.map_toArray, List.map_cons, List.map_nil]); first | done | rfl | (simp only [List.length_drop, List.length_take]; rfl)) ?_; (with_reducible refine (tollbarlaw15_awake.calls  true _ A3.out).mono ?_); rintro e w7 ⟨rfl, hb⟩; refine ⟨_, rfl, ?_⟩; have n0_ := Aside0.mk (blk_below (g := gb408) (o := .cells #[.string a1_0, .string a1_1] 46 (0, 0)) (by (with_reducible repeat (first | refine blk_drewN ?_ _ | refine blk_drew ?_ | refine blk_alloc ?_ _)); exact BK408.out) hb); have n1_ := Aside0.mk (below_step (by repeat (first | (with_reducible first | exact HB.out | apply below_alloc | apply pw_below_drewN | apply below_drew1 | refine below_set ?_ GE408.out) | exact HB.out)) hb); clear BK408; clear HB; have BK408 := n0_; have HB := n1_; clear n0_ n1_; (try clear hb); (try clear hb2); (try clear hk); (try clear hi)))
      go_ret
      exact ⟨by first | rfl | (simp [errW_none, errW_some] <;> rfl) | (simp [*, errW_none, errW_some] <;> rfl), by repeat (first | (with_reducible first | exact HB.out | apply below_alloc | apply pw_below_drewN | apply below_drew1 | refine below_set ?_ GE408.out) | exact HB.out)⟩
    · rw [if_neg c5] at H
      have c5b0 : decide (500 < (a0.size : Int)) = false := decide_eq_false c5
      have c5b1 : decide (500 < a0.size) = false := decide_eq_false (by omega)
      clear c5
      replace H := Option.bind_eq_some_iff.mp H
      obtain ⟨⟨t410, t411, t412⟩, A80, H⟩ := H
      replace H : (if t411 = 0 then (if ([] : List (S46)).length + t410.length < 4398046511104 then ((some (([] : List (S46)) ++ t410 : List (S46))).bind fun y415 => (if y415.length < 4398046511104 then ((some (y415 ++ [(⟨a1_0, a1_1⟩ : S46)] : List (S46))).bind fun y418 => (if a0.size + 3 ≤ 9223372036854775807 then ((path_Parse.f k (a0 ++ (⟨#[47, 117, 112]⟩ : ByteArray))).bind fun bt421 => (if bt421.2.1 = 0 then (if (bt421.1.length : Int) = (wrap64 ((t410.length : Int) + 1)) then (tollbarlaw15_PathOwn.j0 k a0 t410 y418 true) else (if (t410.length : Int) = 6 then (if bt421.2.1 = 13 then (tollbarlaw15_PathOwn.j0 k a0 t410 y418 true) else (if (t410.length : Int) = 0 then (tollbarlaw15_PathOwn.j0 k a0 t410 y418 (bt421.2.1 == 22)) else (tollbarlaw15_PathOwn.j0 k a0 t410 y418 false))) else (if (t410.length : Int) = 0 then (tollbarlaw15_PathOwn.j0 k a0 t410 y418 (bt421.2.1 == 22)) else (tollbarlaw15_PathOwn.j0 k a0 t410 y418 false)))) else (if (t410.length : Int) = 6 then (if bt421.2.1 = 13 then (tollbarlaw15_PathOwn.j0 k a0 t410 y418 true) else (if (t410.length : Int) = 0 then (tollbarlaw15_PathOwn.j0 k a0 t410 y418 (bt421.2.1 == 22)) else (tollbarlaw15_PathOwn.j0 k a0 t410 y418 false))) else (if (t410.length : Int) = 0 then (tollbarlaw15_PathOwn.j0 k a0 t410 y418 (bt421.2.1 == 22)) else (tollbarlaw15_PathOwn.j0 k a0 t410 y418 false))))) else (none))) else (none))) else (none)) else (if (t410.length : Int) = 0 then (if t412 ≥ 0 then (some (decide (t412 ≤ (a0.size : Int)))) else (some false)) else (some false))) = some r := H
      have A8 := Aside0.mk A80
      clear A80
      by_cases c9 : t411 = 0
      · rw [if_pos c9] at H
        have c9b0 : (t411 == 0) = true := beq_iff_eq.mpr c9
        have c9b1 : (t411 != 0) = false := bne_eq_false_iff_eq.mpr c9
        clear c9
        by_cases c10 : ([] : List (S46)).length + t410.length < 4398046511104
        · rw [if_pos c10] at H
          have LMc10 := Aside0.mk c10
          clear c10
          obtain ⟨y415, hy415⟩ : ∃ y_ : List (S46), y_ = (([] : List (S46)) ++ t410) := ⟨_, rfl⟩
          replace H : (if y415.length < 4398046511104 then ((some (y415 ++ [(⟨a1_0, a1_1⟩ : S46)] : List (S46))).bind fun y418 => (if a0.size + 3 ≤ 9223372036854775807 then ((path_Parse.f k (a0 ++ (⟨#[47, 117, 112]⟩ : ByteArray))).bind fun bt421 => (if bt421.2.1 = 0 then (if (bt421.1.length : Int) = (wrap64 ((t410.length : Int) + 1)) then (tollbarlaw15_PathOwn.j0 k a0 t410 y418 true) else (if (t410.length : Int) = 6 then (if bt421.2.1 = 13 then (tollbarlaw15_PathOwn.j0 k a0 t410 y418 true) else (if (t410.length : Int) = 0 then (tollbarlaw15_PathOwn.j0 k a0 t410 y418 (bt421.2.1 == 22)) else (tollbarlaw15_PathOwn.j0 k a0 t410 y418 false))) else (if (t410.length : Int) = 0 then (tollbarlaw15_PathOwn.j0 k a0 t410 y418 (bt421.2.1 == 22)) else (tollbarlaw15_PathOwn.j0 k a0 t410 y418 false)))) else (if (t410.length : Int) = 6 then (if bt421.2.1 = 13 then (tollbarlaw15_PathOwn.j0 k a0 t410 y418 true) else (if (t410.length : Int) = 0 then (tollbarlaw15_PathOwn.j0 k a0 t410 y418 (bt421.2.1 == 22)) else (tollbarlaw15_PathOwn.j0 k a0 t410 y418 false))) else (if (t410.length : Int) = 0 then (tollbarlaw15_PathOwn.j0 k a0 t410 y418 (bt421.2.1 == 22)) else (tollbarlaw15_PathOwn.j0 k a0 t410 y418 false))))) else (none))) else (none)) = some r := by first | (rw [hy415]; with_reducible exact H) | (have H2_ := (Option.bind_some _ _).symm.trans H; rw [hy415]; with_reducible exact H2_) | (have H2_ := (Option.bind_some _ _).symm.trans H; with_reducible exact H2_) | with_reducible exact H | (rw [hy415]; exact H) | exact H
          have Ny415 := Aside0.mk hy415
          clear hy415
          by_cases c11 : y415.length < 4398046511104
          · rw [if_pos c11] at H
            have LMc11 := Aside0.mk c11
            clear c11
            obtain ⟨y418, hy418⟩ : ∃ y_ : List (S46), y_ = (y415 ++ [(⟨a1_0, a1_1⟩ : S46)]) := ⟨_, rfl⟩
            replace H : (if a0.size + 3 ≤ 9223372036854775807 then ((path_Parse.f k (a0 ++ (⟨#[47, 117, 112]⟩ : ByteArray))).bind fun bt421 => (if bt421.2.1 = 0 then (if (bt421.1.length : Int) = (wrap64 ((t410.length : Int) + 1)) then (tollbarlaw15_PathOwn.j0 k a0 t410 y418 true) else (if (t410.length : Int) = 6 then (if bt421.2.1 = 13 then (tollbarlaw15_PathOwn.j0 k a0 t410 y418 true) else (if (t410.length : Int) = 0 then (tollbarlaw15_PathOwn.j0 k a0 t410 y418 (bt421.2.1 == 22)) else (tollbarlaw15_PathOwn.j0 k a0 t410 y418 false))) else (if (t410.length : Int) = 0 then (tollbarlaw15_PathOwn.j0 k a0 t410 y418 (bt421.2.1 == 22)) else (tollbarlaw15_PathOwn.j0 k a0 t410 y418 false)))) else (if (t410.length : Int) = 6 then (if bt421.2.1 = 13 then (tollbarlaw15_PathOwn.j0 k a0 t410 y418 true) else (if (t410.length : Int) = 0 then (tollbarlaw15_PathOwn.j0 k a0 t410 y418 (bt421.2.1 == 22)) else (tollbarlaw15_PathOwn.j0 k a0 t410 y418 false))) else (if (t410.length : Int) = 0 then (tollbarlaw15_PathOwn.j0 k a0 t410 y418 (bt421.2.1 == 22)) else (tollbarlaw15_PathOwn.j0 k a0 t410 y418 false))))) else (none)) = some r := by first | (rw [hy418]; with_reducible exact H) | (have H2_ := (Option.bind_some _ _).symm.trans H; rw [hy418]; with_reducible exact H2_) | (have H2_ := (Option.bind_some _ _).symm.trans H; with_reducible exact H2_) | with_reducible exact H | (rw [hy418]; exact H) | exact H
            have Ny418 := Aside0.mk hy418
            clear hy418
            by_cases c12 : a0.size + 3 ≤ 9223372036854775807
            · rw [if_pos c12] at H
              have c12b0 := eq_true c12
              have c12b1 : decide (a0.size + 3 ≤ 9223372036854775807) = true := decide_eq_true c12
              try have c12b2 : (9223372036854775807 < a0.size + 3) = False := eq_false (Nat.not_lt.2 c12)
              replace H := Option.bind_eq_some_iff.mp H
              obtain ⟨⟨t421, t422, t423⟩, A130, H⟩ := H
              replace H : (if t422 = 0 then (if (t421.length : Int) = (wrap64 ((t410.length : Int) + 1)) then (tollbarlaw15_PathOwn.j0 k a0 t410 y418 true) else (if (t410.length : Int) = 6 then (if t422 = 13 then (tollbarlaw15_PathOwn.j0 k a0 t410 y418 true) else (if (t410.length : Int) = 0 then (tollbarlaw15_PathOwn.j0 k a0 t410 y418 (t422 == 22)) else (tollbarlaw15_PathOwn.j0 k a0 t410 y418 false))) else (if (t410.length : Int) = 0 then (tollbarlaw15_PathOwn.j0 k a0 t410 y418 (t422 == 22)) else (tollbarlaw15_PathOwn.j0 k a0 t410 y418 false)))) else (if (t410.length : Int) = 6 then (if t422 = 13 then (tollbarlaw15_PathOwn.j0 k a0 t410 y418 true) else (if (t410.length : Int) = 0 then (tollbarlaw15_PathOwn.j0 k a0 t410 y418 (t422 == 22)) else (tollbarlaw15_PathOwn.j0 k a0 t410 y418 false))) else (if (t410.length : Int) = 0 then (tollbarlaw15_PathOwn.j0 k a0 t410 y418 (t422 == 22)) else (tollbarlaw15_PathOwn.j0 k a0 t410 y418 false)))) = some r := H
              have A13 := Aside0.mk A130
              clear A130
              have HC14 := Aside0.mk H
              clear H
              go_enter Tryd.func5, Tryd.ntmps5
              go_upto_region 13 with (first | ((with_reducible refine gate_dst (N := 3) rfl ?_); (try (refine gate_guard (by rfl) ?_; dsimp only)); refine box_event ?hg (N := 3) ?hd (cs := #[.string a1_0, .string a1_1]) (t := 46) ?hr ?_; (case hd => rfl); (case hg => rfl); (case hr => first | (go_simp; done) | (go_simp; rfl)); intro gb408 hg w15 hbox hb; have n0_ := Aside0.mk (below_step (by repeat (first | (with_reducible first | exact HB.out | apply below_alloc | apply pw_below_drewN | apply below_drew1) | exact HB.out)) hb); have n1_ := Aside0.mk (hbox); have n2_ := Aside0.mk ((by rw [hg]; exact (below_size (by repeat (first | (with_reducible first | exact HB.out | apply below_alloc | apply pw_below_drewN | apply below_drew1) | exact HB.out))) : w.heap.size ≤ gb408)); have n3_ := Aside0.mk ((by rw [hg]; exact (below_size (by repeat (first | (with_reducible first | exact HB.out | apply below_alloc | apply pw_below_drewN | apply below_drew1) | exact HB.out))) : w.heap.size ≤ gb408)); clear HB; have HB := n0_; have BK408 := n1_; have GW408 := n2_; have GE408 := n3_; clear n0_ n1_ n2_ n3_; clear hb hbox hg) | ((with_reducible refine gate_callee (f := 7) rfl ?_); refine goesL_ (some 14) rfl rfl Tryd.func7 (by kernel_rfl) rfl #[] rfl (by (try simp only [List.map_toArray, List.map_cons, List.map_nil]); first | done | rfl | (simp only [List.length_drop, List.length_take]; rfl)) ?_; (with_reducible refine (tollbarlaw15_awake.calls  true _ A3.out).mono ?_); rintro e w16 ⟨rfl, hb⟩; refine ⟨_, rfl, ?_⟩; have n0_ := Aside0.mk (blk_below (g := gb408) (o := .cells #[.string a1_0, .string a1_1] 46 (0, 0)) (by (with_reducible repeat (first | refine blk_drewN ?_ _ | refine blk_drew ?_ | refine blk_alloc ?_ _)); exact BK408.out) hb); have n1_ := Aside0.mk (below_step (by repeat (first | (with_reducible first | exact HB.out | apply below_alloc | apply pw_below_drewN | apply below_drew1 | refine below_set ?_ GE408.out) | exact HB.out)) hb); clear BK408; clear HB; have BK408 := n0_; have HB := n1_; clear n0_ n1_; (try clear hb); (try clear hb2); (try clear hk); (try clear hi)) | ((with_reducible refine gate_callee (f := 8) rfl ?_); refine goesL_ (some 22) rfl rfl Tryd.func8 (by kernel_rfl) rfl #[.string a0] rfl (by (try simp only [List.map_toArray, List.map_cons, List.map_nil]); first | done | rfl | (simp only [List.length_drop, List.length_take]; rfl)) ?_; (with_reducible refine (path_Parse.calls k a0 t410 t411 t412 _ A8.out).mono ?_); rintro e w17 ⟨v413, rfl, ho0, hb⟩; refine ⟨_, rfl, ?_⟩; have n0_ := Aside0.mk (Kd.R_lower (Kd.R_newB ho0 (g := gb408) (o := .cells #[.string a1_0, .string a1_1] 46 (0, 0)) (by (with_reducible repeat (first | refine blk_drewN ?_ _ | refine blk_drew ?_ | refine blk_alloc ?_ _)); exact BK408.out)) (below_size (by repeat (first | (with_reducible first | exact HB.out | apply below_alloc | apply pw_below_drewN | apply below_drew1 | refine below_set ?_ GE408.out) | exact HB.out)))); have n1_ := Aside0.mk (blk_below (g := gb408) (o := .cells #[.string a1_0, .string a1_1] 46 (0, 0)) (by (with_reducible repeat (first | refine blk_drewN ?_ _ | refine blk_drew ?_ | refine blk_alloc ?_ _)); exact BK408.out) hb); have n2_ := Aside0.mk (below_step (by repeat (first | (with_reducible first | exact HB.out | apply below_alloc | apply pw_below_drewN | apply below_drew1 | refine below_set ?_ GE408.out) | exact HB.out)) hb); clear BK408; clear HB; have HO414 := n0_; have BK408 := n1_; have HB := n2_; clear n0_ n1_ n2_; (try clear hb); (try clear hb2); (try clear hk); (try clear hi); (try clear ho0); obtain ⟨Ao19, co19, eo19⟩ := Kd.R_slice HO414.out; subst eo19) | ((with_reducible refine gate_builtin (b := .append) (xs := #[.tmp 41, .tmp 42]) rfl ?_); (try (refine gate_guard (by rfl) ?_; dsimp only)); at_builtin; refine Kd.R_append_rows k46 (w0 := w) w.heap.size rfl (.tmp 41) (.tmp 42) 23 46 (.agg #[(.string ⟨#[]⟩), (.string ⟨#[]⟩)]) 32 rfl Tryd.underlying23 info46 rfl (by decide) (by omega) (.slice none 0 0) ([] : List (S46)) t410 _ _ _ (fun k_ => some k_ ≠ (.slice Ao19 t410.length co19 : Value).ownBlock ∧ k_ ≠ gb408) (fun _ => False) rfl rfl ?aO ?aR (fun _ _ h => h) (fun _ h => h.elim) ?aF ?aB ?aS ?aL ?_; (case aR => repeat (first | exact (Kd.R_reads' HO414.out).2.2 | (with_reducible refine Kd.C_alloc ?_ _) | (with_reducible refine Kd.C_drewN ?_ _) | (with_reducible refine Kd.C_drew ?_))); (case aB => exact (by repeat (first | (with_reducible first | exact HB.out | apply below_alloc | apply pw_below_drewN | apply below_drew1 | refine below_set ?_ GE408.out) | exact HB.out))); (case aF => exact (fun k_ hk => ⟨Kd.fresh' (Kd.R_lt (by (with_reducible repeat (first | apply Kd.R_alloc | apply Kd.R_drewN | apply Kd.R_drew)); exact HO414.out)) k_ hk, Kd.freshB (g := gb408) (o := .cells #[.string a1_0, .string a1_1] 46 (0, 0)) (by (with_reducible repeat (first | refine blk_drewN ?_ _ | refine blk_drew ?_ | refine blk_alloc ?_ _)); exact BK408.out) k_ hk⟩)); (case aO => exact ((Kd.R_nil _ _ _ _ (fun k_ => some k_ ≠ (.slice Ao19 t410.length co19 : Value).ownBlock ∧ k_ ≠ gb408)))); (case aS => exact (below_size (by repeat (first | (with_reducible first | exact HB.out | apply below_alloc | apply pw_below_drewN | apply below_drew1 | refine below_set ?_ GE408.out) | exact HB.out)))); (case aL => have := LMc10.out; omega); intro v416 w18 ho hb hg hat; rw [← Ny415.out] at ho; have n0_ := Aside0.mk (blk_grown (g := gb408) (o := .cells #[.string a1_0, .string a1_1] 46 (0, 0)) (by (with_reducible repeat (first | refine blk_drewN ?_ _ | refine blk_drew ?_ | refine blk_alloc ?_ _)); exact BK408.out) hg (by simp [Value.ownBlock])); have n1_ := Aside0.mk (Kd.R_after (Kd.R_apart_nil (by (with_reducible repeat (first | apply Kd.R_alloc | apply Kd.R_drewN | apply Kd.R_drew)); exact HO414.out)) hg hat); have n2_ := Aside0.mk (hb); have n3_ := Aside0.mk (ho); clear BK408; clear HO414; clear HB; have BK408 := n0_; have HO414 := n1_; have HB := n2_; have HO417 := n3_; clear n0_ n1_ n2_ n3_; clear ho hb hg hat; have hcz20_0 : w18.cell? ⟨gb408, 0, none⟩ = some (.string a1_0) := (blk_cell BK408.out 0).trans rfl; have hcz20_1 : w18.cell? ⟨gb408, 1, none⟩ = some (.string a1_1) := (blk_cell BK408.out 1).trans rfl; have hfz20_0 := blk_frozen BK408.out 0; have hfz20_1 := blk_frozen BK408.out 1) | ((with_reducible refine gate_builtin (b := .append) (xs := #[.tmp 44, .tmp 46]) rfl ?_); (try (refine gate_guard (by rfl) ?_; dsimp only)); at_builtin; refine Kd.R_append k46 (w0 := w) w.heap.size rfl (.tmp 44) (.tmp 46) 23 46 (.agg #[(.string ⟨#[]⟩), (.string ⟨#[]⟩)]) 32 rfl Tryd.underlying23 info46 rfl (by decide) (by omega) v416 y415 (⟨a1_0, a1_1⟩ : S46) [.string a1_0, .string a1_1] (fun k_ => some k_ ≠ (.slice Ao19 t410.length co19 : Value).ownBlock ∧ k_ ≠ gb408) (fun _ => False) rfl rfl ?aP (fun _ hk => hk.elim) ?aF ?aO ?aB ?aS ?aL ?_; (case aP => exact k46_mkM _ _ _ (⟨a1_0, a1_1⟩ : S46)); (case aB => exact (by repeat (first | (with_reducible first | exact HB.out | apply below_alloc | apply pw_below_drewN | apply below_drew1 | refine below_set ?_ GE408.out) | exact HB.out))); (case aF => exact (fun k_ hk => ⟨Kd.fresh' (Kd.R_lt (by (with_reducible repeat (first | apply Kd.R_alloc | apply Kd.R_drewN | apply Kd.R_drew)); exact HO414.out)) k_ hk, Kd.freshB (g := gb408) (o := .cells #[.string a1_0, .string a1_1] 46 (0, 0)) (by (with_reducible repeat (first | refine blk_drewN ?_ _ | refine blk_drew ?_ | refine blk_alloc ?_ _)); exact BK408.out) k_ hk⟩)); (case aO => exact (by (with_reducible repeat (first | apply Kd.R_alloc | apply Kd.R_drewN | apply Kd.R_drew)); exact HO417.out)); (case aS => exact (below_size (by repeat (first | (with_reducible first | exact HB.out | apply below_alloc | apply pw_below_drewN | apply below_drew1 | refine below_set ?_ GE408.out) | exact HB.out)))); (case aL => have := LMc11.out; omega); intro v419 w21 ho hb hg hat; rw [← Ny418.out] at ho; have n0_ := Aside0.mk (blk_grown (g := gb408) (o := .cells #[.string a1_0, .string a1_1] 46 (0, 0)) (by (with_reducible repeat (first | refine blk_drewN ?_ _ | refine blk_drew ?_ | refine blk_alloc ?_ _)); exact BK408.out) hg (Kd.R_away HO417.out (fun _ hk => hk.2))); have n1_ := Aside0.mk (Kd.R_after (ok := (fun k_ => k_ ≠ gb408)) (by (with_reducible repeat (first | apply Kd.R_alloc | apply Kd.R_drewN | apply Kd.R_drew)); exact Kd.R_mono HO414.out (fun _ hk => ⟨hk.1.2, hk.2⟩)) hg hat); have n2_ := Aside0.mk (hb); have n3_ := Aside0.mk (ho); clear BK408; clear HO414; clear HB; clear HO417; have BK408 := n0_; have HO414 := n1_; have HB := n2_; have HO420 := n3_; clear n0_ n1_ n2_ n3_; clear ho hb hg hat) | ((with_reducible refine gate_callee (f := 8) rfl ?_); refine goesL_ (some 51) rfl rfl Tryd.func8 (by kernel_rfl) rfl #[.string (a0 ++ (⟨#[47, 117, 112]⟩ : ByteArray))] rfl (by (try simp only [List.map_toArray, List.map_cons, List.map_nil]); first | done | rfl | (simp only [List.length_drop, List.length_take]; rfl)) ?_; (with_reducible refine (path_Parse.calls k (a0 ++ (⟨#[47, 117, 112]⟩ : ByteArray)) t421 t422 t423 _ A13.out).mono ?_); rintro e w22 ⟨v424, rfl, ho0, hb⟩; refine ⟨_, rfl, ?_⟩; have n0_ := Aside0.mk (Kd.R_elder' (by (with_reducible repeat (first | apply Kd.R_alloc | apply Kd.R_drewN | apply Kd.R_drew)); exact HO414.out) (by first | exact Kd.N_base ho0 | exact Kd.R_base ho0) hb); have n1_ := Aside0.mk (Kd.R_elder' (by (with_reducible repeat (first | apply Kd.R_alloc | apply Kd.R_drewN | apply Kd.R_drew)); exact HO420.out) (by first | exact Kd.N_base ho0 | exact Kd.R_base ho0) hb); have n2_ := Aside0.mk (Kd.R_lower (Kd.R_newB (Kd.R_new' (Kd.R_new' ho0 (Kd.R_lt (by (with_reducible repeat (first | apply Kd.R_alloc | apply Kd.R_drewN | apply Kd.R_drew)); exact HO414.out))) (Kd.R_lt (by (with_reducible repeat (first | apply Kd.R_alloc | apply Kd.R_drewN | apply Kd.R_drew)); exact HO420.out))) (g := gb408) (o := .cells #[.string a1_0, .string a1_1] 46 (0, 0)) (by (with_reducible repeat (first | refine blk_drewN ?_ _ | refine blk_drew ?_ | refine blk_alloc ?_ _)); exact BK408.out)) (below_size (by repeat (first | (with_reducible first | exact HB.out | apply below_alloc | apply pw_below_drewN | apply below_drew1 | refine below_set ?_ GE408.out) | exact HB.out)))); have n3_ := Aside0.mk (blk_below (g := gb408) (o := .cells #[.string a1_0, .string a1_1] 46 (0, 0)) (by (with_reducible repeat (first | refine blk_drewN ?_ _ | refine blk_drew ?_ | refine blk_alloc ?_ _)); exact BK408.out) hb); have n4_ := Aside0.mk (below_step (by repeat (first | (with_reducible first | exact HB.out | apply below_alloc | apply pw_below_drewN | apply below_drew1 | refine below_set ?_ GE408.out) | exact HB.out)) hb); clear HO414; clear HO420; clear BK408; clear HB; have HO414 := n0_; have HO420 := n1_; have HO425 := n2_; have BK408 := n3_; have HB := n4_; clear n0_ n1_ n2_ n3_ n4_; (try clear hb); (try clear hb2); (try clear hk); (try clear hi); (try clear ho0)))
              (try simp only [Act.put, List.setIfInBounds_toArray, List.set_cons_zero, List.set_cons_succ])
              go_cut [13] (fun v13 wc => ∃ (kq : Nat) (x13_13 : Bool), v13 = .bool x13_13 ∧ Aside0 (tollbarlaw15_PathOwn.j0 kq a0 t410 y418 x13_13 = some r) ∧ Aside0 (kq ≤ k) ∧ Aside0 (Kd.R k46 46 wc w.heap.size (fun k_ => some k_ ≠ (v419 : Value).ownBlock ∧ k_ ≠ gb408) (.slice Ao19 t410.length co19) t410) ∧ Aside0 (Kd.R k46 46 wc w.heap.size (fun k_ => some k_ ≠ ((.slice Ao19 t410.length co19) : Value).ownBlock ∧ k_ ≠ gb408) v419 y418) ∧ Aside0 (wc.heap[gb408]? = some (.cells #[.string a1_0, .string a1_1] 46 (0, 0))) ∧ Aside0 (Below w.heap.size w wc))
              case first =>
                have H := HC14.out
                clear HC14
                by_cases c23 : t422 = 0
                · rw [if_pos c23] at H
                  have c23b0 : (t422 == 0) = true := beq_iff_eq.mpr c23
                  have c23b1 : (t422 != 0) = false := bne_eq_false_iff_eq.mpr c23
                  clear c23
                  (first | rw [c23b0] | (simp only [i64_w, i32_w]; rw [c23b0]) | skip)
                  by_cases c24 : (t421.length : Int) = (wrap64 ((t410.length : Int) + 1))
                  · rw [if_pos c24] at H
                    have c24b0 : ((t421.length : Int) == (wrap64 ((t410.length : Int) + 1))) = true := beq_iff_eq.mpr c24
                    have c24b1 : ((t421.length : Int) != (wrap64 ((t410.length : Int) + 1))) = false := bne_eq_false_iff_eq.mpr c24
                    clear c24
                    have H' := Aside0.mk H
                    clear H
                    obtain ⟨Ao25, co25, eo25⟩ := Kd.R_slice HO425.out
                    subst eo25
                    go_wp2
                    go_meet
                    case rel => exact ⟨_, (true), (by first | rfl | (simp; done) | (simp [*]; done) | exact congrArg Value.bool (isEmpty_ne _) | exact congrArg Value.bool (notEmpty_ne _)), H', ⟨by first | omega | exact Nat.le_refl _⟩, ⟨by (with_reducible repeat (first | apply Kd.R_alloc | apply Kd.R_drewN | apply Kd.R_drew)); exact Kd.R_mono HO414.out (fun _ hk => ⟨hk.1.2, hk.1.1⟩)⟩, ⟨by (with_reducible repeat (first | apply Kd.R_alloc | apply Kd.R_drewN | apply Kd.R_drew)); exact Kd.R_mono HO420.out (fun _ hk => ⟨hk.1.1, hk.1.2⟩)⟩, ⟨by (with_reducible repeat (first | refine blk_drewN ?_ _ | refine blk_drew ?_ | refine blk_alloc ?_ _)); exact BK408.out⟩, ⟨by repeat (first | (with_reducible first | exact HB.out | apply below_alloc | apply pw_below_drewN | apply below_drew1 | refine below_set ?_ GE408.out) | exact HB.out)⟩⟩
                  · rw [if_neg c24] at H
                    have c24b0 : ((t421.length : Int) == (wrap64 ((t410.length : Int) + 1))) = false := beq_eq_false_iff_ne.mpr c24
                    have c24b1 : ((t421.length : Int) != (wrap64 ((t410.length : Int) + 1))) = true := bne_iff_ne.mpr c24
                    by_cases c26 : (t410.length : Int) = 6
                    · rw [if_pos c26] at H
                      have c26b0 : ((t410.length : Int) == 6) = true := beq_iff_eq.mpr c26
                      have c26b1 : ((t410.length : Int) != 6) = false := bne_eq_false_iff_eq.mpr c26
                      clear c26
                      by_cases c27 : t422 = 13
                      · rw [if_pos c27] at H
                        have c27b0 : (t422 == 13) = true := beq_iff_eq.mpr c27
                        have c27b1 : (t422 != 13) = false := bne_eq_false_iff_eq.mpr c27
                        clear c27
                        have H' := Aside0.mk H
                        clear H
                        obtain ⟨Ao28, co28, eo28⟩ := Kd.R_slice HO425.out
                        subst eo28
                        go_wp2
                        go_meet
                        case rel => exact ⟨_, (true), (by first | rfl | (simp; done) | (simp [*]; done) | exact congrArg Value.bool (isEmpty_ne _) | exact congrArg Value.bool (notEmpty_ne _)), H', ⟨by first | omega | exact Nat.le_refl _⟩, ⟨by (with_reducible repeat (first | apply Kd.R_alloc | apply Kd.R_drewN | apply Kd.R_drew)); exact Kd.R_mono HO414.out (fun _ hk => ⟨hk.1.2, hk.1.1⟩)⟩, ⟨by (with_reducible repeat (first | apply Kd.R_alloc | apply Kd.R_drewN | apply Kd.R_drew)); exact Kd.R_mono HO420.out (fun _ hk => ⟨hk.1.1, hk.1.2⟩)⟩, ⟨by (with_reducible repeat (first | refine blk_drewN ?_ _ | refine blk_drew ?_ | refine blk_alloc ?_ _)); exact BK408.out⟩, ⟨by repeat (first | (with_reducible first | exact HB.out | apply below_alloc | apply pw_below_drewN | apply below_drew1 | refine below_set ?_ GE408.out) | exact HB.out)⟩⟩
                      · rw [if_neg c27] at H
                        have c27b0 : (t422 == 13) = false := beq_eq_false_iff_ne.mpr c27
                        have c27b1 : (t422 != 13) = true := bne_iff_ne.mpr c27
                        by_cases c29 : (t410.length : Int) = 0
                        · rw [if_pos c29] at H
                          have c29b0 : ((t410.length : Int) == 0) = true := beq_iff_eq.mpr c29
                          have c29b1 : ((t410.length : Int) != 0) = false := bne_eq_false_iff_eq.mpr c29
                          clear c29
                          have H' := Aside0.mk H
                          clear H
                          obtain ⟨Ao30, co30, eo30⟩ := Kd.R_slice HO425.out
                          subst eo30
                          go_wp2
                          go_meet
                          case rel => exact ⟨_, ((t422 == 22)), (by first | rfl | (simp; done) | (simp [*]; done) | exact congrArg Value.bool (isEmpty_ne _) | exact congrArg Value.bool (notEmpty_ne _)), H', ⟨by first | omega | exact Nat.le_refl _⟩, ⟨by (with_reducible repeat (first | apply Kd.R_alloc | apply Kd.R_drewN | apply Kd.R_drew)); exact Kd.R_mono HO414.out (fun _ hk => ⟨hk.1.2, hk.1.1⟩)⟩, ⟨by (with_reducible repeat (first | apply Kd.R_alloc | apply Kd.R_drewN | apply Kd.R_drew)); exact Kd.R_mono HO420.out (fun _ hk => ⟨hk.1.1, hk.1.2⟩)⟩, ⟨by (with_reducible repeat (first | refine blk_drewN ?_ _ | refine blk_drew ?_ | refine blk_alloc ?_ _)); exact BK408.out⟩, ⟨by repeat (first | (with_reducible first | exact HB.out | apply below_alloc | apply pw_below_drewN | apply below_drew1 | refine below_set ?_ GE408.out) | exact HB.out)⟩⟩
                        · rw [if_neg c29] at H
                          have c29b0 : ((t410.length : Int) == 0) = false := beq_eq_false_iff_ne.mpr c29
                          have c29b1 : ((t410.length : Int) != 0) = true := bne_iff_ne.mpr c29
                          have c29b2 : ¬ (t410 = []) := fun h_ => c29 (by rw [h_]; rfl)
                          have H' := Aside0.mk H
                          clear H
                          obtain ⟨Ao31, co31, eo31⟩ := Kd.R_slice HO425.out
                          subst eo31
                          go_wp2
                          go_meet
                          case rel => exact ⟨_, (false), (by first | rfl | (simp; done) | (simp [*]; done) | exact congrArg Value.bool (isEmpty_ne _) | exact congrArg Value.bool (notEmpty_ne _)), H', ⟨by first | omega | exact Nat.le_refl _⟩, ⟨by (with_reducible repeat (first | apply Kd.R_alloc | apply Kd.R_drewN | apply Kd.R_drew)); exact Kd.R_mono HO414.out (fun _ hk => ⟨hk.1.2, hk.1.1⟩)⟩, ⟨by (with_reducible repeat (first | apply Kd.R_alloc | apply Kd.R_drewN | apply Kd.R_drew)); exact Kd.R_mono HO420.out (fun _ hk => ⟨hk.1.1, hk.1.2⟩)⟩, ⟨by (with_reducible repeat (first | refine blk_drewN ?_ _ | refine blk_drew ?_ | refine blk_alloc ?_ _)); exact BK408.out⟩, ⟨by repeat (first | (with_reducible first | exact HB.out | apply below_alloc | apply pw_below_drewN | apply below_drew1 | refine below_set ?_ GE408.out) | exact HB.out)⟩⟩
                    · rw [if_neg c26] at H
                      have c26b0 : ((t410.length : Int) == 6) = false := beq_eq_false_iff_ne.mpr c26
                      have c26b1 : ((t410.length : Int) != 6) = true := bne_iff_ne.mpr c26
                      by_cases c32 : (t410.length : Int) = 0
                      · rw [if_pos c32] at H
                        have c32b0 : ((t410.length : Int) == 0) = true := beq_iff_eq.mpr c32
                        have c32b1 : ((t410.length : Int) != 0) = false := bne_eq_false_iff_eq.mpr c32
                        clear c32
                        have H' := Aside0.mk H
                        clear H
                        obtain ⟨Ao33, co33, eo33⟩ := Kd.R_slice HO425.out
                        subst eo33
                        go_wp2
                        go_meet
                        case rel => exact ⟨_, ((t422 == 22)), (by first | rfl | (simp; done) | (simp [*]; done) | exact congrArg Value.bool (isEmpty_ne _) | exact congrArg Value.bool (notEmpty_ne _)), H', ⟨by first | omega | exact Nat.le_refl _⟩, ⟨by (with_reducible repeat (first | apply Kd.R_alloc | apply Kd.R_drewN | apply Kd.R_drew)); exact Kd.R_mono HO414.out (fun _ hk => ⟨hk.1.2, hk.1.1⟩)⟩, ⟨by (with_reducible repeat (first | apply Kd.R_alloc | apply Kd.R_drewN | apply Kd.R_drew)); exact Kd.R_mono HO420.out (fun _ hk => ⟨hk.1.1, hk.1.2⟩)⟩, ⟨by (with_reducible repeat (first | refine blk_drewN ?_ _ | refine blk_drew ?_ | refine blk_alloc ?_ _)); exact BK408.out⟩, ⟨by repeat (first | (with_reducible first | exact HB.out | apply below_alloc | apply pw_below_drewN | apply below_drew1 | refine below_set ?_ GE408.out) | exact HB.out)⟩⟩
                      · rw [if_neg c32] at H
                        have c32b0 : ((t410.length : Int) == 0) = false := beq_eq_false_iff_ne.mpr c32
                        have c32b1 : ((t410.length : Int) != 0) = true := bne_iff_ne.mpr c32
                        have c32b2 : ¬ (t410 = []) := fun h_ => c32 (by rw [h_]; rfl)
                        have H' := Aside0.mk H
                        clear H
                        obtain ⟨Ao34, co34, eo34⟩ := Kd.R_slice HO425.out
                        subst eo34
                        go_wp2
                        go_meet
                        case rel => exact ⟨_, (false), (by first | rfl | (simp; done) | (simp [*]; done) | exact congrArg Value.bool (isEmpty_ne _) | exact congrArg Value.bool (notEmpty_ne _)), H', ⟨by first | omega | exact Nat.le_refl _⟩, ⟨by (with_reducible repeat (first | apply Kd.R_alloc | apply Kd.R_drewN | apply Kd.R_drew)); exact Kd.R_mono HO414.out (fun _ hk => ⟨hk.1.2, hk.1.1⟩)⟩, ⟨by (with_reducible repeat (first | apply Kd.R_alloc | apply Kd.R_drewN | apply Kd.R_drew)); exact Kd.R_mono HO420.out (fun _ hk => ⟨hk.1.1, hk.1.2⟩)⟩, ⟨by (with_reducible repeat (first | refine blk_drewN ?_ _ | refine blk_drew ?_ | refine blk_alloc ?_ _)); exact BK408.out⟩, ⟨by repeat (first | (with_reducible first | exact HB.out | apply below_alloc | apply pw_below_drewN | apply below_drew1 | refine below_set ?_ GE408.out) | exact HB.out)⟩⟩
                · rw [if_neg c23] at H
                  have c23b0 : (t422 == 0) = false := beq_eq_false_iff_ne.mpr c23
                  have c23b1 : (t422 != 0) = true := bne_iff_ne.mpr c23
                  (first | rw [c23b0] | (simp only [i64_w, i32_w]; rw [c23b0]) | skip)
                  by_cases c35 : (t410.length : Int) = 6
                  · rw [if_pos c35] at H
                    have c35b0 : ((t410.length : Int) == 6) = true := beq_iff_eq.mpr c35
                    have c35b1 : ((t410.length : Int) != 6) = false := bne_eq_false_iff_eq.mpr c35
                    clear c35
                    by_cases c36 : t422 = 13
                    · rw [if_pos c36] at H
                      have c36b0 : (t422 == 13) = true := beq_iff_eq.mpr c36
                      have c36b1 : (t422 != 13) = false := bne_eq_false_iff_eq.mpr c36
                      clear c36
                      have H' := Aside0.mk H
                      clear H
                      go_wp2
                      go_meet
                      case rel => exact ⟨_, (true), (by first | rfl | (simp; done) | (simp [*]; done) | exact congrArg Value.bool (isEmpty_ne _) | exact congrArg Value.bool (notEmpty_ne _)), H', ⟨by first | omega | exact Nat.le_refl _⟩, ⟨by (with_reducible repeat (first | apply Kd.R_alloc | apply Kd.R_drewN | apply Kd.R_drew)); exact Kd.R_mono HO414.out (fun _ hk => ⟨hk.1.2, hk.1.1⟩)⟩, ⟨by (with_reducible repeat (first | apply Kd.R_alloc | apply Kd.R_drewN | apply Kd.R_drew)); exact Kd.R_mono HO420.out (fun _ hk => ⟨hk.1.1, hk.1.2⟩)⟩, ⟨by (with_reducible repeat (first | refine blk_drewN ?_ _ | refine blk_drew ?_ | refine blk_alloc ?_ _)); exact BK408.out⟩, ⟨by repeat (first | (with_reducible first | exact HB.out | apply below_alloc | apply pw_below_drewN | apply below_drew1 | refine below_set ?_ GE408.out) | exact HB.out)⟩⟩
                    · rw [if_neg c36] at H
                      have c36b0 : (t422 == 13) = false := beq_eq_false_iff_ne.mpr c36
                      have c36b1 : (t422 != 13) = true := bne_iff_ne.mpr c36
                      by_cases c37 : (t410.length : Int) = 0
                      · rw [if_pos c37] at H
                        have c37b0 : ((t410.length : Int) == 0) = true := beq_iff_eq.mpr c37
                        have c37b1 : ((t410.length : Int) != 0) = false := bne_eq_false_iff_eq.mpr c37
                        clear c37
                        have H' := Aside0.mk H
                        clear H
                        go_wp2
                        go_meet
                        case rel => exact ⟨_, ((t422 == 22)), (by first | rfl | (simp; done) | (simp [*]; done) | exact congrArg Value.bool (isEmpty_ne _) | exact congrArg Value.bool (notEmpty_ne _)), H', ⟨by first | omega | exact Nat.le_refl _⟩, ⟨by (with_reducible repeat (first | apply Kd.R_alloc | apply Kd.R_drewN | apply Kd.R_drew)); exact Kd.R_mono HO414.out (fun _ hk => ⟨hk.1.2, hk.1.1⟩)⟩, ⟨by (with_reducible repeat (first | apply Kd.R_alloc | apply Kd.R_drewN | apply Kd.R_drew)); exact Kd.R_mono HO420.out (fun _ hk => ⟨hk.1.1, hk.1.2⟩)⟩, ⟨by (with_reducible repeat (first | refine blk_drewN ?_ _ | refine blk_drew ?_ | refine blk_alloc ?_ _)); exact BK408.out⟩, ⟨by repeat (first | (with_reducible first | exact HB.out | apply below_alloc | apply pw_below_drewN | apply below_drew1 | refine below_set ?_ GE408.out) | exact HB.out)⟩⟩
                      · rw [if_neg c37] at H
                        have c37b0 : ((t410.length : Int) == 0) = false := beq_eq_false_iff_ne.mpr c37
                        have c37b1 : ((t410.length : Int) != 0) = true := bne_iff_ne.mpr c37
                        have c37b2 : ¬ (t410 = []) := fun h_ => c37 (by rw [h_]; rfl)
                        have H' := Aside0.mk H
                        clear H
                        go_wp2
                        go_meet
                        case rel => exact ⟨_, (false), (by first | rfl | (simp; done) | (simp [*]; done) | exact congrArg Value.bool (isEmpty_ne _) | exact congrArg Value.bool (notEmpty_ne _)), H', ⟨by first | omega | exact Nat.le_refl _⟩, ⟨by (with_reducible repeat (first | apply Kd.R_alloc | apply Kd.R_drewN | apply Kd.R_drew)); exact Kd.R_mono HO414.out (fun _ hk => ⟨hk.1.2, hk.1.1⟩)⟩, ⟨by (with_reducible repeat (first | apply Kd.R_alloc | apply Kd.R_drewN | apply Kd.R_drew)); exact Kd.R_mono HO420.out (fun _ hk => ⟨hk.1.1, hk.1.2⟩)⟩, ⟨by (with_reducible repeat (first | refine blk_drewN ?_ _ | refine blk_drew ?_ | refine blk_alloc ?_ _)); exact BK408.out⟩, ⟨by repeat (first | (with_reducible first | exact HB.out | apply below_alloc | apply pw_below_drewN | apply below_drew1 | refine below_set ?_ GE408.out) | exact HB.out)⟩⟩
                  · rw [if_neg c35] at H
                    have c35b0 : ((t410.length : Int) == 6) = false := beq_eq_false_iff_ne.mpr c35
                    have c35b1 : ((t410.length : Int) != 6) = true := bne_iff_ne.mpr c35
                    by_cases c38 : (t410.length : Int) = 0
                    · rw [if_pos c38] at H
                      have c38b0 : ((t410.length : Int) == 0) = true := beq_iff_eq.mpr c38
                      have c38b1 : ((t410.length : Int) != 0) = false := bne_eq_false_iff_eq.mpr c38
                      clear c38
                      have H' := Aside0.mk H
                      clear H
                      go_wp2
                      go_meet
                      case rel => exact ⟨_, ((t422 == 22)), (by first | rfl | (simp; done) | (simp [*]; done) | exact congrArg Value.bool (isEmpty_ne _) | exact congrArg Value.bool (notEmpty_ne _)), H', ⟨by first | omega | exact Nat.le_refl _⟩, ⟨by (with_reducible repeat (first | apply Kd.R_alloc | apply Kd.R_drewN | apply Kd.R_drew)); exact Kd.R_mono HO414.out (fun _ hk => ⟨hk.1.2, hk.1.1⟩)⟩, ⟨by (with_reducible repeat (first | apply Kd.R_alloc | apply Kd.R_drewN | apply Kd.R_drew)); exact Kd.R_mono HO420.out (fun _ hk => ⟨hk.1.1, hk.1.2⟩)⟩, ⟨by (with_reducible repeat (first | refine blk_drewN ?_ _ | refine blk_drew ?_ | refine blk_alloc ?_ _)); exact BK408.out⟩, ⟨by repeat (first | (with_reducible first | exact HB.out | apply below_alloc | apply pw_below_drewN | apply below_drew1 | refine below_set ?_ GE408.out) | exact HB.out)⟩⟩
                    · rw [if_neg c38] at H
                      have c38b0 : ((t410.length : Int) == 0) = false := beq_eq_false_iff_ne.mpr c38
                      have c38b1 : ((t410.length : Int) != 0) = true := bne_iff_ne.mpr c38
                      have c38b2 : ¬ (t410 = []) := fun h_ => c38 (by rw [h_]; rfl)
                      have H' := Aside0.mk H
                      clear H
                      go_wp2
                      go_meet
                      case rel => exact ⟨_, (false), (by first | rfl | (simp; done) | (simp [*]; done) | exact congrArg Value.bool (isEmpty_ne _) | exact congrArg Value.bool (notEmpty_ne _)), H', ⟨by first | omega | exact Nat.le_refl _⟩, ⟨by (with_reducible repeat (first | apply Kd.R_alloc | apply Kd.R_drewN | apply Kd.R_drew)); exact Kd.R_mono HO414.out (fun _ hk => ⟨hk.1.2, hk.1.1⟩)⟩, ⟨by (with_reducible repeat (first | apply Kd.R_alloc | apply Kd.R_drewN | apply Kd.R_drew)); exact Kd.R_mono HO420.out (fun _ hk => ⟨hk.1.1, hk.1.2⟩)⟩, ⟨by (with_reducible repeat (first | refine blk_drewN ?_ _ | refine blk_drew ?_ | refine blk_alloc ?_ _)); exact BK408.out⟩, ⟨by repeat (first | (with_reducible first | exact HB.out | apply below_alloc | apply pw_below_drewN | apply below_drew1 | refine below_set ?_ GE408.out) | exact HB.out)⟩⟩
              case rest =>
                clear HC14
                try clear c1
                try clear c2
                try clear p2
                try clear c3
                try clear c4
                try clear c5
                try clear c5b0
                try clear c5b1
                try clear p6
                try clear c7
                try clear c8
                try clear c9
                try clear c9b0
                try clear c9b1
                try clear c10
                try clear c11
                try clear c12
                try clear c12b0
                try clear c12b1
                try clear c12b2
                try clear c23
                try clear c23b0
                try clear c23b1
                try clear c24
                try clear c24b0
                try clear c24b1
                try clear c26
                try clear c26b0
                try clear c26b1
                try clear c27
                try clear c27b0
                try clear c27b1
                try clear c29
                try clear c29b0
                try clear c29b1
                try clear c29b2
                try clear c32
                try clear c32b0
                try clear c32b1
                try clear c32b2
                try clear c35
                try clear c35b0
                try clear c35b1
                try clear c36
                try clear c36b0
                try clear c36b1
                try clear c37
                try clear c37b0
                try clear c37b1
                try clear c37b2
                try clear c38
                try clear c38b0
                try clear c38b1
                try clear c38b2
                try clear hcz20_0
                try clear hcz20_1
                try clear hfz20_0
                try clear hfz20_1
                obtain ⟨kq, x13_13, rfl, HA, HJ13, HO_6, HO_9, BK408, HB⟩ := hcut
                cases kq with
                | zero => exact absurd HA.out (by simp [tollbarlaw15_PathOwn.j0])
                | succ kj13 =>
                  have H := HA.out
                  clear HA
                  simp only [tollbarlaw15_PathOwn.j0] at H
                  replace H := Option.bind_eq_some_iff.mp H
                  obtain ⟨t426, A390, H⟩ := H
                  replace H : (if t426.toList = a0.toList then ((path_Under.f kj13 y418 t410).bind fun t427 => (if t427 = true then ((path_Under.f kj13 t410 y418).bind fun t428 => (if t428 = true then (some false) else ((path_Under.f kj13 t410 ([] : List (S46))).bind fun t429 => (if t429 = true then (some x13_13) else (some false))))) else (some false))) else (some false)) = some r := H
                  have A39 := Aside0.mk A390
                  clear A390
                  by_cases c40 : t426.toList = a0.toList
                  · rw [if_pos c40] at H
                    have c40b0 : (t426.toList == a0.toList) = true := beq_iff_eq.mpr c40
                    have c40b1 : (t426.toList != a0.toList) = false := bne_eq_false_iff_eq.mpr c40
                    clear c40
                    replace H := Option.bind_eq_some_iff.mp H
                    obtain ⟨t427, A410, H⟩ := H
                    replace H : (if t427 = true then ((path_Under.f kj13 t410 y418).bind fun t428 => (if t428 = true then (some false) else ((path_Under.f kj13 t410 ([] : List (S46))).bind fun t429 => (if t429 = true then (some x13_13) else (some false))))) else (some false)) = some r := H
                    have A41 := Aside0.mk A410
                    clear A410
                    by_cases c42 : t427 = true
                    · subst c42
                      have H1 : ((path_Under.f kj13 t410 y418).bind fun t428 => (if t428 = true then (some false) else ((path_Under.f kj13 t410 ([] : List (S46))).bind fun t429 => (if t429 = true then (some x13_13) else (some false))))) = some r := by rw [if_pos rfl] at H; exact H
                      clear H
                      have H := H1
                      clear H1
                      replace H := Option.bind_eq_some_iff.mp H
                      obtain ⟨t428, A430, H⟩ := H
                      replace H : (if t428 = true then (some false) else ((path_Under.f kj13 t410 ([] : List (S46))).bind fun t429 => (if t429 = true then (some x13_13) else (some false)))) = some r := H
                      have A43 := Aside0.mk A430
                      clear A430
                      by_cases c44 : t428 = true
                      · subst c44
                        have H1 : (some false) = some r := by rw [if_pos rfl] at H; exact H
                        clear H
                        have H := H1
                        clear H1
                        obtain rfl := Option.some.inj H
                        go_wp2_with (first | ((with_reducible refine gate_callee (f := 11) rfl ?_); refine goesL_ (some 84) rfl rfl Tryd.func11 (by kernel_rfl) rfl #[.slice Ao19 t410.length co19] rfl (by (try simp only [List.map_toArray, List.map_cons, List.map_nil]); first | done | rfl | (simp only [List.length_drop, List.length_take]; rfl)) ?_; (with_reducible refine (path_Show.calls _ _ t410 t426 _ ?side1 ?side2 A39.out).mono ?_); (case side1 => repeat (first | exact (Kd.R_reads' HO_6.out).2.2 | (with_reducible refine Kd.C_alloc ?_ _) | (with_reducible refine Kd.C_drewN ?_ _) | (with_reducible refine Kd.C_drew ?_))); (case side2 => exact (Kd.R_reads' HO_6.out).2.1); rintro e w45 ⟨rfl, hb⟩; refine ⟨_, rfl, ?_⟩; have n0_ := Aside0.mk (Kd.R_below (by (with_reducible repeat (first | apply Kd.R_alloc | apply Kd.R_drewN | apply Kd.R_drew)); exact HO_6.out) hb); have n1_ := Aside0.mk (Kd.R_below (by (with_reducible repeat (first | apply Kd.R_alloc | apply Kd.R_drewN | apply Kd.R_drew)); exact HO_9.out) hb); have n2_ := Aside0.mk (blk_below (g := gb408) (o := .cells #[.string a1_0, .string a1_1] 46 (0, 0)) (by (with_reducible repeat (first | refine blk_drewN ?_ _ | refine blk_drew ?_ | refine blk_alloc ?_ _)); exact BK408.out) hb); have n3_ := Aside0.mk (below_step (by repeat (first | (with_reducible first | exact HB.out | apply below_alloc | apply pw_below_drewN | apply below_drew1 | refine below_set ?_ GE408.out) | exact HB.out)) hb); clear HO_6; clear HO_9; clear BK408; clear HB; have HO_6 := n0_; have HO_9 := n1_; have BK408 := n2_; have HB := n3_; clear n0_ n1_ n2_ n3_; (try clear hb); (try clear hb2); (try clear hk); (try clear hi); obtain ⟨Ao46, co46, eo46⟩ := Kd.R_slice HO_9.out; subst eo46) | (go_at_call 17; (with_reducible refine (path_Under.calls kj13 _ _ y418 _ _ t410 true _ ?side1 ?side2 ?side3 ?side4 A41.out).mono ?_); (case side1 => repeat (first | exact (Kd.R_reads' HO_9.out).2.2 | (with_reducible refine Kd.C_alloc ?_ _) | (with_reducible refine Kd.C_drewN ?_ _) | (with_reducible refine Kd.C_drew ?_))); (case side2 => exact (Kd.R_reads' HO_9.out).2.1); (case side3 => repeat (first | exact (Kd.R_reads' HO_6.out).2.2 | (with_reducible refine Kd.C_alloc ?_ _) | (with_reducible refine Kd.C_drewN ?_ _) | (with_reducible refine Kd.C_drew ?_))); (case side4 => exact (Kd.R_reads' HO_6.out).2.1); rintro e w47 ⟨rfl, hb⟩; have n0_ := Aside0.mk (Kd.R_below (by (with_reducible repeat (first | apply Kd.R_alloc | apply Kd.R_drewN | apply Kd.R_drew)); exact HO_6.out) hb); have n1_ := Aside0.mk (Kd.R_below (by (with_reducible repeat (first | apply Kd.R_alloc | apply Kd.R_drewN | apply Kd.R_drew)); exact HO_9.out) hb); have n2_ := Aside0.mk (blk_below (g := gb408) (o := .cells #[.string a1_0, .string a1_1] 46 (0, 0)) (by (with_reducible repeat (first | refine blk_drewN ?_ _ | refine blk_drew ?_ | refine blk_alloc ?_ _)); exact BK408.out) hb); have n3_ := Aside0.mk (below_step (by repeat (first | (with_reducible first | exact HB.out | apply below_alloc | apply pw_below_drewN | apply below_drew1 | refine below_set ?_ GE408.out) | exact HB.out)) hb); clear HO_6; clear HO_9; clear BK408; clear HB; have HO_6 := n0_; have HO_9 := n1_; have BK408 := n2_; have HB := n3_; clear n0_ n1_ n2_ n3_; (try clear hb); (try clear hb2); (try clear hk); (try clear hi)) | (go_at_call 17; (with_reducible refine (path_Under.calls kj13 _ _ t410 _ _ y418 true _ ?side1 ?side2 ?side3 ?side4 A43.out).mono ?_); (case side1 => repeat (first | exact (Kd.R_reads' HO_6.out).2.2 | (with_reducible refine Kd.C_alloc ?_ _) | (with_reducible refine Kd.C_drewN ?_ _) | (with_reducible refine Kd.C_drew ?_))); (case side2 => exact (Kd.R_reads' HO_6.out).2.1); (case side3 => repeat (first | exact (Kd.R_reads' HO_9.out).2.2 | (with_reducible refine Kd.C_alloc ?_ _) | (with_reducible refine Kd.C_drewN ?_ _) | (with_reducible refine Kd.C_drew ?_))); (case side4 => exact (Kd.R_reads' HO_9.out).2.1); rintro e w48 ⟨rfl, hb⟩; have n0_ := Aside0.mk (Kd.R_below (by (with_reducible repeat (first | apply Kd.R_alloc | apply Kd.R_drewN | apply Kd.R_drew)); exact HO_6.out) hb); have n1_ := Aside0.mk (Kd.R_below (by (with_reducible repeat (first | apply Kd.R_alloc | apply Kd.R_drewN | apply Kd.R_drew)); exact HO_9.out) hb); have n2_ := Aside0.mk (blk_below (g := gb408) (o := .cells #[.string a1_0, .string a1_1] 46 (0, 0)) (by (with_reducible repeat (first | refine blk_drewN ?_ _ | refine blk_drew ?_ | refine blk_alloc ?_ _)); exact BK408.out) hb); have n3_ := Aside0.mk (below_step (by repeat (first | (with_reducible first | exact HB.out | apply below_alloc | apply pw_below_drewN | apply below_drew1 | refine below_set ?_ GE408.out) | exact HB.out)) hb); clear HO_6; clear HO_9; clear BK408; clear HB; have HO_6 := n0_; have HO_9 := n1_; have BK408 := n2_; have HB := n3_; clear n0_ n1_ n2_ n3_; (try clear hb); (try clear hb2); (try clear hk); (try clear hi)))
                        go_ret
                        exact ⟨by first | rfl | (simp [errW_none, errW_some] <;> rfl) | (simp [*, errW_none, errW_some] <;> rfl), by repeat (first | (with_reducible first | exact HB.out | apply below_alloc | apply pw_below_drewN | apply below_drew1 | refine below_set ?_ GE408.out) | exact HB.out)⟩
                      · replace c44 := Bool.eq_false_iff.mpr c44
                        subst c44
                        have H1 : ((path_Under.f kj13 t410 ([] : List (S46))).bind fun t429 => (if t429 = true then (some x13_13) else (some false))) = some r := by rw [if_neg (show ¬ (false = true) by decide)] at H; exact H
                        clear H
                        have H := H1
                        clear H1
                        replace H := Option.bind_eq_some_iff.mp H
                        obtain ⟨t429, A490, H⟩ := H
                        replace H : (if t429 = true then (some x13_13) else (some false)) = some r := H
                        have A49 := Aside0.mk A490
                        clear A490
                        by_cases c50 : t429 = true
                        · subst c50
                          have H1 : (some x13_13) = some r := by rw [if_pos rfl] at H; exact H
                          clear H
                          have H := H1
                          clear H1
                          obtain rfl := Option.some.inj H
                          go_wp2_with (first | ((with_reducible refine gate_callee (f := 11) rfl ?_); refine goesL_ (some 84) rfl rfl Tryd.func11 (by kernel_rfl) rfl #[.slice Ao19 t410.length co19] rfl (by (try simp only [List.map_toArray, List.map_cons, List.map_nil]); first | done | rfl | (simp only [List.length_drop, List.length_take]; rfl)) ?_; (with_reducible refine (path_Show.calls _ _ t410 t426 _ ?side1 ?side2 A39.out).mono ?_); (case side1 => repeat (first | exact (Kd.R_reads' HO_6.out).2.2 | (with_reducible refine Kd.C_alloc ?_ _) | (with_reducible refine Kd.C_drewN ?_ _) | (with_reducible refine Kd.C_drew ?_))); (case side2 => exact (Kd.R_reads' HO_6.out).2.1); rintro e w51 ⟨rfl, hb⟩; refine ⟨_, rfl, ?_⟩; have n0_ := Aside0.mk (Kd.R_below (by (with_reducible repeat (first | apply Kd.R_alloc | apply Kd.R_drewN | apply Kd.R_drew)); exact HO_6.out) hb); have n1_ := Aside0.mk (Kd.R_below (by (with_reducible repeat (first | apply Kd.R_alloc | apply Kd.R_drewN | apply Kd.R_drew)); exact HO_9.out) hb); have n2_ := Aside0.mk (blk_below (g := gb408) (o := .cells #[.string a1_0, .string a1_1] 46 (0, 0)) (by (with_reducible repeat (first | refine blk_drewN ?_ _ | refine blk_drew ?_ | refine blk_alloc ?_ _)); exact BK408.out) hb); have n3_ := Aside0.mk (below_step (by repeat (first | (with_reducible first | exact HB.out | apply below_alloc | apply pw_below_drewN | apply below_drew1 | refine below_set ?_ GE408.out) | exact HB.out)) hb); clear HO_6; clear HO_9; clear BK408; clear HB; have HO_6 := n0_; have HO_9 := n1_; have BK408 := n2_; have HB := n3_; clear n0_ n1_ n2_ n3_; (try clear hb); (try clear hb2); (try clear hk); (try clear hi); obtain ⟨Ao52, co52, eo52⟩ := Kd.R_slice HO_9.out; subst eo52) | (go_at_call 17; (with_reducible refine (path_Under.calls kj13 _ _ y418 _ _ t410 true _ ?side1 ?side2 ?side3 ?side4 A41.out).mono ?_); (case side1 => repeat (first | exact (Kd.R_reads' HO_9.out).2.2 | (with_reducible refine Kd.C_alloc ?_ _) | (with_reducible refine Kd.C_drewN ?_ _) | (with_reducible refine Kd.C_drew ?_))); (case side2 => exact (Kd.R_reads' HO_9.out).2.1); (case side3 => repeat (first | exact (Kd.R_reads' HO_6.out).2.2 | (with_reducible refine Kd.C_alloc ?_ _) | (with_reducible refine Kd.C_drewN ?_ _) | (with_reducible refine Kd.C_drew ?_))); (case side4 => exact (Kd.R_reads' HO_6.out).2.1); rintro e w53 ⟨rfl, hb⟩; have n0_ := Aside0.mk (Kd.R_below (by (with_reducible repeat (first | apply Kd.R_alloc | apply Kd.R_drewN | apply Kd.R_drew)); exact HO_6.out) hb); have n1_ := Aside0.mk (Kd.R_below (by (with_reducible repeat (first | apply Kd.R_alloc | apply Kd.R_drewN | apply Kd.R_drew)); exact HO_9.out) hb); have n2_ := Aside0.mk (blk_below (g := gb408) (o := .cells #[.string a1_0, .string a1_1] 46 (0, 0)) (by (with_reducible repeat (first | refine blk_drewN ?_ _ | refine blk_drew ?_ | refine blk_alloc ?_ _)); exact BK408.out) hb); have n3_ := Aside0.mk (below_step (by repeat (first | (with_reducible first | exact HB.out | apply below_alloc | apply pw_below_drewN | apply below_drew1 | refine below_set ?_ GE408.out) | exact HB.out)) hb); clear HO_6; clear HO_9; clear BK408; clear HB; have HO_6 := n0_; have HO_9 := n1_; have BK408 := n2_; have HB := n3_; clear n0_ n1_ n2_ n3_; (try clear hb); (try clear hb2); (try clear hk); (try clear hi)) | (go_at_call 17; (with_reducible refine (path_Under.calls kj13 _ _ t410 _ _ y418 false _ ?side1 ?side2 ?side3 ?side4 A43.out).mono ?_); (case side1 => repeat (first | exact (Kd.R_reads' HO_6.out).2.2 | (with_reducible refine Kd.C_alloc ?_ _) | (with_reducible refine Kd.C_drewN ?_ _) | (with_reducible refine Kd.C_drew ?_))); (case side2 => exact (Kd.R_reads' HO_6.out).2.1); (case side3 => repeat (first | exact (Kd.R_reads' HO_9.out).2.2 | (with_reducible refine Kd.C_alloc ?_ _) | (with_reducible refine Kd.C_drewN ?_ _) | (with_reducible refine Kd.C_drew ?_))); (case side4 => exact (Kd.R_reads' HO_9.out).2.1); rintro e w54 ⟨rfl, hb⟩; have n0_ := Aside0.mk (Kd.R_below (by (with_reducible repeat (first | apply Kd.R_alloc | apply Kd.R_drewN | apply Kd.R_drew)); exact HO_6.out) hb); have n1_ := Aside0.mk (Kd.R_below (by (with_reducible repeat (first | apply Kd.R_alloc | apply Kd.R_drewN | apply Kd.R_drew)); exact HO_9.out) hb); have n2_ := Aside0.mk (blk_below (g := gb408) (o := .cells #[.string a1_0, .string a1_1] 46 (0, 0)) (by (with_reducible repeat (first | refine blk_drewN ?_ _ | refine blk_drew ?_ | refine blk_alloc ?_ _)); exact BK408.out) hb); have n3_ := Aside0.mk (below_step (by repeat (first | (with_reducible first | exact HB.out | apply below_alloc | apply pw_below_drewN | apply below_drew1 | refine below_set ?_ GE408.out) | exact HB.out)) hb); clear HO_6; clear HO_9; clear BK408; clear HB; have HO_6 := n0_; have HO_9 := n1_; have BK408 := n2_; have HB := n3_; clear n0_ n1_ n2_ n3_; (try clear hb); (try clear hb2); (try clear hk); (try clear hi)) | (go_at_call 17; (refine (path_Under.calls kj13 _ _ t410 _ _ ([] : List (S46)) true _ ?side1 ?side2 ?side3 ?side4 A49.out).mono ?_); (case side1 => repeat (first | exact (Kd.R_reads' HO_6.out).2.2 | (with_reducible refine Kd.C_alloc ?_ _) | (with_reducible refine Kd.C_drewN ?_ _) | (with_reducible refine Kd.C_drew ?_))); (case side2 => exact (Kd.R_reads' HO_6.out).2.1); (case side3 => exact Kd.C_nil _ _); (case side4 => exact Nat.le_refl _); rintro e w55 ⟨rfl, hb⟩; have n0_ := Aside0.mk (Kd.R_below (by (with_reducible repeat (first | apply Kd.R_alloc | apply Kd.R_drewN | apply Kd.R_drew)); exact HO_6.out) hb); have n1_ := Aside0.mk (Kd.R_below (by (with_reducible repeat (first | apply Kd.R_alloc | apply Kd.R_drewN | apply Kd.R_drew)); exact HO_9.out) hb); have n2_ := Aside0.mk (blk_below (g := gb408) (o := .cells #[.string a1_0, .string a1_1] 46 (0, 0)) (by (with_reducible repeat (first | refine blk_drewN ?_ _ | refine blk_drew ?_ | refine blk_alloc ?_ _)); exact BK408.out) hb); have n3_ := Aside0.mk (below_step (by repeat (first | (with_reducible first | exact HB.out | apply below_alloc | apply pw_below_drewN | apply below_drew1 | refine below_set ?_ GE408.out) | exact HB.out)) hb); clear HO_6; clear HO_9; clear BK408; clear HB; have HO_6 := n0_; have HO_9 := n1_; have BK408 := n2_; have HB := n3_; clear n0_ n1_ n2_ n3_; (try clear hb); (try clear hb2); (try clear hk); (try clear hi)))
                          go_ret
                          exact ⟨by first | rfl | (simp [errW_none, errW_some] <;> rfl) | (simp [*, errW_none, errW_some] <;> rfl), by repeat (first | (with_reducible first | exact HB.out | apply below_alloc | apply pw_below_drewN | apply below_drew1 | refine below_set ?_ GE408.out) | exact HB.out)⟩
                        · replace c50 := Bool.eq_false_iff.mpr c50
                          subst c50
                          have H1 : (some false) = some r := by rw [if_neg (show ¬ (false = true) by decide)] at H; exact H
                          clear H
                          have H := H1
                          clear H1
                          obtain rfl := Option.some.inj H
                          go_wp2_with (first | ((with_reducible refine gate_callee (f := 11) rfl ?_); refine goesL_ (some 84) rfl rfl Tryd.func11 (by kernel_rfl) rfl #[.slice Ao19 t410.length co19] rfl (by (try simp only [List.map_toArray, List.map_cons, List.map_nil]); first | done | rfl | (simp only [List.length_drop, List.length_take]; rfl)) ?_; (with_reducible refine (path_Show.calls _ _ t410 t426 _ ?side1 ?side2 A39.out).mono ?_); (case side1 => repeat (first | exact (Kd.R_reads' HO_6.out).2.2 | (with_reducible refine Kd.C_alloc ?_ _) | (with_reducible refine Kd.C_drewN ?_ _) | (with_reducible refine Kd.C_drew ?_))); (case side2 => exact (Kd.R_reads' HO_6.out).2.1); rintro e w56 ⟨rfl, hb⟩; refine ⟨_, rfl, ?_⟩; have n0_ := Aside0.mk (Kd.R_below (by (with_reducible repeat (first | apply Kd.R_alloc | apply Kd.R_drewN | apply Kd.R_drew)); exact HO_6.out) hb); have n1_ := Aside0.mk (Kd.R_below (by (with_reducible repeat (first | apply Kd.R_alloc | apply Kd.R_drewN | apply Kd.R_drew)); exact HO_9.out) hb); have n2_ := Aside0.mk (blk_below (g := gb408) (o := .cells #[.string a1_0, .string a1_1] 46 (0, 0)) (by (with_reducible repeat (first | refine blk_drewN ?_ _ | refine blk_drew ?_ | refine blk_alloc ?_ _)); exact BK408.out) hb); have n3_ := Aside0.mk (below_step (by repeat (first | (with_reducible first | exact HB.out | apply below_alloc | apply pw_below_drewN | apply below_drew1 | refine below_set ?_ GE408.out) | exact HB.out)) hb); clear HO_6; clear HO_9; clear BK408; clear HB; have HO_6 := n0_; have HO_9 := n1_; have BK408 := n2_; have HB := n3_; clear n0_ n1_ n2_ n3_; (try clear hb); (try clear hb2); (try clear hk); (try clear hi); obtain ⟨Ao57, co57, eo57⟩ := Kd.R_slice HO_9.out; subst eo57) | (go_at_call 17; (with_reducible refine (path_Under.calls kj13 _ _ y418 _ _ t410 true _ ?side1 ?side2 ?side3 ?side4 A41.out).mono ?_); (case side1 => repeat (first | exact (Kd.R_reads' HO_9.out).2.2 | (with_reducible refine Kd.C_alloc ?_ _) | (with_reducible refine Kd.C_drewN ?_ _) | (with_reducible refine Kd.C_drew ?_))); (case side2 => exact (Kd.R_reads' HO_9.out).2.1); (case side3 => repeat (first | exact (Kd.R_reads' HO_6.out).2.2 | (with_reducible refine Kd.C_alloc ?_ _) | (with_reducible refine Kd.C_drewN ?_ _) | (with_reducible refine Kd.C_drew ?_))); (case side4 => exact (Kd.R_reads' HO_6.out).2.1); rintro e w58 ⟨rfl, hb⟩; have n0_ := Aside0.mk (Kd.R_below (by (with_reducible repeat (first | apply Kd.R_alloc | apply Kd.R_drewN | apply Kd.R_drew)); exact HO_6.out) hb); have n1_ := Aside0.mk (Kd.R_below (by (with_reducible repeat (first | apply Kd.R_alloc | apply Kd.R_drewN | apply Kd.R_drew)); exact HO_9.out) hb); have n2_ := Aside0.mk (blk_below (g := gb408) (o := .cells #[.string a1_0, .string a1_1] 46 (0, 0)) (by (with_reducible repeat (first | refine blk_drewN ?_ _ | refine blk_drew ?_ | refine blk_alloc ?_ _)); exact BK408.out) hb); have n3_ := Aside0.mk (below_step (by repeat (first | (with_reducible first | exact HB.out | apply below_alloc | apply pw_below_drewN | apply below_drew1 | refine below_set ?_ GE408.out) | exact HB.out)) hb); clear HO_6; clear HO_9; clear BK408; clear HB; have HO_6 := n0_; have HO_9 := n1_; have BK408 := n2_; have HB := n3_; clear n0_ n1_ n2_ n3_; (try clear hb); (try clear hb2); (try clear hk); (try clear hi)) | (go_at_call 17; (with_reducible refine (path_Under.calls kj13 _ _ t410 _ _ y418 false _ ?side1 ?side2 ?side3 ?side4 A43.out).mono ?_); (case side1 => repeat (first | exact (Kd.R_reads' HO_6.out).2.2 | (with_reducible refine Kd.C_alloc ?_ _) | (with_reducible refine Kd.C_drewN ?_ _) | (with_reducible refine Kd.C_drew ?_))); (case side2 => exact (Kd.R_reads' HO_6.out).2.1); (case side3 => repeat (first | exact (Kd.R_reads' HO_9.out).2.2 | (with_reducible refine Kd.C_alloc ?_ _) | (with_reducible refine Kd.C_drewN ?_ _) | (with_reducible refine Kd.C_drew ?_))); (case side4 => exact (Kd.R_reads' HO_9.out).2.1); rintro e w59 ⟨rfl, hb⟩; have n0_ := Aside0.mk (Kd.R_below (by (with_reducible repeat (first | apply Kd.R_alloc | apply Kd.R_drewN | apply Kd.R_drew)); exact HO_6.out) hb); have n1_ := Aside0.mk (Kd.R_below (by (with_reducible repeat (first | apply Kd.R_alloc | apply Kd.R_drewN | apply Kd.R_drew)); exact HO_9.out) hb); have n2_ := Aside0.mk (blk_below (g := gb408) (o := .cells #[.string a1_0, .string a1_1] 46 (0, 0)) (by (with_reducible repeat (first | refine blk_drewN ?_ _ | refine blk_drew ?_ | refine blk_alloc ?_ _)); exact BK408.out) hb); have n3_ := Aside0.mk (below_step (by repeat (first | (with_reducible first | exact HB.out | apply below_alloc | apply pw_below_drewN | apply below_drew1 | refine below_set ?_ GE408.out) | exact HB.out)) hb); clear HO_6; clear HO_9; clear BK408; clear HB; have HO_6 := n0_; have HO_9 := n1_; have BK408 := n2_; have HB := n3_; clear n0_ n1_ n2_ n3_; (try clear hb); (try clear hb2); (try clear hk); (try clear hi)) | (go_at_call 17; (refine (path_Under.calls kj13 _ _ t410 _ _ ([] : List (S46)) false _ ?side1 ?side2 ?side3 ?side4 A49.out).mono ?_); (case side1 => repeat (first | exact (Kd.R_reads' HO_6.out).2.2 | (with_reducible refine Kd.C_alloc ?_ _) | (with_reducible refine Kd.C_drewN ?_ _) | (with_reducible refine Kd.C_drew ?_))); (case side2 => exact (Kd.R_reads' HO_6.out).2.1); (case side3 => exact Kd.C_nil _ _); (case side4 => exact Nat.le_refl _); rintro e w60 ⟨rfl, hb⟩; have n0_ := Aside0.mk (Kd.R_below (by (with_reducible repeat (first | apply Kd.R_alloc | apply Kd.R_drewN | apply Kd.R_drew)); exact HO_6.out) hb); have n1_ := Aside0.mk (Kd.R_below (by (with_reducible repeat (first | apply Kd.R_alloc | apply Kd.R_drewN | apply Kd.R_drew)); exact HO_9.out) hb); have n2_ := Aside0.mk (blk_below (g := gb408) (o := .cells #[.string a1_0, .string a1_1] 46 (0, 0)) (by (with_reducible repeat (first | refine blk_drewN ?_ _ | refine blk_drew ?_ | refine blk_alloc ?_ _)); exact BK408.out) hb); have n3_ := Aside0.mk (below_step (by repeat (first | (with_reducible first | exact HB.out | apply below_alloc | apply pw_below_drewN | apply below_drew1 | refine below_set ?_ GE408.out) | exact HB.out)) hb); clear HO_6; clear HO_9; clear BK408; clear HB; have HO_6 := n0_; have HO_9 := n1_; have BK408 := n2_; have HB := n3_; clear n0_ n1_ n2_ n3_; (try clear hb); (try clear hb2); (try clear hk); (try clear hi)))
                          go_ret
                          exact ⟨by first | rfl | (simp [errW_none, errW_some] <;> rfl) | (simp [*, errW_none, errW_some] <;> rfl), by repeat (first | (with_reducible first | exact HB.out | apply below_alloc | apply pw_below_drewN | apply below_drew1 | refine below_set ?_ GE408.out) | exact HB.out)⟩
                    · replace c42 := Bool.eq_false_iff.mpr c42
                      subst c42
                      have H1 : (some false) = some r := by rw [if_neg (show ¬ (false = true) by decide)] at H; exact H
                      clear H
                      have H := H1
                      clear H1
                      obtain rfl := Option.some.inj H
                      go_wp2_with (first | ((with_reducible refine gate_callee (f := 11) rfl ?_); refine goesL_ (some 84) rfl rfl Tryd.func11 (by kernel_rfl) rfl #[.slice Ao19 t410.length co19] rfl (by (try simp only [List.map_toArray, List.map_cons, List.map_nil]); first | done | rfl | (simp only [List.length_drop, List.length_take]; rfl)) ?_; (with_reducible refine (path_Show.calls _ _ t410 t426 _ ?side1 ?side2 A39.out).mono ?_); (case side1 => repeat (first | exact (Kd.R_reads' HO_6.out).2.2 | (with_reducible refine Kd.C_alloc ?_ _) | (with_reducible refine Kd.C_drewN ?_ _) | (with_reducible refine Kd.C_drew ?_))); (case side2 => exact (Kd.R_reads' HO_6.out).2.1); rintro e w61 ⟨rfl, hb⟩; refine ⟨_, rfl, ?_⟩; have n0_ := Aside0.mk (Kd.R_below (by (with_reducible repeat (first | apply Kd.R_alloc | apply Kd.R_drewN | apply Kd.R_drew)); exact HO_6.out) hb); have n1_ := Aside0.mk (Kd.R_below (by (with_reducible repeat (first | apply Kd.R_alloc | apply Kd.R_drewN | apply Kd.R_drew)); exact HO_9.out) hb); have n2_ := Aside0.mk (blk_below (g := gb408) (o := .cells #[.string a1_0, .string a1_1] 46 (0, 0)) (by (with_reducible repeat (first | refine blk_drewN ?_ _ | refine blk_drew ?_ | refine blk_alloc ?_ _)); exact BK408.out) hb); have n3_ := Aside0.mk (below_step (by repeat (first | (with_reducible first | exact HB.out | apply below_alloc | apply pw_below_drewN | apply below_drew1 | refine below_set ?_ GE408.out) | exact HB.out)) hb); clear HO_6; clear HO_9; clear BK408; clear HB; have HO_6 := n0_; have HO_9 := n1_; have BK408 := n2_; have HB := n3_; clear n0_ n1_ n2_ n3_; (try clear hb); (try clear hb2); (try clear hk); (try clear hi); obtain ⟨Ao62, co62, eo62⟩ := Kd.R_slice HO_9.out; subst eo62) | (go_at_call 17; (with_reducible refine (path_Under.calls kj13 _ _ y418 _ _ t410 false _ ?side1 ?side2 ?side3 ?side4 A41.out).mono ?_); (case side1 => repeat (first | exact (Kd.R_reads' HO_9.out).2.2 | (with_reducible refine Kd.C_alloc ?_ _) | (with_reducible refine Kd.C_drewN ?_ _) | (with_reducible refine Kd.C_drew ?_))); (case side2 => exact (Kd.R_reads' HO_9.out).2.1); (case side3 => repeat (first | exact (Kd.R_reads' HO_6.out).2.2 | (with_reducible refine Kd.C_alloc ?_ _) | (with_reducible refine Kd.C_drewN ?_ _) | (with_reducible refine Kd.C_drew ?_))); (case side4 => exact (Kd.R_reads' HO_6.out).2.1); rintro e w63 ⟨rfl, hb⟩; have n0_ := Aside0.mk (Kd.R_below (by (with_reducible repeat (first | apply Kd.R_alloc | apply Kd.R_drewN | apply Kd.R_drew)); exact HO_6.out) hb); have n1_ := Aside0.mk (Kd.R_below (by (with_reducible repeat (first | apply Kd.R_alloc | apply Kd.R_drewN | apply Kd.R_drew)); exact HO_9.out) hb); have n2_ := Aside0.mk (blk_below (g := gb408) (o := .cells #[.string a1_0, .string a1_1] 46 (0, 0)) (by (with_reducible repeat (first | refine blk_drewN ?_ _ | refine blk_drew ?_ | refine blk_alloc ?_ _)); exact BK408.out) hb); have n3_ := Aside0.mk (below_step (by repeat (first | (with_reducible first | exact HB.out | apply below_alloc | apply pw_below_drewN | apply below_drew1 | refine below_set ?_ GE408.out) | exact HB.out)) hb); clear HO_6; clear HO_9; clear BK408; clear HB; have HO_6 := n0_; have HO_9 := n1_; have BK408 := n2_; have HB := n3_; clear n0_ n1_ n2_ n3_; (try clear hb); (try clear hb2); (try clear hk); (try clear hi)))
                      go_ret
                      exact ⟨by first | rfl | (simp [errW_none, errW_some] <;> rfl) | (simp [*, errW_none, errW_some] <;> rfl), by repeat (first | (with_reducible first | exact HB.out | apply below_alloc | apply pw_below_drewN | apply below_drew1 | refine below_set ?_ GE408.out) | exact HB.out)⟩
                  · rw [if_neg c40] at H
                    have c40b0 : (t426.toList == a0.toList) = false := beq_eq_false_iff_ne.mpr c40
                    have c40b1 : (t426.toList != a0.toList) = true := bne_iff_ne.mpr c40
                    obtain rfl := Option.some.inj H
                    go_wp2_with (first | ((with_reducible refine gate_callee (f := 11) rfl ?_); refine goesL_ (some 84) rfl rfl Tryd.func11 (by kernel_rfl) rfl #[.slice Ao19 t410.length co19] rfl (by (try simp only [List.map_toArray, List.map_cons, List.map_nil]); first | done | rfl | (simp only [List.length_drop, List.length_take]; rfl)) ?_; (with_reducible refine (path_Show.calls _ _ t410 t426 _ ?side1 ?side2 A39.out).mono ?_); (case side1 => repeat (first | exact (Kd.R_reads' HO_6.out).2.2 | (with_reducible refine Kd.C_alloc ?_ _) | (with_reducible refine Kd.C_drewN ?_ _) | (with_reducible refine Kd.C_drew ?_))); (case side2 => exact (Kd.R_reads' HO_6.out).2.1); rintro e w64 ⟨rfl, hb⟩; refine ⟨_, rfl, ?_⟩; have n0_ := Aside0.mk (Kd.R_below (by (with_reducible repeat (first | apply Kd.R_alloc | apply Kd.R_drewN | apply Kd.R_drew)); exact HO_6.out) hb); have n1_ := Aside0.mk (Kd.R_below (by (with_reducible repeat (first | apply Kd.R_alloc | apply Kd.R_drewN | apply Kd.R_drew)); exact HO_9.out) hb); have n2_ := Aside0.mk (blk_below (g := gb408) (o := .cells #[.string a1_0, .string a1_1] 46 (0, 0)) (by (with_reducible repeat (first | refine blk_drewN ?_ _ | refine blk_drew ?_ | refine blk_alloc ?_ _)); exact BK408.out) hb); have n3_ := Aside0.mk (below_step (by repeat (first | (with_reducible first | exact HB.out | apply below_alloc | apply pw_below_drewN | apply below_drew1 | refine below_set ?_ GE408.out) | exact HB.out)) hb); clear HO_6; clear HO_9; clear BK408; clear HB; have HO_6 := n0_; have HO_9 := n1_; have BK408 := n2_; have HB := n3_; clear n0_ n1_ n2_ n3_; (try clear hb); (try clear hb2); (try clear hk); (try clear hi)))
                    go_ret
                    exact ⟨by first | rfl | (simp [errW_none, errW_some] <;> rfl) | (simp [*, errW_none, errW_some] <;> rfl), by repeat (first | (with_reducible first | exact HB.out | apply below_alloc | apply pw_below_drewN | apply below_drew1 | refine below_set ?_ GE408.out) | exact HB.out)⟩
            · rw [if_neg c12] at H
              exact absurd H (by simp)
          · rw [if_neg c11] at H
            exact absurd H (by simp)
        · rw [if_neg c10] at H
          exact absurd H (by simp)
      · rw [if_neg c9] at H
        have c9b0 : (t411 == 0) = false := beq_eq_false_iff_ne.mpr c9
        have c9b1 : (t411 != 0) = true := bne_iff_ne.mpr c9
        by_cases c65 : (t410.length : Int) = 0
        · rw [if_pos c65] at H
          have c65b0 : ((t410.length : Int) == 0) = true := beq_iff_eq.mpr c65
          have c65b1 : ((t410.length : Int) != 0) = false := bne_eq_false_iff_eq.mpr c65
          clear c65
          by_cases c66 : t412 ≥ 0
          · rw [if_pos c66] at H
            have c66b0 : decide (0 ≤ t412) = true := decide_eq_true c66
            clear c66
            obtain rfl := Option.some.inj H
            go_enter Tryd.func5, Tryd.ntmps5
            go_wp2_with (first | ((with_reducible refine gate_dst (N := 3) rfl ?_); (try (refine gate_guard (by rfl) ?_; dsimp only)); refine box_event ?hg (N := 3) ?hd (cs := #[.string a1_0, .string a1_1]) (t := 46) ?hr ?_; (case hd => rfl); (case hg => rfl); (case hr => first | (go_simp; done) | (go_simp; rfl)); intro gb408 hg w67 hbox hb; have n0_ := Aside0.mk (below_step (by repeat (first | (with_reducible first | exact HB.out | apply below_alloc | apply pw_below_drewN | apply below_drew1) | exact HB.out)) hb); have n1_ := Aside0.mk (hbox); have n2_ := Aside0.mk ((by rw [hg]; exact (below_size (by repeat (first | (with_reducible first | exact HB.out | apply below_alloc | apply pw_below_drewN | apply below_drew1) | exact HB.out))) : w.heap.size ≤ gb408)); have n3_ := Aside0.mk ((by rw [hg]; exact (below_size (by repeat (first | (with_reducible first | exact HB.out | apply below_alloc | apply pw_below_drewN | apply below_drew1) | exact HB.out))) : w.heap.size ≤ gb408)); clear HB; have HB := n0_; have BK408 := n1_; have GW408 := n2_; have GE408 := n3_; clear n0_ n1_ n2_ n3_; clear hb hbox hg) | ((with_reducible refine gate_callee (f := 7) rfl ?_); refine goesL_ (some 14) rfl rfl Tryd.func7 (by kernel_rfl) rfl #[] rfl (by (try simp only [List.map_toArray, List.map_cons, List.map_nil]); first | done | rfl | (simp only [List.length_drop, List.length_take]; rfl)) ?_; (with_reducible refine (tollbarlaw15_awake.calls  true _ A3.out).mono ?_); rintro e w68 ⟨rfl, hb⟩; refine ⟨_, rfl, ?_⟩; have n0_ := Aside0.mk (blk_below (g := gb408) (o := .cells #[.string a1_0, .string a1_1] 46 (0, 0)) (by (with_reducible repeat (first | refine blk_drewN ?_ _ | refine blk_drew ?_ | refine blk_alloc ?_ _)); exact BK408.out) hb); have n1_ := Aside0.mk (below_step (by repeat (first | (with_reducible first | exact HB.out | apply below_alloc | apply pw_below_drewN | apply below_drew1 | refine below_set ?_ GE408.out) | exact HB.out)) hb); clear BK408; clear HB; have BK408 := n0_; have HB := n1_; clear n0_ n1_; (try clear hb); (try clear hb2); (try clear hk); (try clear hi)) | ((with_reducible refine gate_callee (f := 8) rfl ?_); refine goesL_ (some 22) rfl rfl Tryd.func8 (by kernel_rfl) rfl #[.string a0] rfl (by (try simp only [List.map_toArray, List.map_cons, List.map_nil]); first | done | rfl | (simp only [List.length_drop, List.length_take]; rfl)) ?_; (with_reducible refine (path_Parse.calls k a0 t410 t411 t412 _ A8.out).mono ?_); rintro e w69 ⟨v413, rfl, ho0, hb⟩; refine ⟨_, rfl, ?_⟩; have n0_ := Aside0.mk (Kd.R_lower (Kd.R_newB ho0 (g := gb408) (o := .cells #[.string a1_0, .string a1_1] 46 (0, 0)) (by (with_reducible repeat (first | refine blk_drewN ?_ _ | refine blk_drew ?_ | refine blk_alloc ?_ _)); exact BK408.out)) (below_size (by repeat (first | (with_reducible first | exact HB.out | apply below_alloc | apply pw_below_drewN | apply below_drew1 | refine below_set ?_ GE408.out) | exact HB.out)))); have n1_ := Aside0.mk (blk_below (g := gb408) (o := .cells #[.string a1_0, .string a1_1] 46 (0, 0)) (by (with_reducible repeat (first | refine blk_drewN ?_ _ | refine blk_drew ?_ | refine blk_alloc ?_ _)); exact BK408.out) hb); have n2_ := Aside0.mk (below_step (by repeat (first | (with_reducible first | exact HB.out | apply below_alloc | apply pw_below_drewN | apply below_drew1 | refine below_set ?_ GE408.out) | exact HB.out)) hb); clear BK408; clear HB; have HO414 := n0_; have BK408 := n1_; have HB := n2_; clear n0_ n1_ n2_; (try clear hb); (try clear hb2); (try clear hk); (try clear hi); (try clear ho0); obtain ⟨Ao70, co70, eo70⟩ := Kd.R_slice HO414.out; subst eo70))
            go_ret
            exact ⟨by first | rfl | (simp [errW_none, errW_some] <;> rfl) | (simp [*, errW_none, errW_some] <;> rfl), by repeat (first | (with_reducible first | exact HB.out | apply below_alloc | apply pw_below_drewN | apply below_drew1 | refine below_set ?_ GE408.out) | exact HB.out)⟩
          · rw [if_neg c66] at H
            have c66b0 : decide (0 ≤ t412) = false := decide_eq_false c66
            clear c66
            obtain rfl := Option.some.inj H
            go_enter Tryd.func5, Tryd.ntmps5
            go_wp2_with (first | ((with_reducible refine gate_dst (N := 3) rfl ?_); (try (refine gate_guard (by rfl) ?_; dsimp only)); refine box_event ?hg (N := 3) ?hd (cs := #[.string a1_0, .string a1_1]) (t := 46) ?hr ?_; (case hd => rfl); (case hg => rfl); (case hr => first | (go_simp; done) | (go_simp; rfl)); intro gb408 hg w71 hbox hb; have n0_ := Aside0.mk (below_step (by repeat (first | (with_reducible first | exact HB.out | apply below_alloc | apply pw_below_drewN | apply below_drew1) | exact HB.out)) hb); have n1_ := Aside0.mk (hbox); have n2_ := Aside0.mk ((by rw [hg]; exact (below_size (by repeat (first | (with_reducible first | exact HB.out | apply below_alloc | apply pw_below_drewN | apply below_drew1) | exact HB.out))) : w.heap.size ≤ gb408)); have n3_ := Aside0.mk ((by rw [hg]; exact (below_size (by repeat (first | (with_reducible first | exact HB.out | apply below_alloc | apply pw_below_drewN | apply below_drew1) | exact HB.out))) : w.heap.size ≤ gb408)); clear HB; have HB := n0_; have BK408 := n1_; have GW408 := n2_; have GE408 := n3_; clear n0_ n1_ n2_ n3_; clear hb hbox hg) | ((with_reducible refine gate_callee (f := 7) rfl ?_); refine goesL_ (some 14) rfl rfl Tryd.func7 (by kernel_rfl) rfl #[] rfl (by (try simp only [List.map_toArray, List.map_cons, List.map_nil]); first | done | rfl | (simp only [List.length_drop, List.length_take]; rfl)) ?_; (with_reducible refine (tollbarlaw15_awake.calls  true _ A3.out).mono ?_); rintro e w72 ⟨rfl, hb⟩; refine ⟨_, rfl, ?_⟩; have n0_ := Aside0.mk (blk_below (g := gb408) (o := .cells #[.string a1_0, .string a1_1] 46 (0, 0)) (by (with_reducible repeat (first | refine blk_drewN ?_ _ | refine blk_drew ?_ | refine blk_alloc ?_ _)); exact BK408.out) hb); have n1_ := Aside0.mk (below_step (by repeat (first | (with_reducible first | exact HB.out | apply below_alloc | apply pw_below_drewN | apply below_drew1 | refine below_set ?_ GE408.out) | exact HB.out)) hb); clear BK408; clear HB; have BK408 := n0_; have HB := n1_; clear n0_ n1_; (try clear hb); (try clear hb2); (try clear hk); (try clear hi)) | ((with_reducible refine gate_callee (f := 8) rfl ?_); refine goesL_ (some 22) rfl rfl Tryd.func8 (by kernel_rfl) rfl #[.string a0] rfl (by (try simp only [List.map_toArray, List.map_cons, List.map_nil]); first | done | rfl | (simp only [List.length_drop, List.length_take]; rfl)) ?_; (with_reducible refine (path_Parse.calls k a0 t410 t411 t412 _ A8.out).mono ?_); rintro e w73 ⟨v413, rfl, ho0, hb⟩; refine ⟨_, rfl, ?_⟩; have n0_ := Aside0.mk (Kd.R_lower (Kd.R_newB ho0 (g := gb408) (o := .cells #[.string a1_0, .string a1_1] 46 (0, 0)) (by (with_reducible repeat (first | refine blk_drewN ?_ _ | refine blk_drew ?_ | refine blk_alloc ?_ _)); exact BK408.out)) (below_size (by repeat (first | (with_reducible first | exact HB.out | apply below_alloc | apply pw_below_drewN | apply below_drew1 | refine below_set ?_ GE408.out) | exact HB.out)))); have n1_ := Aside0.mk (blk_below (g := gb408) (o := .cells #[.string a1_0, .string a1_1] 46 (0, 0)) (by (with_reducible repeat (first | refine blk_drewN ?_ _ | refine blk_drew ?_ | refine blk_alloc ?_ _)); exact BK408.out) hb); have n2_ := Aside0.mk (below_step (by repeat (first | (with_reducible first | exact HB.out | apply below_alloc | apply pw_below_drewN | apply below_drew1 | refine below_set ?_ GE408.out) | exact HB.out)) hb); clear BK408; clear HB; have HO414 := n0_; have BK408 := n1_; have HB := n2_; clear n0_ n1_ n2_; (try clear hb); (try clear hb2); (try clear hk); (try clear hi); (try clear ho0); obtain ⟨Ao74, co74, eo74⟩ := Kd.R_slice HO414.out; subst eo74))
            go_ret
            exact ⟨by first | rfl | (simp [errW_none, errW_some] <;> rfl) | (simp [*, errW_none, errW_some] <;> rfl), by repeat (first | (with_reducible first | exact HB.out | apply below_alloc | apply pw_below_drewN | apply below_drew1 | refine below_set ?_ GE408.out) | exact HB.out)⟩
        · rw [if_neg c65] at H
          have c65b0 : ((t410.length : Int) == 0) = false := beq_eq_false_iff_ne.mpr c65
          have c65b1 : ((t410.length : Int) != 0) = true := bne_iff_ne.mpr c65
          have c65b2 : ¬ (t410 = []) := fun h_ => c65 (by rw [h_]; rfl)
          obtain rfl := Option.some.inj H
          go_enter Tryd.func5, Tryd.ntmps5
          go_wp2_with (first | ((with_reducible refine gate_dst (N := 3) rfl ?_); (try (refine gate_guard (by rfl) ?_; dsimp only)); refine box_event ?hg (N := 3) ?hd (cs := #[.string a1_0, .string a1_1]) (t := 46) ?hr ?_; (case hd => rfl); (case hg => rfl); (case hr => first | (go_simp; done) | (go_simp; rfl)); intro gb408 hg w75 hbox hb; have n0_ := Aside0.mk (below_step (by repeat (first | (with_reducible first | exact HB.out | apply below_alloc | apply pw_below_drewN | apply below_drew1) | exact HB.out)) hb); have n1_ := Aside0.mk (hbox); have n2_ := Aside0.mk ((by rw [hg]; exact (below_size (by repeat (first | (with_reducible first | exact HB.out | apply below_alloc | apply pw_below_drewN | apply below_drew1) | exact HB.out))) : w.heap.size ≤ gb408)); have n3_ := Aside0.mk ((by rw [hg]; exact (below_size (by repeat (first | (with_reducible first | exact HB.out | apply below_alloc | apply pw_below_drewN | apply below_drew1) | exact HB.out))) : w.heap.size ≤ gb408)); clear HB; have HB := n0_; have BK408 := n1_; have GW408 := n2_; have GE408 := n3_; clear n0_ n1_ n2_ n3_; clear hb hbox hg) | ((with_reducible refine gate_callee (f := 7) rfl ?_); refine goesL_ (some 14) rfl rfl Tryd.func7 (by kernel_rfl) rfl #[] rfl (by (try simp only [List.map_toArray, List.map_cons, List.map_nil]); first | done | rfl | (simp only [List.length_drop, List.length_take]; rfl)) ?_; (with_reducible refine (tollbarlaw15_awake.calls  true _ A3.out).mono ?_); rintro e w76 ⟨rfl, hb⟩; refine ⟨_, rfl, ?_⟩; have n0_ := Aside0.mk (blk_below (g := gb408) (o := .cells #[.string a1_0, .string a1_1] 46 (0, 0)) (by (with_reducible repeat (first | refine blk_drewN ?_ _ | refine blk_drew ?_ | refine blk_alloc ?_ _)); exact BK408.out) hb); have n1_ := Aside0.mk (below_step (by repeat (first | (with_reducible first | exact HB.out | apply below_alloc | apply pw_below_drewN | apply below_drew1 | refine below_set ?_ GE408.out) | exact HB.out)) hb); clear BK408; clear HB; have BK408 := n0_; have HB := n1_; clear n0_ n1_; (try clear hb); (try clear hb2); (try clear hk); (try clear hi)) | ((with_reducible refine gate_callee (f := 8) rfl ?_); refine goesL_ (some 22) rfl rfl Tryd.func8 (by kernel_rfl) rfl #[.string a0] rfl (by (try simp only [List.map_toArray, List.map_cons, List.map_nil]); first | done | rfl | (simp only [List.length_drop, List.length_take]; rfl)) ?_; (with_reducible refine (path_Parse.calls k a0 t410 t411 t412 _ A8.out).mono ?_); rintro e w77 ⟨v413, rfl, ho0, hb⟩; refine ⟨_, rfl, ?_⟩; have n0_ := Aside0.mk (Kd.R_lower (Kd.R_newB ho0 (g := gb408) (o := .cells #[.string a1_0, .string a1_1] 46 (0, 0)) (by (with_reducible repeat (first | refine blk_drewN ?_ _ | refine blk_drew ?_ | refine blk_alloc ?_ _)); exact BK408.out)) (below_size (by repeat (first | (with_reducible first | exact HB.out | apply below_alloc | apply pw_below_drewN | apply below_drew1 | refine below_set ?_ GE408.out) | exact HB.out)))); have n1_ := Aside0.mk (blk_below (g := gb408) (o := .cells #[.string a1_0, .string a1_1] 46 (0, 0)) (by (with_reducible repeat (first | refine blk_drewN ?_ _ | refine blk_drew ?_ | refine blk_alloc ?_ _)); exact BK408.out) hb); have n2_ := Aside0.mk (below_step (by repeat (first | (with_reducible first | exact HB.out | apply below_alloc | apply pw_below_drewN | apply below_drew1 | refine below_set ?_ GE408.out) | exact HB.out)) hb); clear BK408; clear HB; have HO414 := n0_; have BK408 := n1_; have HB := n2_; clear n0_ n1_ n2_; (try clear hb); (try clear hb2); (try clear hk); (try clear hi); (try clear ho0); obtain ⟨Ao78, co78, eo78⟩ := Kd.R_slice HO414.out; subst eo78))
          go_ret
          exact ⟨by first | rfl | (simp [errW_none, errW_some] <;> rfl) | (simp [*, errW_none, errW_some] <;> rfl), by repeat (first | (with_reducible first | exact HB.out | apply below_alloc | apply pw_below_drewN | apply below_drew1 | refine below_set ?_ GE408.out) | exact HB.out)⟩
  · replace c4 := Bool.eq_false_iff.mpr c4
    subst c4
    have H1 : (some false) = some r := by rw [if_neg (show ¬ (false = true) by decide)] at H; exact H
    clear H
    have H := H1
    clear H1
    obtain rfl := Option.some.inj H
    go_enter Tryd.func5, Tryd.ntmps5
    go_wp2_with (first | ((with_reducible refine gate_dst (N := 3) rfl ?_); (try (refine gate_guard (by rfl) ?_; dsimp only)); refine box_event ?hg (N := 3) ?hd (cs := #[.string a1_0, .string a1_1]) (t := 46) ?hr ?_; (case hd => rfl); (case hg => rfl); (case hr => first | (go_simp; done) | (go_simp; rfl)); intro gb408 hg w79 hbox hb; have n0_ := Aside0.mk (below_step (by repeat (first | (with_reducible first | exact HB.out | apply below_alloc | apply pw_below_drewN | apply below_drew1) | exact HB.out)) hb); have n1_ := Aside0.mk (hbox); have n2_ := Aside0.mk ((by rw [hg]; exact (below_size (by repeat (first | (with_reducible first | exact HB.out | apply below_alloc | apply pw_below_drewN | apply below_drew1) | exact HB.out))) : w.heap.size ≤ gb408)); have n3_ := Aside0.mk ((by rw [hg]; exact (below_size (by repeat (first | (with_reducible first | exact HB.out | apply below_alloc | apply pw_below_drewN | apply below_drew1) | exact HB.out))) : w.heap.size ≤ gb408)); clear HB; have HB := n0_; have BK408 := n1_; have GW408 := n2_; have GE408 := n3_; clear n0_ n1_ n2_ n3_; clear hb hbox hg) | ((with_reducible refine gate_callee (f := 7) rfl ?_); refine goesL_ (some 14) rfl rfl Tryd.func7 (by kernel_rfl) rfl #[] rfl (by (try simp only [List.map_toArray, List.map_cons, List.map_nil]); first | done | rfl | (simp only [List.length_drop, List.length_take]; rfl)) ?_; (with_reducible refine (tollbarlaw15_awake.calls  false _ A3.out).mono ?_); rintro e w80 ⟨rfl, hb⟩; refine ⟨_, rfl, ?_⟩; have n0_ := Aside0.mk (blk_below (g := gb408) (o := .cells #[.string a1_0, .string a1_1] 46 (0, 0)) (by (with_reducible repeat (first | refine blk_drewN ?_ _ | refine blk_drew ?_ | refine blk_alloc ?_ _)); exact BK408.out) hb); have n1_ := Aside0.mk (below_step (by repeat (first | (with_reducible first | exact HB.out | apply below_alloc | apply pw_below_drewN | apply below_drew1 | refine below_set ?_ GE408.out) | exact HB.out)) hb); clear BK408; clear HB; have BK408 := n0_; have HB := n1_; clear n0_ n1_; (try clear hb); (try clear hb2); (try clear hk); (try clear hi)))
    go_ret
    exact ⟨by first | rfl | (simp [errW_none, errW_some] <;> rfl) | (simp [*, errW_none, errW_some] <;> rfl), by repeat (first | (with_reducible first | exact HB.out | apply below_alloc | apply pw_below_drewN | apply below_drew1 | refine below_set ?_ GE408.out) | exact HB.out)⟩

-- NOT PRINTED: function 6 (tollbarlaw15_PathFronts)

end Go.Proofs.YtbbkchclefkikaaDoor.QPath
