-- laid by a program of this session (pp.sh) out of the translation
import Derived.Test.YtlbmiphdipohlaaQHoldx0
import Derived.Test.YtlbmiphdipohlaaQHoldx2
namespace Go.Proofs.Ytlbmiphdipohlaa.QHold
open Go.RowKit Go.Proofs.YtlbmiphdipohlaaW.PrintWords Go.Proofs.YtlbmiphdipohlaaW.PrintLast Go.Proofs.YtlbmiphdipohlaaW.PrintMore
attribute [local go_sem] max2_int min2_int max_two min_two max_three min_three max_four min_four   -- for this text's walks alone
set_option linter.unusedVariables false
set_option linter.unusedSimpArgs false

/-! ### tollbarlaw29_HoldDoes: function 3 -/
def tollbarlaw29_HoldDoes.l0 : Nat → List (S27) → Int → Int → Int → Option (Bool)
  | 0, _, _, _, _ => none
  | k + 1, x0, x5, x6, x127000 => if x6 < (x0.length : Int) then (if 0 ≤ x6 then ((hold_Hold_May.f x127000 ((rd_T27 x0 x6).f1)).bind fun t129 => ((tollbarref29_May.f x5 ((rd_T27 x0 x6).f1)).bind fun t130 => (if t129 = t130 then (if ((rd_T27 x0 x6).f0) = 0 then ((hold_Hold_Take.f x127000 ((rd_T27 x0 x6).f1)).bind fun bt131 => ((tollbarref29_Take.f x5 ((rd_T27 x0 x6).f1)).bind fun bt134 => (if bt131.2 = bt134.2 then (if bt131.1 = bt134.1 then (tollbarlaw29_HoldDoes.l0 k x0 bt134.1 (wrap64 (x6 + 1)) bt131.1) else (some false)) else (some false)))) else (if ((rd_T27 x0 x6).f0) = 1 then ((hold_Hold_Give.f k x127000 ((rd_T27 x0 x6).f1)).bind fun bt136 => ((tollbarref29_Give.f k x5 ((rd_T27 x0 x6).f1)).bind fun bt139 => (if bt136.2 = bt139.2 then (if bt136.1 = bt139.1 then (tollbarlaw29_HoldDoes.l0 k x0 bt139.1 (wrap64 (x6 + 1)) bt136.1) else (some false)) else (some false)))) else (if x127000 = x5 then (tollbarlaw29_HoldDoes.l0 k x0 x5 (wrap64 (x6 + 1)) x127000) else (some false)))) else (some false)))) else (none)) else (some true)
def tollbarlaw29_HoldDoes.f (k : Nat) (l0 : List (S27)) : Option (Bool) := (tollbarlaw29_awake.f k).bind fun t125 => (if t125 = true then (if (l0.length : Int) > 200 then (some true) else (tollbarlaw29_HoldDoes.l0 k l0 0 0 0)) else (some false))
theorem tollbarlaw29_HoldDoes.mono_l : ∀ k, (∀ y0 y1 y2 y3, LeO (tollbarlaw29_HoldDoes.l0 k y0 y1 y2 y3) (tollbarlaw29_HoldDoes.l0 (k + 1) y0 y1 y2 y3))
  | 0 => fun _ _ _ _ r h => by simp [tollbarlaw29_HoldDoes.l0] at h
  | k + 1 => by
    have ih0 := tollbarlaw29_HoldDoes.mono_l k
    · intro y0 y1 y2 y3
      unfold tollbarlaw29_HoldDoes.l0
      repeat' first
      | (with_reducible exact ih0 _ _ _ _)
      | (with_reducible exact hold_Hold_Give.mono _ _ _)
      | (with_reducible exact tollbarlaw29_awake.mono _)
      | (with_reducible exact tollbarref29_Give.mono _ _ _)
      | (with_reducible exact LeO.refl _)
      | (with_reducible exact LeO.none _)
      | (with_reducible refine LeO.ite ?_ ?_)
      | (with_reducible refine LeO.bind ?_ (fun _ => ?_))
      | exact ih0 _ _ _ _
      | exact hold_Hold_Give.mono _ _ _
      | exact tollbarlaw29_awake.mono _
      | exact tollbarref29_Give.mono _ _ _
      | exact LeO.none _
      | refine LeO.ite ?_ ?_
      | refine LeO.bind ?_ (fun _ => ?_)
theorem tollbarlaw29_HoldDoes.mono : ∀ a0 k, LeO (tollbarlaw29_HoldDoes.f k a0) (tollbarlaw29_HoldDoes.f (k + 1) a0) := by
  intro a0 k
  have ih0 := tollbarlaw29_HoldDoes.mono_l k
  unfold tollbarlaw29_HoldDoes.f
  repeat' first
      | (with_reducible exact ih0 _ _ _ _)
      | (with_reducible exact hold_Hold_Give.mono _ _ _)
      | (with_reducible exact tollbarlaw29_awake.mono _)
      | (with_reducible exact tollbarref29_Give.mono _ _ _)
      | (with_reducible exact LeO.refl _)
      | (with_reducible exact LeO.none _)
      | (with_reducible refine LeO.ite ?_ ?_)
      | (with_reducible refine LeO.bind ?_ (fun _ => ?_))
      | exact ih0 _ _ _ _
      | exact hold_Hold_Give.mono _ _ _
      | exact tollbarlaw29_awake.mono _
      | exact tollbarref29_Give.mono _ _ _
      | exact LeO.none _
      | refine LeO.ite ?_ ?_
      | refine LeO.bind ?_ (fun _ => ?_)
def tollbarlaw29_HoldDoes.T12 : Bool × List (List Nat × List Nat) := (true, [([], []), ([], []), ([1], [1]), ([0, 2], [0, 2]), ([], []), ([], []), ([5], [5]), ([4, 6, 3], [4, 6]), ([3, 7], [3, 7])])
def tollbarlaw29_HoldDoes.B12 : List Nat := [0, 0, 2, 7, 0, 0, 32, 127, 255]
theorem tollbarlaw29_HoldDoes.tab12 : rtab .any (opsOf Try.f3 12) = tollbarlaw29_HoldDoes.T12 := by kernel_rfl
theorem tollbarlaw29_HoldDoes.bits12 : waitsOk tollbarlaw29_HoldDoes.T12.2 tollbarlaw29_HoldDoes.B12 = true := by kernel_rfl
set_option maxHeartbeats 8000000 in
set_option maxRecDepth 100000 in
theorem tollbarlaw29_HoldDoes.calls (k : Nat) (A0 : Option Addr) (c0 : Nat) (l0 : List (S27)) (r : Bool) (w : World) (hr0 : Kd.C k27 w A0 l0.length l0) (hc0 : l0.length ≤ c0) (h : tollbarlaw29_HoldDoes.f k l0 = some r) :
    Calls Try.prog 3 #[.slice A0 l0.length c0] w fun e w' => e = .returned (.bool r) ∧ Below w.heap.size w w' := by
  have hu25 := Try.underlying25
  have hu27 := Try.underlying27
  have HR0 := Aside0.mk hr0
  have HC0 := Aside0.mk hc0
  clear hr0 hc0
  have HB := Aside0.mk (Below.refl w.heap.size w)
  have H : ((tollbarlaw29_awake.f k).bind fun t125 => (if t125 = true then (if (l0.length : Int) > 200 then (some true) else (tollbarlaw29_HoldDoes.l0 k l0 0 0 0)) else (some false))) = some r := h
  clear h
  replace H := Option.bind_eq_some_iff.mp H
  obtain ⟨t125, A20, H⟩ := H
  replace H : (if t125 = true then (if (l0.length : Int) > 200 then (some true) else (tollbarlaw29_HoldDoes.l0 k l0 0 0 0)) else (some false)) = some r := H
  have A2 := Aside0.mk A20
  clear A20
  by_cases c3 : t125 = true
  · subst c3
    have H1 : (if (l0.length : Int) > 200 then (some true) else (tollbarlaw29_HoldDoes.l0 k l0 0 0 0)) = some r := by rw [if_pos rfl] at H; exact H
    clear H
    have H := H1
    clear H1
    by_cases c4 : (l0.length : Int) > 200
    · rw [if_pos c4] at H
      have c4b0 : decide (200 < (l0.length : Int)) = true := decide_eq_true c4
      have c4b1 : decide (200 < l0.length) = true := decide_eq_true (by omega)
      clear c4
      obtain rfl := Option.some.inj H
      go_enter Try.func3, Try.ntmps3
      go_wp2_with (first | ((with_reducible refine gate_callee (f := 6) rfl ?_); refine goesL_ (some 16) rfl rfl Try.func6 (by kernel_rfl) rfl #[] rfl (by (try simp only [List.map_toArray, List.map_cons, List.map_nil]); first | done | rfl | (simp only [List.length_drop, List.length_take]; rfl)) ?_; (with_reducible refine (tollbarlaw29_awake.calls k  true _ A2.out).mono ?_); rintro e w5 ⟨rfl, hb⟩; refine ⟨_, rfl, ?_⟩; have n0_ := Aside0.mk (below_step (by repeat (first | (with_reducible first | exact HB.out | apply below_alloc | apply pw_below_drewN | apply below_drew1) | exact HB.out)) hb); clear HB; have HB := n0_; clear n0_; (try clear hb); (try clear hb2); (try clear hk); (try clear hi)))
      go_ret
      exact ⟨by first | rfl | (simp [errW_none, errW_some] <;> rfl) | (simp [*, errW_none, errW_some] <;> rfl), by repeat (first | (with_reducible first | exact HB.out | apply below_alloc | apply pw_below_drewN | apply below_drew1) | exact HB.out)⟩
    · rw [if_neg c4] at H
      have c4b0 : decide (200 < (l0.length : Int)) = false := decide_eq_false c4
      have c4b1 : decide (200 < l0.length) = false := decide_eq_false (by omega)
      clear c4
      have H' := Aside0.mk H
      clear H
      go_enter Try.func3, Try.ntmps3
      go_wp2_with (first | ((with_reducible refine gate_callee (f := 6) rfl ?_); refine goesL_ (some 16) rfl rfl Try.func6 (by kernel_rfl) rfl #[] rfl (by (try simp only [List.map_toArray, List.map_cons, List.map_nil]); first | done | rfl | (simp only [List.length_drop, List.length_take]; rfl)) ?_; (with_reducible refine (tollbarlaw29_awake.calls k  true _ A2.out).mono ?_); rintro e w6 ⟨rfl, hb⟩; refine ⟨_, rfl, ?_⟩; have n0_ := Aside0.mk (below_step (by repeat (first | (with_reducible first | exact HB.out | apply below_alloc | apply pw_below_drewN | apply below_drew1) | exact HB.out)) hb); clear HB; have HB := n0_; clear n0_; (try clear hb); (try clear hb2); (try clear hk); (try clear hi)) | ((with_reducible refine gate_dst (N := 4) rfl ?_); refine box_event ?hg (N := 4) ?hd (cs := #[.int .i64 0]) (t := 25) ?hr ?_; (case hd => rfl); (case hg => rfl); (case hr => first | (go_simp; done) | (go_simp; rfl)); intro gb126 hg w7 hbox hb; have n0_ := Aside0.mk (below_step (by repeat (first | (with_reducible first | exact HB.out | apply below_alloc | apply pw_below_drewN | apply below_drew1) | exact HB.out)) hb); have n1_ := Aside0.mk (hbox); have n2_ := Aside0.mk ((by rw [hg]; exact (below_size (by repeat (first | (with_reducible first | exact HB.out | apply below_alloc | apply pw_below_drewN | apply below_drew1) | exact HB.out))) : w.heap.size ≤ gb126)); have n3_ := Aside0.mk ((by rw [hg]; exact (below_size (by repeat (first | (with_reducible first | exact HB.out | apply below_alloc | apply pw_below_drewN | apply below_drew1) | exact HB.out))) : w.heap.size ≤ gb126)); clear HB; have HB := n0_; have BK126 := n1_; have GW126 := n2_; have GE126 := n3_; clear n0_ n1_ n2_ n3_; clear hb hbox hg; have hcz8_0 : w7.cell? ⟨gb126, 0, none⟩ = some (.int .i64 0) := (blk_cell BK126.out 0).trans rfl; have hfz8_0 := blk_frozen BK126.out 0))
      go_loopg [5, 6] k (fun kq v5 v6 w' => ∃ (x5_1 : Int) (x6_1 : Int) (x127000_1 : Int), v5 = .int .i64 x5_1 ∧ v6 = .int .i64 x6_1 ∧ Aside0 (tollbarlaw29_HoldDoes.l0 kq l0 x5_1 x6_1 x127000_1 = some r) ∧ Aside0 (kq ≤ k) ∧ Aside0 (w'.heap[gb126]? = some (.cells #[.int .i64 x127000_1] 25 (0, 0))) ∧ Aside0 (Below w.heap.size w w'))
      case atStart => exact ⟨(0), (0), (0), (by first | rfl | (simp; done) | (simp [*]; done)), (by first | rfl | (simp; done) | (simp [*]; done)), H', ⟨Nat.le_refl _⟩, ⟨by (with_reducible repeat (first | refine blk_drewN ?_ _ | refine blk_drew ?_ | refine blk_alloc ?_ _)); refine blk_put (cs := #[.int .i64 0]) ?_ 0 _ rfl; (with_reducible repeat (first | refine blk_drewN ?_ _ | refine blk_drew ?_ | refine blk_alloc ?_ _)); exact BK126.out⟩, ⟨by repeat (first | (with_reducible first | exact HB.out | apply below_alloc | apply pw_below_drewN | apply below_drew1 | refine below_set ?_ GE126.out) | exact HB.out)⟩⟩
      case round =>
        clear H'
        try clear p2
        try clear c3
        try clear c4
        try clear c4b0
        try clear c4b1
        try clear c6
        try clear hcz8_0
        try clear hfz8_0
        obtain ⟨x5_1, x6_1, x127000_1, rfl, rfl, HA, HK1, BK126, HB⟩ := hrel
        cases gk with
        | zero => exact absurd HA.out (by simp [tollbarlaw29_HoldDoes.l0])
        | succ k1 =>
          have H := HA.out
          clear HA
          simp only [tollbarlaw29_HoldDoes.l0] at H
          by_cases c9 : x6_1 < (l0.length : Int)
          · rw [if_pos c9] at H
            have c9b0 : decide (x6_1 < (l0.length : Int)) = true := decide_eq_true c9
            clear c9
            by_cases c10 : 0 ≤ x6_1
            · rw [if_pos c10] at H
              have c10b0 : decide (0 ≤ x6_1) = true := decide_eq_true c10
              clear c10
              replace H := Option.bind_eq_some_iff.mp H
              obtain ⟨t129, A110, H⟩ := H
              replace H : ((tollbarref29_May.f x5_1 ((rd_T27 l0 x6_1).f1)).bind fun t130 => (if t129 = t130 then (if ((rd_T27 l0 x6_1).f0) = 0 then ((hold_Hold_Take.f x127000_1 ((rd_T27 l0 x6_1).f1)).bind fun bt131 => ((tollbarref29_Take.f x5_1 ((rd_T27 l0 x6_1).f1)).bind fun bt134 => (if bt131.2 = bt134.2 then (if bt131.1 = bt134.1 then (tollbarlaw29_HoldDoes.l0 k1 l0 bt134.1 (wrap64 (x6_1 + 1)) bt131.1) else (some false)) else (some false)))) else (if ((rd_T27 l0 x6_1).f0) = 1 then ((hold_Hold_Give.f k1 x127000_1 ((rd_T27 l0 x6_1).f1)).bind fun bt136 => ((tollbarref29_Give.f k1 x5_1 ((rd_T27 l0 x6_1).f1)).bind fun bt139 => (if bt136.2 = bt139.2 then (if bt136.1 = bt139.1 then (tollbarlaw29_HoldDoes.l0 k1 l0 bt139.1 (wrap64 (x6_1 + 1)) bt136.1) else (some false)) else (some false)))) else (if x127000_1 = x5_1 then (tollbarlaw29_HoldDoes.l0 k1 l0 x5_1 (wrap64 (x6_1 + 1)) x127000_1) else (some false)))) else (some false))) = some r := H
              have A11 := Aside0.mk A110
              clear A110
              replace H := Option.bind_eq_some_iff.mp H
              obtain ⟨t130, A120, H⟩ := H
              replace H : (if t129 = t130 then (if ((rd_T27 l0 x6_1).f0) = 0 then ((hold_Hold_Take.f x127000_1 ((rd_T27 l0 x6_1).f1)).bind fun bt131 => ((tollbarref29_Take.f x5_1 ((rd_T27 l0 x6_1).f1)).bind fun bt134 => (if bt131.2 = bt134.2 then (if bt131.1 = bt134.1 then (tollbarlaw29_HoldDoes.l0 k1 l0 bt134.1 (wrap64 (x6_1 + 1)) bt131.1) else (some false)) else (some false)))) else (if ((rd_T27 l0 x6_1).f0) = 1 then ((hold_Hold_Give.f k1 x127000_1 ((rd_T27 l0 x6_1).f1)).bind fun bt136 => ((tollbarref29_Give.f k1 x5_1 ((rd_T27 l0 x6_1).f1)).bind fun bt139 => (if bt136.2 = bt139.2 then (if bt136.1 = bt139.1 then (tollbarlaw29_HoldDoes.l0 k1 l0 bt139.1 (wrap64 (x6_1 + 1)) bt136.1) else (some false)) else (some false)))) else (if x127000_1 = x5_1 then (tollbarlaw29_HoldDoes.l0 k1 l0 x5_1 (wrap64 (x6_1 + 1)) x127000_1) else (some false)))) else (some false)) = some r := H
              have A12 := Aside0.mk A120
              clear A120
              by_cases c13 : t129 = t130
              · rw [if_pos c13] at H
                have c13b0 : (t129 == t130) = true := beq_iff_eq.mpr c13
                have c13b1 : (t129 != t130) = false := bne_eq_false_iff_eq.mpr c13
                clear c13
                by_cases c14 : ((rd_T27 l0 x6_1).f0) = 0
                · rw [if_pos c14] at H
                  have c14b0 : (((rd_T27 l0 x6_1).f0) == 0) = true := beq_iff_eq.mpr c14
                  have c14b1 : (((rd_T27 l0 x6_1).f0) != 0) = false := bne_eq_false_iff_eq.mpr c14
                  clear c14
                  replace H := Option.bind_eq_some_iff.mp H
                  obtain ⟨⟨t131, t132⟩, A150, H⟩ := H
                  replace H : ((tollbarref29_Take.f x5_1 ((rd_T27 l0 x6_1).f1)).bind fun bt134 => (if t132 = bt134.2 then (if t131 = bt134.1 then (tollbarlaw29_HoldDoes.l0 k1 l0 bt134.1 (wrap64 (x6_1 + 1)) t131) else (some false)) else (some false))) = some r := H
                  have A15 := Aside0.mk A150
                  clear A150
                  replace H := Option.bind_eq_some_iff.mp H
                  obtain ⟨⟨t134, t135⟩, A160, H⟩ := H
                  replace H : (if t132 = t135 then (if t131 = t134 then (tollbarlaw29_HoldDoes.l0 k1 l0 t134 (wrap64 (x6_1 + 1)) t131) else (some false)) else (some false)) = some r := H
                  have A16 := Aside0.mk A160
                  clear A160
                  by_cases c17 : t132 = t135
                  · rw [if_pos c17] at H
                    have c17b0 : (t132 == t135) = true := beq_iff_eq.mpr c17
                    have c17b1 : (t132 != t135) = false := bne_eq_false_iff_eq.mpr c17
                    clear c17
                    by_cases c18 : t131 = t134
                    · rw [if_pos c18] at H
                      have c18b0 : (t131 == t134) = true := beq_iff_eq.mpr c18
                      have c18b1 : (t131 != t134) = false := bne_eq_false_iff_eq.mpr c18
                      clear c18
                      have H' := Aside0.mk H
                      clear H
                      have p127 : 0 ≤ (x6_1 : Int) := of_decide_eq_true (by first | (with_reducible assumption) | assumption)
                      have q127 : x6_1 < (l0.length : Int) := of_decide_eq_true (by first | (with_reducible assumption) | assumption)
                      obtain ⟨ad127, e127, hx127_0, hx127_1⟩ := at_T27 HR0.out x6_1 p127 q127
                      cases e127
                      replace hx127_0 := (HB.out.cell (World.block_lt_of_cell? w _ hx127_0)).trans hx127_0
                      replace hx127_1 := (HB.out.cell (World.block_lt_of_cell? w _ hx127_1)).trans hx127_1
                      replace p127 := eq_true p127
                      replace q127 := eq_true q127
                      try go_wp2_with (first | ((with_reducible refine gate_dst (N := 7) rfl ?_); refine box_event ?hg (N := 7) ?hd (cs := #[.int .i64 0, .int .i64 0]) (t := 27) ?hr ?_; (case hd => rfl); (case hg => rfl); (case hr => first | (go_simp; done) | (go_simp; rfl)); intro gb128 hg w19 hbox hb; have n0_ := Aside0.mk (blk_below (g := gb126) (o := .cells #[.int .i64 x127000_1] 25 (0, 0)) (by (with_reducible repeat (first | refine blk_drewN ?_ _ | refine blk_drew ?_ | refine blk_alloc ?_ _)); exact BK126.out) hb); have n1_ := Aside0.mk (below_step (by repeat (first | (with_reducible first | exact HB.out | apply below_alloc | apply pw_below_drewN | apply below_drew1 | refine below_set ?_ GE126.out) | exact HB.out)) hb); have n2_ := Aside0.mk (hbox); have n3_ := Aside0.mk ((by rw [hg]; exact (below_size (by repeat (first | (with_reducible first | exact HB.out | apply below_alloc | apply pw_below_drewN | apply below_drew1 | refine below_set ?_ GE126.out) | exact HB.out))) : w.heap.size ≤ gb128)); have n4_ := Aside0.mk ((by rw [hg]; exact (below_size (by repeat (first | (with_reducible first | exact HB.out | apply below_alloc | apply pw_below_drewN | apply below_drew1 | refine below_set ?_ GE126.out) | exact HB.out))) : w.heap.size ≤ gb128)); have n5_ := Aside0.mk ((by rw [hg]; exact Nat.ne_of_lt (blk_lt (g := gb126) (o := .cells #[.int .i64 x127000_1] 25 (0, 0)) (by (with_reducible repeat (first | refine blk_drewN ?_ _ | refine blk_drew ?_ | refine blk_alloc ?_ _)); exact BK126.out)) : gb126 ≠ gb128)); have n6_ := Aside0.mk ((by rw [hg]; exact Nat.ne_of_gt (blk_lt (g := gb126) (o := .cells #[.int .i64 x127000_1] 25 (0, 0)) (by (with_reducible repeat (first | refine blk_drewN ?_ _ | refine blk_drew ?_ | refine blk_alloc ?_ _)); exact BK126.out)) : gb128 ≠ gb126)); clear BK126; clear HB; have BK126 := n0_; have HB := n1_; have BK128 := n2_; have GW128 := n3_; have GE128 := n4_; have NB126_128 := n5_; have NB128_126 := n6_; clear n0_ n1_ n2_ n3_ n4_ n5_ n6_; clear hb hbox hg; have hnb20 := NB128_126.out; have hnc20 := NB126_128.out; have hcz21_0 : w19.cell? ⟨gb128, 0, none⟩ = some (.int .i64 0) := (blk_cell BK128.out 0).trans rfl; have hcz21_1 : w19.cell? ⟨gb128, 1, none⟩ = some (.int .i64 0) := (blk_cell BK128.out 1).trans rfl; have hfz21_0 := blk_frozen BK128.out 0; have hfz21_1 := blk_frozen BK128.out 1))
                      have n0_ : Aside0 (((w19.setCell ⟨gb128, 0, none⟩ (.int .i64 ((rd_T27 l0 x6_1).f0))).setCell ⟨gb128, 1, none⟩ (.int .i64 ((rd_T27 l0 x6_1).f1))).heap[gb126]? = some (.cells #[.int .i64 x127000_1] 25 (0, 0))) := ⟨by (with_reducible repeat (first | refine blk_drewN ?_ _ | refine blk_drew ?_ | refine blk_alloc ?_ _)); refine blk_far ?_ NB126_128.out _; (with_reducible repeat (first | refine blk_drewN ?_ _ | refine blk_drew ?_ | refine blk_alloc ?_ _)); refine blk_far ?_ NB126_128.out _; (with_reducible repeat (first | refine blk_drewN ?_ _ | refine blk_drew ?_ | refine blk_alloc ?_ _)); exact BK126.out⟩
                      have n1_ : Aside0 (((w19.setCell ⟨gb128, 0, none⟩ (.int .i64 ((rd_T27 l0 x6_1).f0))).setCell ⟨gb128, 1, none⟩ (.int .i64 ((rd_T27 l0 x6_1).f1))).heap[gb128]? = some (.cells #[.int .i64 ((rd_T27 l0 x6_1).f0), .int .i64 ((rd_T27 l0 x6_1).f1)] 27 (0, 0))) := ⟨by (with_reducible repeat (first | refine blk_drewN ?_ _ | refine blk_drew ?_ | refine blk_alloc ?_ _)); refine blk_put (cs := #[.int .i64 ((rd_T27 l0 x6_1).f0), .int .i64 0]) ?_ 1 _ rfl; (with_reducible repeat (first | refine blk_drewN ?_ _ | refine blk_drew ?_ | refine blk_alloc ?_ _)); refine blk_put (cs := #[.int .i64 0, .int .i64 0]) ?_ 0 _ rfl; (with_reducible repeat (first | refine blk_drewN ?_ _ | refine blk_drew ?_ | refine blk_alloc ?_ _)); exact BK128.out⟩
                      have n2_ : Aside0 (Below w.heap.size w ((w19.setCell ⟨gb128, 0, none⟩ (.int .i64 ((rd_T27 l0 x6_1).f0))).setCell ⟨gb128, 1, none⟩ (.int .i64 ((rd_T27 l0 x6_1).f1)))) := ⟨by repeat (first | (with_reducible first | exact HB.out | apply below_alloc | apply pw_below_drewN | apply below_drew1 | refine below_set ?_ GE126.out | refine below_set ?_ GE128.out) | exact HB.out)⟩
                      (try clear BK126)
                      (try clear BK128)
                      (try clear HB)
                      generalize ((w19.setCell ⟨gb128, 0, none⟩ (.int .i64 ((rd_T27 l0 x6_1).f0))).setCell ⟨gb128, 1, none⟩ (.int .i64 ((rd_T27 l0 x6_1).f1))) = w22 at n0_ n1_ n2_ ⊢
                      have BK126 := n0_
                      have BK128 := n1_
                      have HB := n2_
                      clear n0_ n1_ n2_
                      have n0_ := Aside0.mk (blk_drew BK126.out)
                      have n1_ := Aside0.mk (blk_drew BK128.out)
                      have n2_ := Aside0.mk (below_drew1 HB.out)
                      clear BK126
                      clear BK128
                      clear HB
                      have BK126 := n0_
                      have BK128 := n1_
                      have HB := n2_
                      clear n0_ n1_ n2_
                      refine start_ (n := 9) (S := fun w' => w'.cell? ⟨gb126, 0, none⟩ = some (.int .i64 x127000_1) ∧ w'.cell? ⟨gb128, 0, none⟩ = some (.int .i64 ((rd_T27 l0 x6_1).f0)) ∧ w'.cell? ⟨gb128, 1, none⟩ = some (.int .i64 ((rd_T27 l0 x6_1).f1))) (ds := []) #[false, false, false, false, false, false, false, false, false] (by kernel_rfl) rfl rfl ⟨(blk_cell BK126.out 0).trans rfl, (blk_cell BK128.out 0).trans rfl, (blk_cell BK128.out 1).trans rfl⟩ (fun hHeld => ?_); refine with_tabW tollbarlaw29_HoldDoes.tab12 tollbarlaw29_HoldDoes.bits12 (fun HT_ HW_ => ?_)
                      generalize w22.drew = w23 at BK126 BK128 HB hHeld ⊢
                      refine pure_ (i := 1) (N := some 34) (v := ?_) (a' := ?_) #[false, true, false, false, false, false, false, false, false] rfl rfl (any_of HT_.out (by kernel_rfl)) (fun _ _ _ h => h) (Or.inl ⟨by rfl, ?_⟩) ?_ ?_
                      rotate_left
                      · intro w'
                        go_simp
                        with_reducible rfl
                      rotate_left
                      · simp only [Act.put, List.setIfInBounds_toArray, List.set_cons_zero, List.set_cons_succ, i64_w, i32_w]
                        rfl
                      refine pure_ (i := 4) (N := some 37) (v := ?_) (a' := ?_) #[false, true, false, false, true, false, false, false, false] rfl rfl (any_of HT_.out (by kernel_rfl)) (fun _ _ _ h => h) (Or.inl ⟨by rfl, ?_⟩) ?_ ?_
                      rotate_left
                      · intro w'
                        go_simp
                        with_reducible rfl
                      rotate_left
                      · simp only [Act.put, List.setIfInBounds_toArray, List.set_cons_zero, List.set_cons_succ, i64_w, i32_w]
                        rfl
                      refine pure_ (i := 5) (N := some 38) (v := ?_) (a' := ?_) #[false, true, false, false, true, true, false, false, false] rfl rfl (any_of HT_.out (by kernel_rfl)) (fun _ _ _ h => h) (Or.inl ⟨by rfl, ?_⟩) ?_ ?_
                      rotate_left
                      · intro w'
                        go_simp
                        with_reducible rfl
                      rotate_left
                      · simp only [Act.put, List.setIfInBounds_toArray, List.set_cons_zero, List.set_cons_succ, i64_w, i32_w]
                        rfl
                      refine take_ (i := 0) (N := some 33) (v := ?_) (a' := ?_) #[true, true, false, false, true, true, false, false, false] rfl rfl (take_ofW HT_.out HW_.out (by kernel_rfl)) (fun _ _ _ h => h) (Or.inl ⟨by rfl, ?_⟩) hHeld ?_ ?_
                      rotate_left
                      · rintro w' ⟨s0, s1, s2⟩
                        go_simp
                        with_reducible rfl
                      rotate_left
                      · simp only [Act.put, List.setIfInBounds_toArray, List.set_cons_zero, List.set_cons_succ, i64_w, i32_w]
                        rfl
                      refine take_ (i := 2) (N := some 35) (v := ?_) (a' := ?_) #[true, true, true, false, true, true, false, false, false] rfl rfl (take_ofW HT_.out HW_.out (by kernel_rfl)) (fun _ _ _ h => h) (Or.inl ⟨by rfl, ?_⟩) hHeld ?_ ?_
                      rotate_left
                      · rintro w' ⟨s0, s1, s2⟩
                        go_simp
                        with_reducible rfl
                      rotate_left
                      · simp only [Act.put, List.setIfInBounds_toArray, List.set_cons_zero, List.set_cons_succ, i64_w, i32_w]
                        rfl
                      refine take_ (i := 6) (N := some 39) (v := ?_) (a' := ?_) #[true, true, true, false, true, true, true, false, false] rfl rfl (take_ofW HT_.out HW_.out (by kernel_rfl)) (fun _ _ _ h => h) (Or.inl ⟨by rfl, ?_⟩) hHeld ?_ ?_
                      rotate_left
                      · rintro w' ⟨s0, s1, s2⟩
                        go_simp
                        with_reducible rfl
                      rotate_left
                      · simp only [Act.put, List.setIfInBounds_toArray, List.set_cons_zero, List.set_cons_succ, i64_w, i32_w]
                        rfl
                      refine one_ (i := 3) (N := some 36) #[true, true, true, true, true, true, true, false, false] rfl rfl (one_of HT_.out (by kernel_rfl)) (by decide) (fun K hK => ?_)
                      refine goes_ Try.func7 (by kernel_rfl) rfl #[.agg #[.int .i64 x127000_1], .int .i64 ((rd_T27 l0 x6_1).f1)] (by rfl) rfl rfl (by (try simp only [List.map_toArray, List.map_cons, List.map_nil]); first | done | rfl | (simp only [List.length_drop, List.length_take]; rfl)) ?_
                      with_reducible refine (hold_Hold_May.calls x127000_1 ((rd_T27 l0 x6_1).f1) t129 _ A11.out).mono ?_
                      rintro e w24 ⟨rfl, hb⟩
                      refine ⟨_, rfl, ?_⟩
                      have n0_ := Aside0.mk (blk_below (g := gb126) (o := .cells #[.int .i64 x127000_1] 25 (0, 0)) (by (with_reducible repeat (first | refine blk_drewN ?_ _ | refine blk_drew ?_ | refine blk_alloc ?_ _)); exact BK126.out) hb)
                      have n1_ := Aside0.mk (blk_below (g := gb128) (o := .cells #[.int .i64 ((rd_T27 l0 x6_1).f0), .int .i64 ((rd_T27 l0 x6_1).f1)] 27 (0, 0)) (by (with_reducible repeat (first | refine blk_drewN ?_ _ | refine blk_drew ?_ | refine blk_alloc ?_ _)); exact BK128.out) hb)
                      have n2_ := Aside0.mk (below_step (by repeat (first | (with_reducible first | exact HB.out | apply below_alloc | apply pw_below_drewN | apply below_drew1 | refine below_set ?_ GE126.out | refine below_set ?_ GE128.out) | exact HB.out)) hb)
                      clear BK126
                      clear BK128
                      clear HB
                      have BK126 := n0_
                      have BK128 := n1_
                      have HB := n2_
                      clear n0_ n1_ n2_
                      (try clear hb)
                      (try clear hb2)
                      (try clear hk)
                      (try clear hi)
                      refine hK.out _ _ ⟨(blk_cell BK126.out 0).trans rfl, (blk_cell BK128.out 0).trans rfl, (blk_cell BK128.out 1).trans rfl⟩ (fun hHeld => ?_)
                      clear hK K
                      refine norm_ (a' := ?_) ?_ ?_
                      rotate_left
                      · show Act.put _ (some 36) _ = _
                        simp only [Act.put, List.setIfInBounds_toArray, List.set_cons_zero, List.set_cons_succ, i64_w, i32_w]
                        rfl
                      refine one_ (i := 7) (N := some 40) #[true, true, true, true, true, true, true, true, false] rfl rfl (one_of HT_.out (by kernel_rfl)) (by decide) (fun K hK => ?_)
                      refine goes_ Try.func8 (by kernel_rfl) rfl #[.int .i64 x5_1, .int .i64 ((rd_T27 l0 x6_1).f1)] (by rfl) rfl rfl (by (try simp only [List.map_toArray, List.map_cons, List.map_nil]); first | done | rfl | (simp only [List.length_drop, List.length_take]; rfl)) ?_
                      with_reducible refine (tollbarref29_May.calls x5_1 ((rd_T27 l0 x6_1).f1) t130 _ A12.out).mono ?_
                      rintro e w' ⟨rfl, ⟨nd, rfl⟩⟩
                      refine ⟨_, rfl, ?_⟩
                      refine hK.out _ _ ⟨(blk_cell BK126.out 0).trans rfl, (blk_cell BK128.out 0).trans rfl, (blk_cell BK128.out 1).trans rfl⟩ (fun hHeld => ?_)
                      clear hK K
                      refine norm_ (a' := ?_) ?_ ?_
                      rotate_left
                      · show Act.put _ (some 40) _ = _
                        simp only [Act.put, List.setIfInBounds_toArray, List.set_cons_zero, List.set_cons_succ, i64_w, i32_w]
                        rfl
                      refine pure_ (i := 8) (N := some 41) (v := ?_) (a' := ?_) #[true, true, true, true, true, true, true, true, true] rfl rfl (any_of HT_.out (by kernel_rfl)) (fun _ _ _ h => h) (Or.inl ⟨by rfl, ?_⟩) ?_ ?_
                      rotate_left
                      · intro w'
                        go_simp
                        with_reducible rfl
                      rotate_left
                      · simp only [Act.put, List.setIfInBounds_toArray, List.set_cons_zero, List.set_cons_succ, i64_w, i32_w]
                        rfl
                      refine done_ (done_of HT_.out (by kernel_rfl)) ?_
                      have hcz25_0 : w24.cell? ⟨gb128, 0, none⟩ = some (.int .i64 ((rd_T27 l0 x6_1).f0)) := (blk_cell BK128.out 0).trans rfl
                      have hcz25_1 : w24.cell? ⟨gb128, 1, none⟩ = some (.int .i64 ((rd_T27 l0 x6_1).f1)) := (blk_cell BK128.out 1).trans rfl
                      have hfz25_0 := blk_frozen BK128.out 0
                      have hfz25_1 := blk_frozen BK128.out 1
                      have hcz26_0 : w24.cell? ⟨gb126, 0, none⟩ = some (.int .i64 x127000_1) := (blk_cell BK126.out 0).trans rfl
                      have hfz26_0 := blk_frozen BK126.out 0
                      try go_wp2_with (first | ((with_reducible refine gate_callee (f := 9) rfl ?_); refine goesL_ (some 50) rfl rfl Try.func9 (by kernel_rfl) rfl #[.agg #[.int .i64 x127000_1], .int .i64 ((rd_T27 l0 x6_1).f1)] rfl (by (try simp only [List.map_toArray, List.map_cons, List.map_nil]); first | done | rfl | (simp only [List.length_drop, List.length_take]; rfl)) ?_; (with_reducible refine (hold_Hold_Take.calls x127000_1 ((rd_T27 l0 x6_1).f1) t131 t132 _ A15.out).mono ?_); rintro e w27 ⟨rfl, hb⟩; refine ⟨_, rfl, ?_⟩; have n0_ := Aside0.mk (blk_below (g := gb126) (o := .cells #[.int .i64 x127000_1] 25 (0, 0)) (by (with_reducible repeat (first | refine blk_drewN ?_ _ | refine blk_drew ?_ | refine blk_alloc ?_ _)); exact BK126.out) hb); have n1_ := Aside0.mk (blk_below (g := gb128) (o := .cells #[.int .i64 ((rd_T27 l0 x6_1).f0), .int .i64 ((rd_T27 l0 x6_1).f1)] 27 (0, 0)) (by (with_reducible repeat (first | refine blk_drewN ?_ _ | refine blk_drew ?_ | refine blk_alloc ?_ _)); exact BK128.out) hb); have n2_ := Aside0.mk (below_step (by repeat (first | (with_reducible first | exact HB.out | apply below_alloc | apply pw_below_drewN | apply below_drew1 | refine below_set ?_ GE126.out | refine below_set ?_ GE128.out) | exact HB.out)) hb); clear BK126; clear BK128; clear HB; have BK126 := n0_; have BK128 := n1_; have HB := n2_; clear n0_ n1_ n2_; (try clear hb); (try clear hb2); (try clear hk); (try clear hi)) | ((with_reducible refine gate_dst (N := 8) rfl ?_); refine box_event ?hg (N := 8) ?hd (cs := #[.int .i64 0]) (t := 25) ?hr ?_; (case hd => rfl); (case hg => rfl); (case hr => first | (go_simp; done) | (go_simp; rfl)); intro gb133 hg w28 hbox hb; have n0_ := Aside0.mk (blk_below (g := gb126) (o := .cells #[.int .i64 x127000_1] 25 (0, 0)) (by (with_reducible repeat (first | refine blk_drewN ?_ _ | refine blk_drew ?_ | refine blk_alloc ?_ _)); exact BK126.out) hb); have n1_ := Aside0.mk (blk_below (g := gb128) (o := .cells #[.int .i64 ((rd_T27 l0 x6_1).f0), .int .i64 ((rd_T27 l0 x6_1).f1)] 27 (0, 0)) (by (with_reducible repeat (first | refine blk_drewN ?_ _ | refine blk_drew ?_ | refine blk_alloc ?_ _)); exact BK128.out) hb); have n2_ := Aside0.mk (below_step (by repeat (first | (with_reducible first | exact HB.out | apply below_alloc | apply pw_below_drewN | apply below_drew1 | refine below_set ?_ GE126.out | refine below_set ?_ GE128.out) | exact HB.out)) hb); have n3_ := Aside0.mk (hbox); have n4_ := Aside0.mk ((by rw [hg]; exact (below_size (by repeat (first | (with_reducible first | exact HB.out | apply below_alloc | apply pw_below_drewN | apply below_drew1 | refine below_set ?_ GE126.out | refine below_set ?_ GE128.out) | exact HB.out))) : w.heap.size ≤ gb133)); have n5_ := Aside0.mk ((by rw [hg]; exact (below_size (by repeat (first | (with_reducible first | exact HB.out | apply below_alloc | apply pw_below_drewN | apply below_drew1 | refine below_set ?_ GE126.out | refine below_set ?_ GE128.out) | exact HB.out))) : w.heap.size ≤ gb133)); have n6_ := Aside0.mk ((by rw [hg]; exact Nat.ne_of_lt (blk_lt (g := gb126) (o := .cells #[.int .i64 x127000_1] 25 (0, 0)) (by (with_reducible repeat (first | refine blk_drewN ?_ _ | refine blk_drew ?_ | refine blk_alloc ?_ _)); exact BK126.out)) : gb126 ≠ gb133)); have n7_ := Aside0.mk ((by rw [hg]; exact Nat.ne_of_gt (blk_lt (g := gb126) (o := .cells #[.int .i64 x127000_1] 25 (0, 0)) (by (with_reducible repeat (first | refine blk_drewN ?_ _ | refine blk_drew ?_ | refine blk_alloc ?_ _)); exact BK126.out)) : gb133 ≠ gb126)); have n8_ := Aside0.mk ((by rw [hg]; exact Nat.ne_of_lt (blk_lt (g := gb128) (o := .cells #[.int .i64 ((rd_T27 l0 x6_1).f0), .int .i64 ((rd_T27 l0 x6_1).f1)] 27 (0, 0)) (by (with_reducible repeat (first | refine blk_drewN ?_ _ | refine blk_drew ?_ | refine blk_alloc ?_ _)); exact BK128.out)) : gb128 ≠ gb133)); have n9_ := Aside0.mk ((by rw [hg]; exact Nat.ne_of_gt (blk_lt (g := gb128) (o := .cells #[.int .i64 ((rd_T27 l0 x6_1).f0), .int .i64 ((rd_T27 l0 x6_1).f1)] 27 (0, 0)) (by (with_reducible repeat (first | refine blk_drewN ?_ _ | refine blk_drew ?_ | refine blk_alloc ?_ _)); exact BK128.out)) : gb133 ≠ gb128)); clear BK126; clear BK128; clear HB; have BK126 := n0_; have BK128 := n1_; have HB := n2_; have BK133 := n3_; have GW133 := n4_; have GE133 := n5_; have NB126_133 := n6_; have NB133_126 := n7_; have NB128_133 := n8_; have NB133_128 := n9_; clear n0_ n1_ n2_ n3_ n4_ n5_ n6_ n7_ n8_ n9_; clear hb hbox hg; have hnb29 := NB133_126.out; have hnc29 := NB126_133.out; have hnb30 := NB133_128.out; have hnc30 := NB128_133.out; have hcz31_0 : w28.cell? ⟨gb133, 0, none⟩ = some (.int .i64 0) := (blk_cell BK133.out 0).trans rfl; have hfz31_0 := blk_frozen BK133.out 0; have hcz32_0 : w28.cell? ⟨gb128, 0, none⟩ = some (.int .i64 ((rd_T27 l0 x6_1).f0)) := (blk_cell BK128.out 0).trans rfl; have hcz32_1 : w28.cell? ⟨gb128, 1, none⟩ = some (.int .i64 ((rd_T27 l0 x6_1).f1)) := (blk_cell BK128.out 1).trans rfl; have hfz32_0 := blk_frozen BK128.out 0; have hfz32_1 := blk_frozen BK128.out 1) | ((with_reducible refine gate_callee (f := 10) rfl ?_); refine goesL_ (some 57) rfl rfl Try.func10 (by kernel_rfl) rfl #[.int .i64 x5_1, .int .i64 ((rd_T27 l0 x6_1).f1)] rfl (by (try simp only [List.map_toArray, List.map_cons, List.map_nil]); first | done | rfl | (simp only [List.length_drop, List.length_take]; rfl)) ?_; (with_reducible refine (tollbarref29_Take.calls x5_1 ((rd_T27 l0 x6_1).f1) t134 t135 _ A16.out).mono ?_); rintro e w' ⟨rfl, ⟨nd, rfl⟩⟩; refine ⟨_, rfl, ?_⟩; have hcz33_0 : w28.cell? ⟨gb126, 0, none⟩ = some (.int .i64 x127000_1) := (blk_cell BK126.out 0).trans rfl; have hfz33_0 := blk_frozen BK126.out 0))
                      go_roundg k1
                      case measure => have := HK1.out; omega
                      case rel => exact ⟨(t134), (wrap64 (x6_1 + 1)), (t131), (by first | rfl | (simp; done) | (simp [*]; done)), (by first | rfl | (simp; done) | (simp [*]; done)), H', ⟨by have := HK1.out; omega⟩, ⟨by (with_reducible repeat (first | refine blk_drewN ?_ _ | refine blk_drew ?_ | refine blk_alloc ?_ _)); refine blk_put (cs := #[.int .i64 x127000_1]) ?_ 0 _ rfl; (with_reducible repeat (first | refine blk_drewN ?_ _ | refine blk_drew ?_ | refine blk_alloc ?_ _)); refine blk_far ?_ NB126_133.out _; (with_reducible repeat (first | refine blk_drewN ?_ _ | refine blk_drew ?_ | refine blk_alloc ?_ _)); exact BK126.out⟩, ⟨by repeat (first | (with_reducible first | exact HB.out | apply below_alloc | apply pw_below_drewN | apply below_drew1 | refine below_set ?_ GE126.out | refine below_set ?_ GE128.out | refine below_set ?_ GE133.out) | exact HB.out)⟩⟩
                    · rw [if_neg c18] at H
                      have c18b0 : (t131 == t134) = false := beq_eq_false_iff_ne.mpr c18
                      have c18b1 : (t131 != t134) = true := bne_iff_ne.mpr c18
                      obtain rfl := Option.some.inj H
                      have p127 : 0 ≤ (x6_1 : Int) := of_decide_eq_true (by first | (with_reducible assumption) | assumption)
                      have q127 : x6_1 < (l0.length : Int) := of_decide_eq_true (by first | (with_reducible assumption) | assumption)
                      obtain ⟨ad127, e127, hx127_0, hx127_1⟩ := at_T27 HR0.out x6_1 p127 q127
                      cases e127
                      replace hx127_0 := (HB.out.cell (World.block_lt_of_cell? w _ hx127_0)).trans hx127_0
                      replace hx127_1 := (HB.out.cell (World.block_lt_of_cell? w _ hx127_1)).trans hx127_1
                      replace p127 := eq_true p127
                      replace q127 := eq_true q127
                      try go_wp2_with (first | ((with_reducible refine gate_dst (N := 7) rfl ?_); refine box_event ?hg (N := 7) ?hd (cs := #[.int .i64 0, .int .i64 0]) (t := 27) ?hr ?_; (case hd => rfl); (case hg => rfl); (case hr => first | (go_simp; done) | (go_simp; rfl)); intro gb128 hg w34 hbox hb; have n0_ := Aside0.mk (blk_below (g := gb126) (o := .cells #[.int .i64 x127000_1] 25 (0, 0)) (by (with_reducible repeat (first | refine blk_drewN ?_ _ | refine blk_drew ?_ | refine blk_alloc ?_ _)); exact BK126.out) hb); have n1_ := Aside0.mk (below_step (by repeat (first | (with_reducible first | exact HB.out | apply below_alloc | apply pw_below_drewN | apply below_drew1 | refine below_set ?_ GE126.out) | exact HB.out)) hb); have n2_ := Aside0.mk (hbox); have n3_ := Aside0.mk ((by rw [hg]; exact (below_size (by repeat (first | (with_reducible first | exact HB.out | apply below_alloc | apply pw_below_drewN | apply below_drew1 | refine below_set ?_ GE126.out) | exact HB.out))) : w.heap.size ≤ gb128)); have n4_ := Aside0.mk ((by rw [hg]; exact (below_size (by repeat (first | (with_reducible first | exact HB.out | apply below_alloc | apply pw_below_drewN | apply below_drew1 | refine below_set ?_ GE126.out) | exact HB.out))) : w.heap.size ≤ gb128)); have n5_ := Aside0.mk ((by rw [hg]; exact Nat.ne_of_lt (blk_lt (g := gb126) (o := .cells #[.int .i64 x127000_1] 25 (0, 0)) (by (with_reducible repeat (first | refine blk_drewN ?_ _ | refine blk_drew ?_ | refine blk_alloc ?_ _)); exact BK126.out)) : gb126 ≠ gb128)); have n6_ := Aside0.mk ((by rw [hg]; exact Nat.ne_of_gt (blk_lt (g := gb126) (o := .cells #[.int .i64 x127000_1] 25 (0, 0)) (by (with_reducible repeat (first | refine blk_drewN ?_ _ | refine blk_drew ?_ | refine blk_alloc ?_ _)); exact BK126.out)) : gb128 ≠ gb126)); clear BK126; clear HB; have BK126 := n0_; have HB := n1_; have BK128 := n2_; have GW128 := n3_; have GE128 := n4_; have NB126_128 := n5_; have NB128_126 := n6_; clear n0_ n1_ n2_ n3_ n4_ n5_ n6_; clear hb hbox hg; have hnb35 := NB128_126.out; have hnc35 := NB126_128.out; have hcz36_0 : w34.cell? ⟨gb128, 0, none⟩ = some (.int .i64 0) := (blk_cell BK128.out 0).trans rfl; have hcz36_1 : w34.cell? ⟨gb128, 1, none⟩ = some (.int .i64 0) := (blk_cell BK128.out 1).trans rfl; have hfz36_0 := blk_frozen BK128.out 0; have hfz36_1 := blk_frozen BK128.out 1))
                      have n0_ : Aside0 (((w34.setCell ⟨gb128, 0, none⟩ (.int .i64 ((rd_T27 l0 x6_1).f0))).setCell ⟨gb128, 1, none⟩ (.int .i64 ((rd_T27 l0 x6_1).f1))).heap[gb126]? = some (.cells #[.int .i64 x127000_1] 25 (0, 0))) := ⟨by (with_reducible repeat (first | refine blk_drewN ?_ _ | refine blk_drew ?_ | refine blk_alloc ?_ _)); refine blk_far ?_ NB126_128.out _; (with_reducible repeat (first | refine blk_drewN ?_ _ | refine blk_drew ?_ | refine blk_alloc ?_ _)); refine blk_far ?_ NB126_128.out _; (with_reducible repeat (first | refine blk_drewN ?_ _ | refine blk_drew ?_ | refine blk_alloc ?_ _)); exact BK126.out⟩
                      have n1_ : Aside0 (((w34.setCell ⟨gb128, 0, none⟩ (.int .i64 ((rd_T27 l0 x6_1).f0))).setCell ⟨gb128, 1, none⟩ (.int .i64 ((rd_T27 l0 x6_1).f1))).heap[gb128]? = some (.cells #[.int .i64 ((rd_T27 l0 x6_1).f0), .int .i64 ((rd_T27 l0 x6_1).f1)] 27 (0, 0))) := ⟨by (with_reducible repeat (first | refine blk_drewN ?_ _ | refine blk_drew ?_ | refine blk_alloc ?_ _)); refine blk_put (cs := #[.int .i64 ((rd_T27 l0 x6_1).f0), .int .i64 0]) ?_ 1 _ rfl; (with_reducible repeat (first | refine blk_drewN ?_ _ | refine blk_drew ?_ | refine blk_alloc ?_ _)); refine blk_put (cs := #[.int .i64 0, .int .i64 0]) ?_ 0 _ rfl; (with_reducible repeat (first | refine blk_drewN ?_ _ | refine blk_drew ?_ | refine blk_alloc ?_ _)); exact BK128.out⟩
                      have n2_ : Aside0 (Below w.heap.size w ((w34.setCell ⟨gb128, 0, none⟩ (.int .i64 ((rd_T27 l0 x6_1).f0))).setCell ⟨gb128, 1, none⟩ (.int .i64 ((rd_T27 l0 x6_1).f1)))) := ⟨by repeat (first | (with_reducible first | exact HB.out | apply below_alloc | apply pw_below_drewN | apply below_drew1 | refine below_set ?_ GE126.out | refine below_set ?_ GE128.out) | exact HB.out)⟩
                      (try clear BK126)
                      (try clear BK128)
                      (try clear HB)
                      generalize ((w34.setCell ⟨gb128, 0, none⟩ (.int .i64 ((rd_T27 l0 x6_1).f0))).setCell ⟨gb128, 1, none⟩ (.int .i64 ((rd_T27 l0 x6_1).f1))) = w37 at n0_ n1_ n2_ ⊢
                      have BK126 := n0_
                      have BK128 := n1_
                      have HB := n2_
                      clear n0_ n1_ n2_
                      have n0_ := Aside0.mk (blk_drew BK126.out)
                      have n1_ := Aside0.mk (blk_drew BK128.out)
                      have n2_ := Aside0.mk (below_drew1 HB.out)
                      clear BK126
                      clear BK128
                      clear HB
                      have BK126 := n0_
                      have BK128 := n1_
                      have HB := n2_
                      clear n0_ n1_ n2_
                      refine start_ (n := 9) (S := fun w' => w'.cell? ⟨gb126, 0, none⟩ = some (.int .i64 x127000_1) ∧ w'.cell? ⟨gb128, 0, none⟩ = some (.int .i64 ((rd_T27 l0 x6_1).f0)) ∧ w'.cell? ⟨gb128, 1, none⟩ = some (.int .i64 ((rd_T27 l0 x6_1).f1))) (ds := []) #[false, false, false, false, false, false, false, false, false] (by kernel_rfl) rfl rfl ⟨(blk_cell BK126.out 0).trans rfl, (blk_cell BK128.out 0).trans rfl, (blk_cell BK128.out 1).trans rfl⟩ (fun hHeld => ?_); refine with_tabW tollbarlaw29_HoldDoes.tab12 tollbarlaw29_HoldDoes.bits12 (fun HT_ HW_ => ?_)
                      generalize w37.drew = w38 at BK126 BK128 HB hHeld ⊢
                      refine pure_ (i := 1) (N := some 34) (v := ?_) (a' := ?_) #[false, true, false, false, false, false, false, false, false] rfl rfl (any_of HT_.out (by kernel_rfl)) (fun _ _ _ h => h) (Or.inl ⟨by rfl, ?_⟩) ?_ ?_
                      rotate_left
                      · intro w'
                        go_simp
                        with_reducible rfl
                      rotate_left
                      · simp only [Act.put, List.setIfInBounds_toArray, List.set_cons_zero, List.set_cons_succ, i64_w, i32_w]
                        rfl
                      refine pure_ (i := 4) (N := some 37) (v := ?_) (a' := ?_) #[false, true, false, false, true, false, false, false, false] rfl rfl (any_of HT_.out (by kernel_rfl)) (fun _ _ _ h => h) (Or.inl ⟨by rfl, ?_⟩) ?_ ?_
                      rotate_left
                      · intro w'
                        go_simp
                        with_reducible rfl
                      rotate_left
                      · simp only [Act.put, List.setIfInBounds_toArray, List.set_cons_zero, List.set_cons_succ, i64_w, i32_w]
                        rfl
                      refine pure_ (i := 5) (N := some 38) (v := ?_) (a' := ?_) #[false, true, false, false, true, true, false, false, false] rfl rfl (any_of HT_.out (by kernel_rfl)) (fun _ _ _ h => h) (Or.inl ⟨by rfl, ?_⟩) ?_ ?_
                      rotate_left
                      · intro w'
                        go_simp
                        with_reducible rfl
                      rotate_left
                      · simp only [Act.put, List.setIfInBounds_toArray, List.set_cons_zero, List.set_cons_succ, i64_w, i32_w]
                        rfl
                      refine take_ (i := 0) (N := some 33) (v := ?_) (a' := ?_) #[true, true, false, false, true, true, false, false, false] rfl rfl (take_ofW HT_.out HW_.out (by kernel_rfl)) (fun _ _ _ h => h) (Or.inl ⟨by rfl, ?_⟩) hHeld ?_ ?_
                      rotate_left
                      · rintro w' ⟨s0, s1, s2⟩
                        go_simp
                        with_reducible rfl
                      rotate_left
                      · simp only [Act.put, List.setIfInBounds_toArray, List.set_cons_zero, List.set_cons_succ, i64_w, i32_w]
                        rfl
                      refine take_ (i := 2) (N := some 35) (v := ?_) (a' := ?_) #[true, true, true, false, true, true, false, false, false] rfl rfl (take_ofW HT_.out HW_.out (by kernel_rfl)) (fun _ _ _ h => h) (Or.inl ⟨by rfl, ?_⟩) hHeld ?_ ?_
                      rotate_left
                      · rintro w' ⟨s0, s1, s2⟩
                        go_simp
                        with_reducible rfl
                      rotate_left
                      · simp only [Act.put, List.setIfInBounds_toArray, List.set_cons_zero, List.set_cons_succ, i64_w, i32_w]
                        rfl
                      refine take_ (i := 6) (N := some 39) (v := ?_) (a' := ?_) #[true, true, true, false, true, true, true, false, false] rfl rfl (take_ofW HT_.out HW_.out (by kernel_rfl)) (fun _ _ _ h => h) (Or.inl ⟨by rfl, ?_⟩) hHeld ?_ ?_
                      rotate_left
                      · rintro w' ⟨s0, s1, s2⟩
                        go_simp
                        with_reducible rfl
                      rotate_left
                      · simp only [Act.put, List.setIfInBounds_toArray, List.set_cons_zero, List.set_cons_succ, i64_w, i32_w]
                        rfl
                      refine one_ (i := 3) (N := some 36) #[true, true, true, true, true, true, true, false, false] rfl rfl (one_of HT_.out (by kernel_rfl)) (by decide) (fun K hK => ?_)
                      refine goes_ Try.func7 (by kernel_rfl) rfl #[.agg #[.int .i64 x127000_1], .int .i64 ((rd_T27 l0 x6_1).f1)] (by rfl) rfl rfl (by (try simp only [List.map_toArray, List.map_cons, List.map_nil]); first | done | rfl | (simp only [List.length_drop, List.length_take]; rfl)) ?_
                      with_reducible refine (hold_Hold_May.calls x127000_1 ((rd_T27 l0 x6_1).f1) t129 _ A11.out).mono ?_
                      rintro e w39 ⟨rfl, hb⟩
                      refine ⟨_, rfl, ?_⟩
                      have n0_ := Aside0.mk (blk_below (g := gb126) (o := .cells #[.int .i64 x127000_1] 25 (0, 0)) (by (with_reducible repeat (first | refine blk_drewN ?_ _ | refine blk_drew ?_ | refine blk_alloc ?_ _)); exact BK126.out) hb)
                      have n1_ := Aside0.mk (blk_below (g := gb128) (o := .cells #[.int .i64 ((rd_T27 l0 x6_1).f0), .int .i64 ((rd_T27 l0 x6_1).f1)] 27 (0, 0)) (by (with_reducible repeat (first | refine blk_drewN ?_ _ | refine blk_drew ?_ | refine blk_alloc ?_ _)); exact BK128.out) hb)
                      have n2_ := Aside0.mk (below_step (by repeat (first | (with_reducible first | exact HB.out | apply below_alloc | apply pw_below_drewN | apply below_drew1 | refine below_set ?_ GE126.out | refine below_set ?_ GE128.out) | exact HB.out)) hb)
                      clear BK126
                      clear BK128
                      clear HB
                      have BK126 := n0_
                      have BK128 := n1_
                      have HB := n2_
                      clear n0_ n1_ n2_
                      (try clear hb)
                      (try clear hb2)
                      (try clear hk)
                      (try clear hi)
                      refine hK.out _ _ ⟨(blk_cell BK126.out 0).trans rfl, (blk_cell BK128.out 0).trans rfl, (blk_cell BK128.out 1).trans rfl⟩ (fun hHeld => ?_)
                      clear hK K
                      refine norm_ (a' := ?_) ?_ ?_
                      rotate_left
                      · show Act.put _ (some 36) _ = _
                        simp only [Act.put, List.setIfInBounds_toArray, List.set_cons_zero, List.set_cons_succ, i64_w, i32_w]
                        rfl
                      refine one_ (i := 7) (N := some 40) #[true, true, true, true, true, true, true, true, false] rfl rfl (one_of HT_.out (by kernel_rfl)) (by decide) (fun K hK => ?_)
                      refine goes_ Try.func8 (by kernel_rfl) rfl #[.int .i64 x5_1, .int .i64 ((rd_T27 l0 x6_1).f1)] (by rfl) rfl rfl (by (try simp only [List.map_toArray, List.map_cons, List.map_nil]); first | done | rfl | (simp only [List.length_drop, List.length_take]; rfl)) ?_
                      with_reducible refine (tollbarref29_May.calls x5_1 ((rd_T27 l0 x6_1).f1) t130 _ A12.out).mono ?_
                      rintro e w' ⟨rfl, ⟨nd, rfl⟩⟩
                      refine ⟨_, rfl, ?_⟩
                      refine hK.out _ _ ⟨(blk_cell BK126.out 0).trans rfl, (blk_cell BK128.out 0).trans rfl, (blk_cell BK128.out 1).trans rfl⟩ (fun hHeld => ?_)
                      clear hK K
                      refine norm_ (a' := ?_) ?_ ?_
                      rotate_left
                      · show Act.put _ (some 40) _ = _
                        simp only [Act.put, List.setIfInBounds_toArray, List.set_cons_zero, List.set_cons_succ, i64_w, i32_w]
                        rfl
                      refine pure_ (i := 8) (N := some 41) (v := ?_) (a' := ?_) #[true, true, true, true, true, true, true, true, true] rfl rfl (any_of HT_.out (by kernel_rfl)) (fun _ _ _ h => h) (Or.inl ⟨by rfl, ?_⟩) ?_ ?_
                      rotate_left
                      · intro w'
                        go_simp
                        with_reducible rfl
                      rotate_left
                      · simp only [Act.put, List.setIfInBounds_toArray, List.set_cons_zero, List.set_cons_succ, i64_w, i32_w]
                        rfl
                      refine done_ (done_of HT_.out (by kernel_rfl)) ?_
                      have hcz40_0 : w39.cell? ⟨gb128, 0, none⟩ = some (.int .i64 ((rd_T27 l0 x6_1).f0)) := (blk_cell BK128.out 0).trans rfl
                      have hcz40_1 : w39.cell? ⟨gb128, 1, none⟩ = some (.int .i64 ((rd_T27 l0 x6_1).f1)) := (blk_cell BK128.out 1).trans rfl
                      have hfz40_0 := blk_frozen BK128.out 0
                      have hfz40_1 := blk_frozen BK128.out 1
                      have hcz41_0 : w39.cell? ⟨gb126, 0, none⟩ = some (.int .i64 x127000_1) := (blk_cell BK126.out 0).trans rfl
                      have hfz41_0 := blk_frozen BK126.out 0
                      try go_wp2_with (first | ((with_reducible refine gate_callee (f := 9) rfl ?_); refine goesL_ (some 50) rfl rfl Try.func9 (by kernel_rfl) rfl #[.agg #[.int .i64 x127000_1], .int .i64 ((rd_T27 l0 x6_1).f1)] rfl (by (try simp only [List.map_toArray, List.map_cons, List.map_nil]); first | done | rfl | (simp only [List.length_drop, List.length_take]; rfl)) ?_; (with_reducible refine (hold_Hold_Take.calls x127000_1 ((rd_T27 l0 x6_1).f1) t131 t132 _ A15.out).mono ?_); rintro e w42 ⟨rfl, hb⟩; refine ⟨_, rfl, ?_⟩; have n0_ := Aside0.mk (blk_below (g := gb126) (o := .cells #[.int .i64 x127000_1] 25 (0, 0)) (by (with_reducible repeat (first | refine blk_drewN ?_ _ | refine blk_drew ?_ | refine blk_alloc ?_ _)); exact BK126.out) hb); have n1_ := Aside0.mk (blk_below (g := gb128) (o := .cells #[.int .i64 ((rd_T27 l0 x6_1).f0), .int .i64 ((rd_T27 l0 x6_1).f1)] 27 (0, 0)) (by (with_reducible repeat (first | refine blk_drewN ?_ _ | refine blk_drew ?_ | refine blk_alloc ?_ _)); exact BK128.out) hb); have n2_ := Aside0.mk (below_step (by repeat (first | (with_reducible first | exact HB.out | apply below_alloc | apply pw_below_drewN | apply below_drew1 | refine below_set ?_ GE126.out | refine below_set ?_ GE128.out) | exact HB.out)) hb); clear BK126; clear BK128; clear HB; have BK126 := n0_; have BK128 := n1_; have HB := n2_; clear n0_ n1_ n2_; (try clear hb); (try clear hb2); (try clear hk); (try clear hi)) | ((with_reducible refine gate_dst (N := 8) rfl ?_); refine box_event ?hg (N := 8) ?hd (cs := #[.int .i64 0]) (t := 25) ?hr ?_; (case hd => rfl); (case hg => rfl); (case hr => first | (go_simp; done) | (go_simp; rfl)); intro gb133 hg w43 hbox hb; have n0_ := Aside0.mk (blk_below (g := gb126) (o := .cells #[.int .i64 x127000_1] 25 (0, 0)) (by (with_reducible repeat (first | refine blk_drewN ?_ _ | refine blk_drew ?_ | refine blk_alloc ?_ _)); exact BK126.out) hb); have n1_ := Aside0.mk (blk_below (g := gb128) (o := .cells #[.int .i64 ((rd_T27 l0 x6_1).f0), .int .i64 ((rd_T27 l0 x6_1).f1)] 27 (0, 0)) (by (with_reducible repeat (first | refine blk_drewN ?_ _ | refine blk_drew ?_ | refine blk_alloc ?_ _)); exact BK128.out) hb); have n2_ := Aside0.mk (below_step (by repeat (first | (with_reducible first | exact HB.out | apply below_alloc | apply pw_below_drewN | apply below_drew1 | refine below_set ?_ GE126.out | refine below_set ?_ GE128.out) | exact HB.out)) hb); have n3_ := Aside0.mk (hbox); have n4_ := Aside0.mk ((by rw [hg]; exact (below_size (by repeat (first | (with_reducible first | exact HB.out | apply below_alloc | apply pw_below_drewN | apply below_drew1 | refine below_set ?_ GE126.out | refine below_set ?_ GE128.out) | exact HB.out))) : w.heap.size ≤ gb133)); have n5_ := Aside0.mk ((by rw [hg]; exact (below_size (by repeat (first | (with_reducible first | exact HB.out | apply below_alloc | apply pw_below_drewN | apply below_drew1 | refine below_set ?_ GE126.out | refine below_set ?_ GE128.out) | exact HB.out))) : w.heap.size ≤ gb133)); have n6_ := Aside0.mk ((by rw [hg]; exact Nat.ne_of_lt (blk_lt (g := gb126) (o := .cells #[.int .i64 x127000_1] 25 (0, 0)) (by (with_reducible repeat (first | refine blk_drewN ?_ _ | refine blk_drew ?_ | refine blk_alloc ?_ _)); exact BK126.out)) : gb126 ≠ gb133)); have n7_ := Aside0.mk ((by rw [hg]; exact Nat.ne_of_gt (blk_lt (g := gb126) (o := .cells #[.int .i64 x127000_1] 25 (0, 0)) (by (with_reducible repeat (first | refine blk_drewN ?_ _ | refine blk_drew ?_ | refine blk_alloc ?_ _)); exact BK126.out)) : gb133 ≠ gb126)); have n8_ := Aside0.mk ((by rw [hg]; exact Nat.ne_of_lt (blk_lt (g := gb128) (o := .cells #[.int .i64 ((rd_T27 l0 x6_1).f0), .int .i64 ((rd_T27 l0 x6_1).f1)] 27 (0, 0)) (by (with_reducible repeat (first | refine blk_drewN ?_ _ | refine blk_drew ?_ | refine blk_alloc ?_ _)); exact BK128.out)) : gb128 ≠ gb133)); have n9_ := Aside0.mk ((by rw [hg]; exact Nat.ne_of_gt (blk_lt (g := gb128) (o := .cells #[.int .i64 ((rd_T27 l0 x6_1).f0), .int .i64 ((rd_T27 l0 x6_1).f1)] 27 (0, 0)) (by (with_reducible repeat (first | refine blk_drewN ?_ _ | refine blk_drew ?_ | refine blk_alloc ?_ _)); exact BK128.out)) : gb133 ≠ gb128)); clear BK126; clear BK128; clear HB; have BK126 := n0_; have BK128 := n1_; have HB := n2_; have BK133 := n3_; have GW133 := n4_; have GE133 := n5_; have NB126_133 := n6_; have NB133_126 := n7_; have NB128_133 := n8_; have NB133_128 := n9_; clear n0_ n1_ n2_ n3_ n4_ n5_ n6_ n7_ n8_ n9_; clear hb hbox hg; have hnb44 := NB133_126.out; have hnc44 := NB126_133.out; have hnb45 := NB133_128.out; have hnc45 := NB128_133.out; have hcz46_0 : w43.cell? ⟨gb133, 0, none⟩ = some (.int .i64 0) := (blk_cell BK133.out 0).trans rfl; have hfz46_0 := blk_frozen BK133.out 0; have hcz47_0 : w43.cell? ⟨gb128, 0, none⟩ = some (.int .i64 ((rd_T27 l0 x6_1).f0)) := (blk_cell BK128.out 0).trans rfl; have hcz47_1 : w43.cell? ⟨gb128, 1, none⟩ = some (.int .i64 ((rd_T27 l0 x6_1).f1)) := (blk_cell BK128.out 1).trans rfl; have hfz47_0 := blk_frozen BK128.out 0; have hfz47_1 := blk_frozen BK128.out 1) | ((with_reducible refine gate_callee (f := 10) rfl ?_); refine goesL_ (some 57) rfl rfl Try.func10 (by kernel_rfl) rfl #[.int .i64 x5_1, .int .i64 ((rd_T27 l0 x6_1).f1)] rfl (by (try simp only [List.map_toArray, List.map_cons, List.map_nil]); first | done | rfl | (simp only [List.length_drop, List.length_take]; rfl)) ?_; (with_reducible refine (tollbarref29_Take.calls x5_1 ((rd_T27 l0 x6_1).f1) t134 t135 _ A16.out).mono ?_); rintro e w' ⟨rfl, ⟨nd, rfl⟩⟩; refine ⟨_, rfl, ?_⟩; have hcz48_0 : w43.cell? ⟨gb126, 0, none⟩ = some (.int .i64 x127000_1) := (blk_cell BK126.out 0).trans rfl; have hfz48_0 := blk_frozen BK126.out 0))
                      go_ret
                      exact ⟨by first | rfl | (simp [errW_none, errW_some] <;> rfl) | (simp [*, errW_none, errW_some] <;> rfl), by repeat (first | (with_reducible first | exact HB.out | apply below_alloc | apply pw_below_drewN | apply below_drew1 | refine below_set ?_ GE126.out | refine below_set ?_ GE128.out | refine below_set ?_ GE133.out) | exact HB.out)⟩
                  · rw [if_neg c17] at H
                    have c17b0 : (t132 == t135) = false := beq_eq_false_iff_ne.mpr c17
                    have c17b1 : (t132 != t135) = true := bne_iff_ne.mpr c17
                    obtain rfl := Option.some.inj H
                    have p127 : 0 ≤ (x6_1 : Int) := of_decide_eq_true (by first | (with_reducible assumption) | assumption)
                    have q127 : x6_1 < (l0.length : Int) := of_decide_eq_true (by first | (with_reducible assumption) | assumption)
                    obtain ⟨ad127, e127, hx127_0, hx127_1⟩ := at_T27 HR0.out x6_1 p127 q127
                    cases e127
                    replace hx127_0 := (HB.out.cell (World.block_lt_of_cell? w _ hx127_0)).trans hx127_0
                    replace hx127_1 := (HB.out.cell (World.block_lt_of_cell? w _ hx127_1)).trans hx127_1
                    replace p127 := eq_true p127
                    replace q127 := eq_true q127
                    try go_wp2_with (first | ((with_reducible refine gate_dst (N := 7) rfl ?_); refine box_event ?hg (N := 7) ?hd (cs := #[.int .i64 0, .int .i64 0]) (t := 27) ?hr ?_; (case hd => rfl); (case hg => rfl); (case hr => first | (go_simp; done) | (go_simp; rfl)); intro gb128 hg w49 hbox hb; have n0_ := Aside0.mk (blk_below (g := gb126) (o := .cells #[.int .i64 x127000_1] 25 (0, 0)) (by (with_reducible repeat (first | refine blk_drewN ?_ _ | refine blk_drew ?_ | refine blk_alloc ?_ _)); exact BK126.out) hb); have n1_ := Aside0.mk (below_step (by repeat (first | (with_reducible first | exact HB.out | apply below_alloc | apply pw_below_drewN | apply below_drew1 | refine below_set ?_ GE126.out) | exact HB.out)) hb); have n2_ := Aside0.mk (hbox); have n3_ := Aside0.mk ((by rw [hg]; exact (below_size (by repeat (first | (with_reducible first | exact HB.out | apply below_alloc | apply pw_below_drewN | apply below_drew1 | refine below_set ?_ GE126.out) | exact HB.out))) : w.heap.size ≤ gb128)); have n4_ := Aside0.mk ((by rw [hg]; exact (below_size (by repeat (first | (with_reducible first | exact HB.out | apply below_alloc | apply pw_below_drewN | apply below_drew1 | refine below_set ?_ GE126.out) | exact HB.out))) : w.heap.size ≤ gb128)); have n5_ := Aside0.mk ((by rw [hg]; exact Nat.ne_of_lt (blk_lt (g := gb126) (o := .cells #[.int .i64 x127000_1] 25 (0, 0)) (by (with_reducible repeat (first | refine blk_drewN ?_ _ | refine blk_drew ?_ | refine blk_alloc ?_ _)); exact BK126.out)) : gb126 ≠ gb128)); have n6_ := Aside0.mk ((by rw [hg]; exact Nat.ne_of_gt (blk_lt (g := gb126) (o := .cells #[.int .i64 x127000_1] 25 (0, 0)) (by (with_reducible repeat (first | refine blk_drewN ?_ _ | refine blk_drew ?_ | refine blk_alloc ?_ _)); exact BK126.out)) : gb128 ≠ gb126)); clear BK126; clear HB; have BK126 := n0_; have HB := n1_; have BK128 := n2_; have GW128 := n3_; have GE128 := n4_; have NB126_128 := n5_; have NB128_126 := n6_; clear n0_ n1_ n2_ n3_ n4_ n5_ n6_; clear hb hbox hg; have hnb50 := NB128_126.out; have hnc50 := NB126_128.out; have hcz51_0 : w49.cell? ⟨gb128, 0, none⟩ = some (.int .i64 0) := (blk_cell BK128.out 0).trans rfl; have hcz51_1 : w49.cell? ⟨gb128, 1, none⟩ = some (.int .i64 0) := (blk_cell BK128.out 1).trans rfl; have hfz51_0 := blk_frozen BK128.out 0; have hfz51_1 := blk_frozen BK128.out 1))
                    have n0_ : Aside0 (((w49.setCell ⟨gb128, 0, none⟩ (.int .i64 ((rd_T27 l0 x6_1).f0))).setCell ⟨gb128, 1, none⟩ (.int .i64 ((rd_T27 l0 x6_1).f1))).heap[gb126]? = some (.cells #[.int .i64 x127000_1] 25 (0, 0))) := ⟨by (with_reducible repeat (first | refine blk_drewN ?_ _ | refine blk_drew ?_ | refine blk_alloc ?_ _)); refine blk_far ?_ NB126_128.out _; (with_reducible repeat (first | refine blk_drewN ?_ _ | refine blk_drew ?_ | refine blk_alloc ?_ _)); refine blk_far ?_ NB126_128.out _; (with_reducible repeat (first | refine blk_drewN ?_ _ | refine blk_drew ?_ | refine blk_alloc ?_ _)); exact BK126.out⟩
                    have n1_ : Aside0 (((w49.setCell ⟨gb128, 0, none⟩ (.int .i64 ((rd_T27 l0 x6_1).f0))).setCell ⟨gb128, 1, none⟩ (.int .i64 ((rd_T27 l0 x6_1).f1))).heap[gb128]? = some (.cells #[.int .i64 ((rd_T27 l0 x6_1).f0), .int .i64 ((rd_T27 l0 x6_1).f1)] 27 (0, 0))) := ⟨by (with_reducible repeat (first | refine blk_drewN ?_ _ | refine blk_drew ?_ | refine blk_alloc ?_ _)); refine blk_put (cs := #[.int .i64 ((rd_T27 l0 x6_1).f0), .int .i64 0]) ?_ 1 _ rfl; (with_reducible repeat (first | refine blk_drewN ?_ _ | refine blk_drew ?_ | refine blk_alloc ?_ _)); refine blk_put (cs := #[.int .i64 0, .int .i64 0]) ?_ 0 _ rfl; (with_reducible repeat (first | refine blk_drewN ?_ _ | refine blk_drew ?_ | refine blk_alloc ?_ _)); exact BK128.out⟩
                    have n2_ : Aside0 (Below w.heap.size w ((w49.setCell ⟨gb128, 0, none⟩ (.int .i64 ((rd_T27 l0 x6_1).f0))).setCell ⟨gb128, 1, none⟩ (.int .i64 ((rd_T27 l0 x6_1).f1)))) := ⟨by repeat (first | (with_reducible first | exact HB.out | apply below_alloc | apply pw_below_drewN | apply below_drew1 | refine below_set ?_ GE126.out | refine below_set ?_ GE128.out) | exact HB.out)⟩
                    (try clear BK126)
                    (try clear BK128)
                    (try clear HB)
                    generalize ((w49.setCell ⟨gb128, 0, none⟩ (.int .i64 ((rd_T27 l0 x6_1).f0))).setCell ⟨gb128, 1, none⟩ (.int .i64 ((rd_T27 l0 x6_1).f1))) = w52 at n0_ n1_ n2_ ⊢
                    have BK126 := n0_
                    have BK128 := n1_
                    have HB := n2_
                    clear n0_ n1_ n2_
                    have n0_ := Aside0.mk (blk_drew BK126.out)
                    have n1_ := Aside0.mk (blk_drew BK128.out)
                    have n2_ := Aside0.mk (below_drew1 HB.out)
                    clear BK126
                    clear BK128
                    clear HB
                    have BK126 := n0_
                    have BK128 := n1_
                    have HB := n2_
                    clear n0_ n1_ n2_
                    refine start_ (n := 9) (S := fun w' => w'.cell? ⟨gb126, 0, none⟩ = some (.int .i64 x127000_1) ∧ w'.cell? ⟨gb128, 0, none⟩ = some (.int .i64 ((rd_T27 l0 x6_1).f0)) ∧ w'.cell? ⟨gb128, 1, none⟩ = some (.int .i64 ((rd_T27 l0 x6_1).f1))) (ds := []) #[false, false, false, false, false, false, false, false, false] (by kernel_rfl) rfl rfl ⟨(blk_cell BK126.out 0).trans rfl, (blk_cell BK128.out 0).trans rfl, (blk_cell BK128.out 1).trans rfl⟩ (fun hHeld => ?_); refine with_tabW tollbarlaw29_HoldDoes.tab12 tollbarlaw29_HoldDoes.bits12 (fun HT_ HW_ => ?_)
                    generalize w52.drew = w53 at BK126 BK128 HB hHeld ⊢
                    refine pure_ (i := 1) (N := some 34) (v := ?_) (a' := ?_) #[false, true, false, false, false, false, false, false, false] rfl rfl (any_of HT_.out (by kernel_rfl)) (fun _ _ _ h => h) (Or.inl ⟨by rfl, ?_⟩) ?_ ?_
                    rotate_left
                    · intro w'
                      go_simp
                      with_reducible rfl
                    rotate_left
                    · simp only [Act.put, List.setIfInBounds_toArray, List.set_cons_zero, List.set_cons_succ, i64_w, i32_w]
                      rfl
                    refine pure_ (i := 4) (N := some 37) (v := ?_) (a' := ?_) #[false, true, false, false, true, false, false, false, false] rfl rfl (any_of HT_.out (by kernel_rfl)) (fun _ _ _ h => h) (Or.inl ⟨by rfl, ?_⟩) ?_ ?_
                    rotate_left
                    · intro w'
                      go_simp
                      with_reducible rfl
                    rotate_left
                    · simp only [Act.put, List.setIfInBounds_toArray, List.set_cons_zero, List.set_cons_succ, i64_w, i32_w]
                      rfl
                    refine pure_ (i := 5) (N := some 38) (v := ?_) (a' := ?_) #[false, true, false, false, true, true, false, false, false] rfl rfl (any_of HT_.out (by kernel_rfl)) (fun _ _ _ h => h) (Or.inl ⟨by rfl, ?_⟩) ?_ ?_
                    rotate_left
                    · intro w'
                      go_simp
                      with_reducible rfl
                    rotate_left
                    · simp only [Act.put, List.setIfInBounds_toArray, List.set_cons_zero, List.set_cons_succ, i64_w, i32_w]
                      rfl
                    refine take_ (i := 0) (N := some 33) (v := ?_) (a' := ?_) #[true, true, false, false, true, true, false, false, false] rfl rfl (take_ofW HT_.out HW_.out (by kernel_rfl)) (fun _ _ _ h => h) (Or.inl ⟨by rfl, ?_⟩) hHeld ?_ ?_
                    rotate_left
                    · rintro w' ⟨s0, s1, s2⟩
                      go_simp
                      with_reducible rfl
                    rotate_left
                    · simp only [Act.put, List.setIfInBounds_toArray, List.set_cons_zero, List.set_cons_succ, i64_w, i32_w]
                      rfl
                    refine take_ (i := 2) (N := some 35) (v := ?_) (a' := ?_) #[true, true, true, false, true, true, false, false, false] rfl rfl (take_ofW HT_.out HW_.out (by kernel_rfl)) (fun _ _ _ h => h) (Or.inl ⟨by rfl, ?_⟩) hHeld ?_ ?_
                    rotate_left
                    · rintro w' ⟨s0, s1, s2⟩
                      go_simp
                      with_reducible rfl
                    rotate_left
                    · simp only [Act.put, List.setIfInBounds_toArray, List.set_cons_zero, List.set_cons_succ, i64_w, i32_w]
                      rfl
                    refine take_ (i := 6) (N := some 39) (v := ?_) (a' := ?_) #[true, true, true, false, true, true, true, false, false] rfl rfl (take_ofW HT_.out HW_.out (by kernel_rfl)) (fun _ _ _ h => h) (Or.inl ⟨by rfl, ?_⟩) hHeld ?_ ?_
                    rotate_left
                    · rintro w' ⟨s0, s1, s2⟩
                      go_simp
                      with_reducible rfl
                    rotate_left
                    · simp only [Act.put, List.setIfInBounds_toArray, List.set_cons_zero, List.set_cons_succ, i64_w, i32_w]
                      rfl
                    refine one_ (i := 3) (N := some 36) #[true, true, true, true, true, true, true, false, false] rfl rfl (one_of HT_.out (by kernel_rfl)) (by decide) (fun K hK => ?_)
                    refine goes_ Try.func7 (by kernel_rfl) rfl #[.agg #[.int .i64 x127000_1], .int .i64 ((rd_T27 l0 x6_1).f1)] (by rfl) rfl rfl (by (try simp only [List.map_toArray, List.map_cons, List.map_nil]); first | done | rfl | (simp only [List.length_drop, List.length_take]; rfl)) ?_
                    with_reducible refine (hold_Hold_May.calls x127000_1 ((rd_T27 l0 x6_1).f1) t129 _ A11.out).mono ?_
                    rintro e w54 ⟨rfl, hb⟩
                    refine ⟨_, rfl, ?_⟩
                    have n0_ := Aside0.mk (blk_below (g := gb126) (o := .cells #[.int .i64 x127000_1] 25 (0, 0)) (by (with_reducible repeat (first | refine blk_drewN ?_ _ | refine blk_drew ?_ | refine blk_alloc ?_ _)); exact BK126.out) hb)
                    have n1_ := Aside0.mk (blk_below (g := gb128) (o := .cells #[.int .i64 ((rd_T27 l0 x6_1).f0), .int .i64 ((rd_T27 l0 x6_1).f1)] 27 (0, 0)) (by (with_reducible repeat (first | refine blk_drewN ?_ _ | refine blk_drew ?_ | refine blk_alloc ?_ _)); exact BK128.out) hb)
                    have n2_ := Aside0.mk (below_step (by repeat (first | (with_reducible first | exact HB.out | apply below_alloc | apply pw_below_drewN | apply below_drew1 | refine below_set ?_ GE126.out | refine below_set ?_ GE128.out) | exact HB.out)) hb)
                    clear BK126
                    clear BK128
                    clear HB
                    have BK126 := n0_
                    have BK128 := n1_
                    have HB := n2_
                    clear n0_ n1_ n2_
                    (try clear hb)
                    (try clear hb2)
                    (try clear hk)
                    (try clear hi)
                    refine hK.out _ _ ⟨(blk_cell BK126.out 0).trans rfl, (blk_cell BK128.out 0).trans rfl, (blk_cell BK128.out 1).trans rfl⟩ (fun hHeld => ?_)
                    clear hK K
                    refine norm_ (a' := ?_) ?_ ?_
                    rotate_left
                    · show Act.put _ (some 36) _ = _
                      simp only [Act.put, List.setIfInBounds_toArray, List.set_cons_zero, List.set_cons_succ, i64_w, i32_w]
                      rfl
                    refine one_ (i := 7) (N := some 40) #[true, true, true, true, true, true, true, true, false] rfl rfl (one_of HT_.out (by kernel_rfl)) (by decide) (fun K hK => ?_)
                    refine goes_ Try.func8 (by kernel_rfl) rfl #[.int .i64 x5_1, .int .i64 ((rd_T27 l0 x6_1).f1)] (by rfl) rfl rfl (by (try simp only [List.map_toArray, List.map_cons, List.map_nil]); first | done | rfl | (simp only [List.length_drop, List.length_take]; rfl)) ?_
                    with_reducible refine (tollbarref29_May.calls x5_1 ((rd_T27 l0 x6_1).f1) t130 _ A12.out).mono ?_
                    rintro e w' ⟨rfl, ⟨nd, rfl⟩⟩
                    refine ⟨_, rfl, ?_⟩
                    refine hK.out _ _ ⟨(blk_cell BK126.out 0).trans rfl, (blk_cell BK128.out 0).trans rfl, (blk_cell BK128.out 1).trans rfl⟩ (fun hHeld => ?_)
                    clear hK K
                    refine norm_ (a' := ?_) ?_ ?_
                    rotate_left
                    · show Act.put _ (some 40) _ = _
                      simp only [Act.put, List.setIfInBounds_toArray, List.set_cons_zero, List.set_cons_succ, i64_w, i32_w]
                      rfl
                    refine pure_ (i := 8) (N := some 41) (v := ?_) (a' := ?_) #[true, true, true, true, true, true, true, true, true] rfl rfl (any_of HT_.out (by kernel_rfl)) (fun _ _ _ h => h) (Or.inl ⟨by rfl, ?_⟩) ?_ ?_
                    rotate_left
                    · intro w'
                      go_simp
                      with_reducible rfl
                    rotate_left
                    · simp only [Act.put, List.setIfInBounds_toArray, List.set_cons_zero, List.set_cons_succ, i64_w, i32_w]
                      rfl
                    refine done_ (done_of HT_.out (by kernel_rfl)) ?_
                    have hcz55_0 : w54.cell? ⟨gb128, 0, none⟩ = some (.int .i64 ((rd_T27 l0 x6_1).f0)) := (blk_cell BK128.out 0).trans rfl
                    have hcz55_1 : w54.cell? ⟨gb128, 1, none⟩ = some (.int .i64 ((rd_T27 l0 x6_1).f1)) := (blk_cell BK128.out 1).trans rfl
                    have hfz55_0 := blk_frozen BK128.out 0
                    have hfz55_1 := blk_frozen BK128.out 1
                    have hcz56_0 : w54.cell? ⟨gb126, 0, none⟩ = some (.int .i64 x127000_1) := (blk_cell BK126.out 0).trans rfl
                    have hfz56_0 := blk_frozen BK126.out 0
                    try go_wp2_with (first | ((with_reducible refine gate_callee (f := 9) rfl ?_); refine goesL_ (some 50) rfl rfl Try.func9 (by kernel_rfl) rfl #[.agg #[.int .i64 x127000_1], .int .i64 ((rd_T27 l0 x6_1).f1)] rfl (by (try simp only [List.map_toArray, List.map_cons, List.map_nil]); first | done | rfl | (simp only [List.length_drop, List.length_take]; rfl)) ?_; (with_reducible refine (hold_Hold_Take.calls x127000_1 ((rd_T27 l0 x6_1).f1) t131 t132 _ A15.out).mono ?_); rintro e w57 ⟨rfl, hb⟩; refine ⟨_, rfl, ?_⟩; have n0_ := Aside0.mk (blk_below (g := gb126) (o := .cells #[.int .i64 x127000_1] 25 (0, 0)) (by (with_reducible repeat (first | refine blk_drewN ?_ _ | refine blk_drew ?_ | refine blk_alloc ?_ _)); exact BK126.out) hb); have n1_ := Aside0.mk (blk_below (g := gb128) (o := .cells #[.int .i64 ((rd_T27 l0 x6_1).f0), .int .i64 ((rd_T27 l0 x6_1).f1)] 27 (0, 0)) (by (with_reducible repeat (first | refine blk_drewN ?_ _ | refine blk_drew ?_ | refine blk_alloc ?_ _)); exact BK128.out) hb); have n2_ := Aside0.mk (below_step (by repeat (first | (with_reducible first | exact HB.out | apply below_alloc | apply pw_below_drewN | apply below_drew1 | refine below_set ?_ GE126.out | refine below_set ?_ GE128.out) | exact HB.out)) hb); clear BK126; clear BK128; clear HB; have BK126 := n0_; have BK128 := n1_; have HB := n2_; clear n0_ n1_ n2_; (try clear hb); (try clear hb2); (try clear hk); (try clear hi)) | ((with_reducible refine gate_dst (N := 8) rfl ?_); refine box_event ?hg (N := 8) ?hd (cs := #[.int .i64 0]) (t := 25) ?hr ?_; (case hd => rfl); (case hg => rfl); (case hr => first | (go_simp; done) | (go_simp; rfl)); intro gb133 hg w58 hbox hb; have n0_ := Aside0.mk (blk_below (g := gb126) (o := .cells #[.int .i64 x127000_1] 25 (0, 0)) (by (with_reducible repeat (first | refine blk_drewN ?_ _ | refine blk_drew ?_ | refine blk_alloc ?_ _)); exact BK126.out) hb); have n1_ := Aside0.mk (blk_below (g := gb128) (o := .cells #[.int .i64 ((rd_T27 l0 x6_1).f0), .int .i64 ((rd_T27 l0 x6_1).f1)] 27 (0, 0)) (by (with_reducible repeat (first | refine blk_drewN ?_ _ | refine blk_drew ?_ | refine blk_alloc ?_ _)); exact BK128.out) hb); have n2_ := Aside0.mk (below_step (by repeat (first | (with_reducible first | exact HB.out | apply below_alloc | apply pw_below_drewN | apply below_drew1 | refine below_set ?_ GE126.out | refine below_set ?_ GE128.out) | exact HB.out)) hb); have n3_ := Aside0.mk (hbox); have n4_ := Aside0.mk ((by rw [hg]; exact (below_size (by repeat (first | (with_reducible first | exact HB.out | apply below_alloc | apply pw_below_drewN | apply below_drew1 | refine below_set ?_ GE126.out | refine below_set ?_ GE128.out) | exact HB.out))) : w.heap.size ≤ gb133)); have n5_ := Aside0.mk ((by rw [hg]; exact (below_size (by repeat (first | (with_reducible first | exact HB.out | apply below_alloc | apply pw_below_drewN | apply below_drew1 | refine below_set ?_ GE126.out | refine below_set ?_ GE128.out) | exact HB.out))) : w.heap.size ≤ gb133)); have n6_ := Aside0.mk ((by rw [hg]; exact Nat.ne_of_lt (blk_lt (g := gb126) (o := .cells #[.int .i64 x127000_1] 25 (0, 0)) (by (with_reducible repeat (first | refine blk_drewN ?_ _ | refine blk_drew ?_ | refine blk_alloc ?_ _)); exact BK126.out)) : gb126 ≠ gb133)); have n7_ := Aside0.mk ((by rw [hg]; exact Nat.ne_of_gt (blk_lt (g := gb126) (o := .cells #[.int .i64 x127000_1] 25 (0, 0)) (by (with_reducible repeat (first | refine blk_drewN ?_ _ | refine blk_drew ?_ | refine blk_alloc ?_ _)); exact BK126.out)) : gb133 ≠ gb126)); have n8_ := Aside0.mk ((by rw [hg]; exact Nat.ne_of_lt (blk_lt (g := gb128) (o := .cells #[.int .i64 ((rd_T27 l0 x6_1).f0), .int .i64 ((rd_T27 l0 x6_1).f1)] 27 (0, 0)) (by (with_reducible repeat (first | refine blk_drewN ?_ _ | refine blk_drew ?_ | refine blk_alloc ?_ _)); exact BK128.out)) : gb128 ≠ gb133)); have n9_ := Aside0.mk ((by rw [hg]; exact Nat.ne_of_gt (blk_lt (g := gb128) (o := .cells #[.int .i64 ((rd_T27 l0 x6_1).f0), .int .i64 ((rd_T27 l0 x6_1).f1)] 27 (0, 0)) (by (with_reducible repeat (first | refine blk_drewN ?_ _ | refine blk_drew ?_ | refine blk_alloc ?_ _)); exact BK128.out)) : gb133 ≠ gb128)); clear BK126; clear BK128; clear HB; have BK126 := n0_; have BK128 := n1_; have HB := n2_; have BK133 := n3_; have GW133 := n4_; have GE133 := n5_; have NB126_133 := n6_; have NB133_126 := n7_; have NB128_133 := n8_; have NB133_128 := n9_; clear n0_ n1_ n2_ n3_ n4_ n5_ n6_ n7_ n8_ n9_; clear hb hbox hg; have hnb59 := NB133_126.out; have hnc59 := NB126_133.out; have hnb60 := NB133_128.out; have hnc60 := NB128_133.out; have hcz61_0 : w58.cell? ⟨gb133, 0, none⟩ = some (.int .i64 0) := (blk_cell BK133.out 0).trans rfl; have hfz61_0 := blk_frozen BK133.out 0; have hcz62_0 : w58.cell? ⟨gb128, 0, none⟩ = some (.int .i64 ((rd_T27 l0 x6_1).f0)) := (blk_cell BK128.out 0).trans rfl; have hcz62_1 : w58.cell? ⟨gb128, 1, none⟩ = some (.int .i64 ((rd_T27 l0 x6_1).f1)) := (blk_cell BK128.out 1).trans rfl; have hfz62_0 := blk_frozen BK128.out 0; have hfz62_1 := blk_frozen BK128.out 1) | ((with_reducible refine gate_callee (f := 10) rfl ?_); refine goesL_ (some 57) rfl rfl Try.func10 (by kernel_rfl) rfl #[.int .i64 x5_1, .int .i64 ((rd_T27 l0 x6_1).f1)] rfl (by (try simp only [List.map_toArray, List.map_cons, List.map_nil]); first | done | rfl | (simp only [List.length_drop, List.length_take]; rfl)) ?_; (with_reducible refine (tollbarref29_Take.calls x5_1 ((rd_T27 l0 x6_1).f1) t134 t135 _ A16.out).mono ?_); rintro e w' ⟨rfl, ⟨nd, rfl⟩⟩; refine ⟨_, rfl, ?_⟩))
                    go_ret
                    exact ⟨by first | rfl | (simp [errW_none, errW_some] <;> rfl) | (simp [*, errW_none, errW_some] <;> rfl), by repeat (first | (with_reducible first | exact HB.out | apply below_alloc | apply pw_below_drewN | apply below_drew1 | refine below_set ?_ GE126.out | refine below_set ?_ GE128.out | refine below_set ?_ GE133.out) | exact HB.out)⟩
                · rw [if_neg c14] at H
                  have c14b0 : (((rd_T27 l0 x6_1).f0) == 0) = false := beq_eq_false_iff_ne.mpr c14
                  have c14b1 : (((rd_T27 l0 x6_1).f0) != 0) = true := bne_iff_ne.mpr c14
                  by_cases c63 : ((rd_T27 l0 x6_1).f0) = 1
                  · rw [if_pos c63] at H
                    have c63b0 : (((rd_T27 l0 x6_1).f0) == 1) = true := beq_iff_eq.mpr c63
                    have c63b1 : (((rd_T27 l0 x6_1).f0) != 1) = false := bne_eq_false_iff_eq.mpr c63
                    clear c63
                    replace H := Option.bind_eq_some_iff.mp H
                    obtain ⟨⟨t136, t137⟩, A640, H⟩ := H
                    replace H : ((tollbarref29_Give.f k1 x5_1 ((rd_T27 l0 x6_1).f1)).bind fun bt139 => (if t137 = bt139.2 then (if t136 = bt139.1 then (tollbarlaw29_HoldDoes.l0 k1 l0 bt139.1 (wrap64 (x6_1 + 1)) t136) else (some false)) else (some false))) = some r := H
                    have A64 := Aside0.mk A640
                    clear A640
                    replace H := Option.bind_eq_some_iff.mp H
                    obtain ⟨⟨t139, t140⟩, A650, H⟩ := H
                    replace H : (if t137 = t140 then (if t136 = t139 then (tollbarlaw29_HoldDoes.l0 k1 l0 t139 (wrap64 (x6_1 + 1)) t136) else (some false)) else (some false)) = some r := H
                    have A65 := Aside0.mk A650
                    clear A650
                    by_cases c66 : t137 = t140
                    · rw [if_pos c66] at H
                      have c66b0 : (t137 == t140) = true := beq_iff_eq.mpr c66
                      have c66b1 : (t137 != t140) = false := bne_eq_false_iff_eq.mpr c66
                      clear c66
                      by_cases c67 : t136 = t139
                      · rw [if_pos c67] at H
                        have c67b0 : (t136 == t139) = true := beq_iff_eq.mpr c67
                        have c67b1 : (t136 != t139) = false := bne_eq_false_iff_eq.mpr c67
                        clear c67
                        have H' := Aside0.mk H
                        clear H
                        have p127 : 0 ≤ (x6_1 : Int) := of_decide_eq_true (by first | (with_reducible assumption) | assumption)
                        have q127 : x6_1 < (l0.length : Int) := of_decide_eq_true (by first | (with_reducible assumption) | assumption)
                        obtain ⟨ad127, e127, hx127_0, hx127_1⟩ := at_T27 HR0.out x6_1 p127 q127
                        cases e127
                        replace hx127_0 := (HB.out.cell (World.block_lt_of_cell? w _ hx127_0)).trans hx127_0
                        replace hx127_1 := (HB.out.cell (World.block_lt_of_cell? w _ hx127_1)).trans hx127_1
                        replace p127 := eq_true p127
                        replace q127 := eq_true q127
                        try go_wp2_with (first | ((with_reducible refine gate_dst (N := 7) rfl ?_); refine box_event ?hg (N := 7) ?hd (cs := #[.int .i64 0, .int .i64 0]) (t := 27) ?hr ?_; (case hd => rfl); (case hg => rfl); (case hr => first | (go_simp; done) | (go_simp; rfl)); intro gb128 hg w68 hbox hb; have n0_ := Aside0.mk (blk_below (g := gb126) (o := .cells #[.int .i64 x127000_1] 25 (0, 0)) (by (with_reducible repeat (first | refine blk_drewN ?_ _ | refine blk_drew ?_ | refine blk_alloc ?_ _)); exact BK126.out) hb); have n1_ := Aside0.mk (below_step (by repeat (first | (with_reducible first | exact HB.out | apply below_alloc | apply pw_below_drewN | apply below_drew1 | refine below_set ?_ GE126.out) | exact HB.out)) hb); have n2_ := Aside0.mk (hbox); have n3_ := Aside0.mk ((by rw [hg]; exact (below_size (by repeat (first | (with_reducible first | exact HB.out | apply below_alloc | apply pw_below_drewN | apply below_drew1 | refine below_set ?_ GE126.out) | exact HB.out))) : w.heap.size ≤ gb128)); have n4_ := Aside0.mk ((by rw [hg]; exact (below_size (by repeat (first | (with_reducible first | exact HB.out | apply below_alloc | apply pw_below_drewN | apply below_drew1 | refine below_set ?_ GE126.out) | exact HB.out))) : w.heap.size ≤ gb128)); have n5_ := Aside0.mk ((by rw [hg]; exact Nat.ne_of_lt (blk_lt (g := gb126) (o := .cells #[.int .i64 x127000_1] 25 (0, 0)) (by (with_reducible repeat (first | refine blk_drewN ?_ _ | refine blk_drew ?_ | refine blk_alloc ?_ _)); exact BK126.out)) : gb126 ≠ gb128)); have n6_ := Aside0.mk ((by rw [hg]; exact Nat.ne_of_gt (blk_lt (g := gb126) (o := .cells #[.int .i64 x127000_1] 25 (0, 0)) (by (with_reducible repeat (first | refine blk_drewN ?_ _ | refine blk_drew ?_ | refine blk_alloc ?_ _)); exact BK126.out)) : gb128 ≠ gb126)); clear BK126; clear HB; have BK126 := n0_; have HB := n1_; have BK128 := n2_; have GW128 := n3_; have GE128 := n4_; have NB126_128 := n5_; have NB128_126 := n6_; clear n0_ n1_ n2_ n3_ n4_ n5_ n6_; clear hb hbox hg; have hnb69 := NB128_126.out; have hnc69 := NB126_128.out; have hcz70_0 : w68.cell? ⟨gb128, 0, none⟩ = some (.int .i64 0) := (blk_cell BK128.out 0).trans rfl; have hcz70_1 : w68.cell? ⟨gb128, 1, none⟩ = some (.int .i64 0) := (blk_cell BK128.out 1).trans rfl; have hfz70_0 := blk_frozen BK128.out 0; have hfz70_1 := blk_frozen BK128.out 1))
                        have n0_ : Aside0 (((w68.setCell ⟨gb128, 0, none⟩ (.int .i64 ((rd_T27 l0 x6_1).f0))).setCell ⟨gb128, 1, none⟩ (.int .i64 ((rd_T27 l0 x6_1).f1))).heap[gb126]? = some (.cells #[.int .i64 x127000_1] 25 (0, 0))) := ⟨by (with_reducible repeat (first | refine blk_drewN ?_ _ | refine blk_drew ?_ | refine blk_alloc ?_ _)); refine blk_far ?_ NB126_128.out _; (with_reducible repeat (first | refine blk_drewN ?_ _ | refine blk_drew ?_ | refine blk_alloc ?_ _)); refine blk_far ?_ NB126_128.out _; (with_reducible repeat (first | refine blk_drewN ?_ _ | refine blk_drew ?_ | refine blk_alloc ?_ _)); exact BK126.out⟩
                        have n1_ : Aside0 (((w68.setCell ⟨gb128, 0, none⟩ (.int .i64 ((rd_T27 l0 x6_1).f0))).setCell ⟨gb128, 1, none⟩ (.int .i64 ((rd_T27 l0 x6_1).f1))).heap[gb128]? = some (.cells #[.int .i64 ((rd_T27 l0 x6_1).f0), .int .i64 ((rd_T27 l0 x6_1).f1)] 27 (0, 0))) := ⟨by (with_reducible repeat (first | refine blk_drewN ?_ _ | refine blk_drew ?_ | refine blk_alloc ?_ _)); refine blk_put (cs := #[.int .i64 ((rd_T27 l0 x6_1).f0), .int .i64 0]) ?_ 1 _ rfl; (with_reducible repeat (first | refine blk_drewN ?_ _ | refine blk_drew ?_ | refine blk_alloc ?_ _)); refine blk_put (cs := #[.int .i64 0, .int .i64 0]) ?_ 0 _ rfl; (with_reducible repeat (first | refine blk_drewN ?_ _ | refine blk_drew ?_ | refine blk_alloc ?_ _)); exact BK128.out⟩
                        have n2_ : Aside0 (Below w.heap.size w ((w68.setCell ⟨gb128, 0, none⟩ (.int .i64 ((rd_T27 l0 x6_1).f0))).setCell ⟨gb128, 1, none⟩ (.int .i64 ((rd_T27 l0 x6_1).f1)))) := ⟨by repeat (first | (with_reducible first | exact HB.out | apply below_alloc | apply pw_below_drewN | apply below_drew1 | refine below_set ?_ GE126.out | refine below_set ?_ GE128.out) | exact HB.out)⟩
                        (try clear BK126)
                        (try clear BK128)
                        (try clear HB)
                        generalize ((w68.setCell ⟨gb128, 0, none⟩ (.int .i64 ((rd_T27 l0 x6_1).f0))).setCell ⟨gb128, 1, none⟩ (.int .i64 ((rd_T27 l0 x6_1).f1))) = w71 at n0_ n1_ n2_ ⊢
                        have BK126 := n0_
                        have BK128 := n1_
                        have HB := n2_
                        clear n0_ n1_ n2_
                        have n0_ := Aside0.mk (blk_drew BK126.out)
                        have n1_ := Aside0.mk (blk_drew BK128.out)
                        have n2_ := Aside0.mk (below_drew1 HB.out)
                        clear BK126
                        clear BK128
                        clear HB
                        have BK126 := n0_
                        have BK128 := n1_
                        have HB := n2_
                        clear n0_ n1_ n2_
                        refine start_ (n := 9) (S := fun w' => w'.cell? ⟨gb126, 0, none⟩ = some (.int .i64 x127000_1) ∧ w'.cell? ⟨gb128, 0, none⟩ = some (.int .i64 ((rd_T27 l0 x6_1).f0)) ∧ w'.cell? ⟨gb128, 1, none⟩ = some (.int .i64 ((rd_T27 l0 x6_1).f1))) (ds := []) #[false, false, false, false, false, false, false, false, false] (by kernel_rfl) rfl rfl ⟨(blk_cell BK126.out 0).trans rfl, (blk_cell BK128.out 0).trans rfl, (blk_cell BK128.out 1).trans rfl⟩ (fun hHeld => ?_); refine with_tabW tollbarlaw29_HoldDoes.tab12 tollbarlaw29_HoldDoes.bits12 (fun HT_ HW_ => ?_)
                        generalize w71.drew = w72 at BK126 BK128 HB hHeld ⊢
                        refine pure_ (i := 1) (N := some 34) (v := ?_) (a' := ?_) #[false, true, false, false, false, false, false, false, false] rfl rfl (any_of HT_.out (by kernel_rfl)) (fun _ _ _ h => h) (Or.inl ⟨by rfl, ?_⟩) ?_ ?_
                        rotate_left
                        · intro w'
                          go_simp
                          with_reducible rfl
                        rotate_left
                        · simp only [Act.put, List.setIfInBounds_toArray, List.set_cons_zero, List.set_cons_succ, i64_w, i32_w]
                          rfl
                        refine pure_ (i := 4) (N := some 37) (v := ?_) (a' := ?_) #[false, true, false, false, true, false, false, false, false] rfl rfl (any_of HT_.out (by kernel_rfl)) (fun _ _ _ h => h) (Or.inl ⟨by rfl, ?_⟩) ?_ ?_
                        rotate_left
                        · intro w'
                          go_simp
                          with_reducible rfl
                        rotate_left
                        · simp only [Act.put, List.setIfInBounds_toArray, List.set_cons_zero, List.set_cons_succ, i64_w, i32_w]
                          rfl
                        refine pure_ (i := 5) (N := some 38) (v := ?_) (a' := ?_) #[false, true, false, false, true, true, false, false, false] rfl rfl (any_of HT_.out (by kernel_rfl)) (fun _ _ _ h => h) (Or.inl ⟨by rfl, ?_⟩) ?_ ?_
                        rotate_left
                        · intro w'
                          go_simp
                          with_reducible rfl
                        rotate_left
                        · simp only [Act.put, List.setIfInBounds_toArray, List.set_cons_zero, List.set_cons_succ, i64_w, i32_w]
                          rfl
                        refine take_ (i := 0) (N := some 33) (v := ?_) (a' := ?_) #[true, true, false, false, true, true, false, false, false] rfl rfl (take_ofW HT_.out HW_.out (by kernel_rfl)) (fun _ _ _ h => h) (Or.inl ⟨by rfl, ?_⟩) hHeld ?_ ?_
                        rotate_left
                        · rintro w' ⟨s0, s1, s2⟩
                          go_simp
                          with_reducible rfl
                        rotate_left
                        · simp only [Act.put, List.setIfInBounds_toArray, List.set_cons_zero, List.set_cons_succ, i64_w, i32_w]
                          rfl
                        refine take_ (i := 2) (N := some 35) (v := ?_) (a' := ?_) #[true, true, true, false, true, true, false, false, false] rfl rfl (take_ofW HT_.out HW_.out (by kernel_rfl)) (fun _ _ _ h => h) (Or.inl ⟨by rfl, ?_⟩) hHeld ?_ ?_
                        rotate_left
                        · rintro w' ⟨s0, s1, s2⟩
                          go_simp
                          with_reducible rfl
                        rotate_left
                        · simp only [Act.put, List.setIfInBounds_toArray, List.set_cons_zero, List.set_cons_succ, i64_w, i32_w]
                          rfl
                        refine take_ (i := 6) (N := some 39) (v := ?_) (a' := ?_) #[true, true, true, false, true, true, true, false, false] rfl rfl (take_ofW HT_.out HW_.out (by kernel_rfl)) (fun _ _ _ h => h) (Or.inl ⟨by rfl, ?_⟩) hHeld ?_ ?_
                        rotate_left
                        · rintro w' ⟨s0, s1, s2⟩
                          go_simp
                          with_reducible rfl
                        rotate_left
                        · simp only [Act.put, List.setIfInBounds_toArray, List.set_cons_zero, List.set_cons_succ, i64_w, i32_w]
                          rfl
                        refine one_ (i := 3) (N := some 36) #[true, true, true, true, true, true, true, false, false] rfl rfl (one_of HT_.out (by kernel_rfl)) (by decide) (fun K hK => ?_)
                        refine goes_ Try.func7 (by kernel_rfl) rfl #[.agg #[.int .i64 x127000_1], .int .i64 ((rd_T27 l0 x6_1).f1)] (by rfl) rfl rfl (by (try simp only [List.map_toArray, List.map_cons, List.map_nil]); first | done | rfl | (simp only [List.length_drop, List.length_take]; rfl)) ?_
                        with_reducible refine (hold_Hold_May.calls x127000_1 ((rd_T27 l0 x6_1).f1) t129 _ A11.out).mono ?_
                        rintro e w73 ⟨rfl, hb⟩
                        refine ⟨_, rfl, ?_⟩
                        have n0_ := Aside0.mk (blk_below (g := gb126) (o := .cells #[.int .i64 x127000_1] 25 (0, 0)) (by (with_reducible repeat (first | refine blk_drewN ?_ _ | refine blk_drew ?_ | refine blk_alloc ?_ _)); exact BK126.out) hb)
                        have n1_ := Aside0.mk (blk_below (g := gb128) (o := .cells #[.int .i64 ((rd_T27 l0 x6_1).f0), .int .i64 ((rd_T27 l0 x6_1).f1)] 27 (0, 0)) (by (with_reducible repeat (first | refine blk_drewN ?_ _ | refine blk_drew ?_ | refine blk_alloc ?_ _)); exact BK128.out) hb)
                        have n2_ := Aside0.mk (below_step (by repeat (first | (with_reducible first | exact HB.out | apply below_alloc | apply pw_below_drewN | apply below_drew1 | refine below_set ?_ GE126.out | refine below_set ?_ GE128.out) | exact HB.out)) hb)
                        clear BK126
                        clear BK128
                        clear HB
                        have BK126 := n0_
                        have BK128 := n1_
                        have HB := n2_
                        clear n0_ n1_ n2_
                        (try clear hb)
                        (try clear hb2)
                        (try clear hk)
                        (try clear hi)
                        refine hK.out _ _ ⟨(blk_cell BK126.out 0).trans rfl, (blk_cell BK128.out 0).trans rfl, (blk_cell BK128.out 1).trans rfl⟩ (fun hHeld => ?_)
                        clear hK K
                        refine norm_ (a' := ?_) ?_ ?_
                        rotate_left
                        · show Act.put _ (some 36) _ = _
                          simp only [Act.put, List.setIfInBounds_toArray, List.set_cons_zero, List.set_cons_succ, i64_w, i32_w]
                          rfl
                        refine one_ (i := 7) (N := some 40) #[true, true, true, true, true, true, true, true, false] rfl rfl (one_of HT_.out (by kernel_rfl)) (by decide) (fun K hK => ?_)
                        refine goes_ Try.func8 (by kernel_rfl) rfl #[.int .i64 x5_1, .int .i64 ((rd_T27 l0 x6_1).f1)] (by rfl) rfl rfl (by (try simp only [List.map_toArray, List.map_cons, List.map_nil]); first | done | rfl | (simp only [List.length_drop, List.length_take]; rfl)) ?_
                        with_reducible refine (tollbarref29_May.calls x5_1 ((rd_T27 l0 x6_1).f1) t130 _ A12.out).mono ?_
                        rintro e w' ⟨rfl, ⟨nd, rfl⟩⟩
                        refine ⟨_, rfl, ?_⟩
                        refine hK.out _ _ ⟨(blk_cell BK126.out 0).trans rfl, (blk_cell BK128.out 0).trans rfl, (blk_cell BK128.out 1).trans rfl⟩ (fun hHeld => ?_)
                        clear hK K
                        refine norm_ (a' := ?_) ?_ ?_
                        rotate_left
                        · show Act.put _ (some 40) _ = _
                          simp only [Act.put, List.setIfInBounds_toArray, List.set_cons_zero, List.set_cons_succ, i64_w, i32_w]
                          rfl
                        refine pure_ (i := 8) (N := some 41) (v := ?_) (a' := ?_) #[true, true, true, true, true, true, true, true, true] rfl rfl (any_of HT_.out (by kernel_rfl)) (fun _ _ _ h => h) (Or.inl ⟨by rfl, ?_⟩) ?_ ?_
                        rotate_left
                        · intro w'
                          go_simp
                          with_reducible rfl
                        rotate_left
                        · simp only [Act.put, List.setIfInBounds_toArray, List.set_cons_zero, List.set_cons_succ, i64_w, i32_w]
                          rfl
                        refine done_ (done_of HT_.out (by kernel_rfl)) ?_
                        have hcz74_0 : w73.cell? ⟨gb128, 0, none⟩ = some (.int .i64 ((rd_T27 l0 x6_1).f0)) := (blk_cell BK128.out 0).trans rfl
                        have hcz74_1 : w73.cell? ⟨gb128, 1, none⟩ = some (.int .i64 ((rd_T27 l0 x6_1).f1)) := (blk_cell BK128.out 1).trans rfl
                        have hfz74_0 := blk_frozen BK128.out 0
                        have hfz74_1 := blk_frozen BK128.out 1
                        have hcz75_0 : w73.cell? ⟨gb126, 0, none⟩ = some (.int .i64 x127000_1) := (blk_cell BK126.out 0).trans rfl
                        have hfz75_0 := blk_frozen BK126.out 0
                        try go_wp2_with (first | ((with_reducible refine gate_callee (f := 11) rfl ?_); refine goesL_ (some 71) rfl rfl Try.func11 (by kernel_rfl) rfl #[.agg #[.int .i64 x127000_1], .int .i64 ((rd_T27 l0 x6_1).f1)] rfl (by (try simp only [List.map_toArray, List.map_cons, List.map_nil]); first | done | rfl | (simp only [List.length_drop, List.length_take]; rfl)) ?_; (with_reducible refine (hold_Hold_Give.calls k1 x127000_1 ((rd_T27 l0 x6_1).f1) t136 t137 _ A64.out).mono ?_); rintro e w76 ⟨rfl, hb⟩; refine ⟨_, rfl, ?_⟩; have n0_ := Aside0.mk (blk_below (g := gb126) (o := .cells #[.int .i64 x127000_1] 25 (0, 0)) (by (with_reducible repeat (first | refine blk_drewN ?_ _ | refine blk_drew ?_ | refine blk_alloc ?_ _)); exact BK126.out) hb); have n1_ := Aside0.mk (blk_below (g := gb128) (o := .cells #[.int .i64 ((rd_T27 l0 x6_1).f0), .int .i64 ((rd_T27 l0 x6_1).f1)] 27 (0, 0)) (by (with_reducible repeat (first | refine blk_drewN ?_ _ | refine blk_drew ?_ | refine blk_alloc ?_ _)); exact BK128.out) hb); have n2_ := Aside0.mk (below_step (by repeat (first | (with_reducible first | exact HB.out | apply below_alloc | apply pw_below_drewN | apply below_drew1 | refine below_set ?_ GE126.out | refine below_set ?_ GE128.out) | exact HB.out)) hb); clear BK126; clear BK128; clear HB; have BK126 := n0_; have BK128 := n1_; have HB := n2_; clear n0_ n1_ n2_; (try clear hb); (try clear hb2); (try clear hk); (try clear hi)) | ((with_reducible refine gate_dst (N := 12) rfl ?_); refine box_event ?hg (N := 12) ?hd (cs := #[.int .i64 0]) (t := 25) ?hr ?_; (case hd => rfl); (case hg => rfl); (case hr => first | (go_simp; done) | (go_simp; rfl)); intro gb138 hg w77 hbox hb; have n0_ := Aside0.mk (blk_below (g := gb126) (o := .cells #[.int .i64 x127000_1] 25 (0, 0)) (by (with_reducible repeat (first | refine blk_drewN ?_ _ | refine blk_drew ?_ | refine blk_alloc ?_ _)); exact BK126.out) hb); have n1_ := Aside0.mk (blk_below (g := gb128) (o := .cells #[.int .i64 ((rd_T27 l0 x6_1).f0), .int .i64 ((rd_T27 l0 x6_1).f1)] 27 (0, 0)) (by (with_reducible repeat (first | refine blk_drewN ?_ _ | refine blk_drew ?_ | refine blk_alloc ?_ _)); exact BK128.out) hb); have n2_ := Aside0.mk (below_step (by repeat (first | (with_reducible first | exact HB.out | apply below_alloc | apply pw_below_drewN | apply below_drew1 | refine below_set ?_ GE126.out | refine below_set ?_ GE128.out) | exact HB.out)) hb); have n3_ := Aside0.mk (hbox); have n4_ := Aside0.mk ((by rw [hg]; exact (below_size (by repeat (first | (with_reducible first | exact HB.out | apply below_alloc | apply pw_below_drewN | apply below_drew1 | refine below_set ?_ GE126.out | refine below_set ?_ GE128.out) | exact HB.out))) : w.heap.size ≤ gb138)); have n5_ := Aside0.mk ((by rw [hg]; exact (below_size (by repeat (first | (with_reducible first | exact HB.out | apply below_alloc | apply pw_below_drewN | apply below_drew1 | refine below_set ?_ GE126.out | refine below_set ?_ GE128.out) | exact HB.out))) : w.heap.size ≤ gb138)); have n6_ := Aside0.mk ((by rw [hg]; exact Nat.ne_of_lt (blk_lt (g := gb126) (o := .cells #[.int .i64 x127000_1] 25 (0, 0)) (by (with_reducible repeat (first | refine blk_drewN ?_ _ | refine blk_drew ?_ | refine blk_alloc ?_ _)); exact BK126.out)) : gb126 ≠ gb138)); have n7_ := Aside0.mk ((by rw [hg]; exact Nat.ne_of_gt (blk_lt (g := gb126) (o := .cells #[.int .i64 x127000_1] 25 (0, 0)) (by (with_reducible repeat (first | refine blk_drewN ?_ _ | refine blk_drew ?_ | refine blk_alloc ?_ _)); exact BK126.out)) : gb138 ≠ gb126)); have n8_ := Aside0.mk ((by rw [hg]; exact Nat.ne_of_lt (blk_lt (g := gb128) (o := .cells #[.int .i64 ((rd_T27 l0 x6_1).f0), .int .i64 ((rd_T27 l0 x6_1).f1)] 27 (0, 0)) (by (with_reducible repeat (first | refine blk_drewN ?_ _ | refine blk_drew ?_ | refine blk_alloc ?_ _)); exact BK128.out)) : gb128 ≠ gb138)); have n9_ := Aside0.mk ((by rw [hg]; exact Nat.ne_of_gt (blk_lt (g := gb128) (o := .cells #[.int .i64 ((rd_T27 l0 x6_1).f0), .int .i64 ((rd_T27 l0 x6_1).f1)] 27 (0, 0)) (by (with_reducible repeat (first | refine blk_drewN ?_ _ | refine blk_drew ?_ | refine blk_alloc ?_ _)); exact BK128.out)) : gb138 ≠ gb128)); clear BK126; clear BK128; clear HB; have BK126 := n0_; have BK128 := n1_; have HB := n2_; have BK138 := n3_; have GW138 := n4_; have GE138 := n5_; have NB126_138 := n6_; have NB138_126 := n7_; have NB128_138 := n8_; have NB138_128 := n9_; clear n0_ n1_ n2_ n3_ n4_ n5_ n6_ n7_ n8_ n9_; clear hb hbox hg; have hnb78 := NB138_126.out; have hnc78 := NB126_138.out; have hnb79 := NB138_128.out; have hnc79 := NB128_138.out; have hcz80_0 : w77.cell? ⟨gb138, 0, none⟩ = some (.int .i64 0) := (blk_cell BK138.out 0).trans rfl; have hfz80_0 := blk_frozen BK138.out 0; have hcz81_0 : w77.cell? ⟨gb128, 0, none⟩ = some (.int .i64 ((rd_T27 l0 x6_1).f0)) := (blk_cell BK128.out 0).trans rfl; have hcz81_1 : w77.cell? ⟨gb128, 1, none⟩ = some (.int .i64 ((rd_T27 l0 x6_1).f1)) := (blk_cell BK128.out 1).trans rfl; have hfz81_0 := blk_frozen BK128.out 0; have hfz81_1 := blk_frozen BK128.out 1) | ((with_reducible refine gate_callee (f := 12) rfl ?_); refine goesL_ (some 78) rfl rfl Try.func12 (by kernel_rfl) rfl #[.int .i64 x5_1, .int .i64 ((rd_T27 l0 x6_1).f1)] rfl (by (try simp only [List.map_toArray, List.map_cons, List.map_nil]); first | done | rfl | (simp only [List.length_drop, List.length_take]; rfl)) ?_; (with_reducible refine (tollbarref29_Give.calls k1 x5_1 ((rd_T27 l0 x6_1).f1) t139 t140 _ A65.out).mono ?_); rintro e w' ⟨rfl, ⟨nd, rfl⟩⟩; refine ⟨_, rfl, ?_⟩; have hcz82_0 : w77.cell? ⟨gb126, 0, none⟩ = some (.int .i64 x127000_1) := (blk_cell BK126.out 0).trans rfl; have hfz82_0 := blk_frozen BK126.out 0))
                        go_roundg k1
                        case measure => have := HK1.out; omega
                        case rel => exact ⟨(t139), (wrap64 (x6_1 + 1)), (t136), (by first | rfl | (simp; done) | (simp [*]; done)), (by first | rfl | (simp; done) | (simp [*]; done)), H', ⟨by have := HK1.out; omega⟩, ⟨by (with_reducible repeat (first | refine blk_drewN ?_ _ | refine blk_drew ?_ | refine blk_alloc ?_ _)); refine blk_put (cs := #[.int .i64 x127000_1]) ?_ 0 _ rfl; (with_reducible repeat (first | refine blk_drewN ?_ _ | refine blk_drew ?_ | refine blk_alloc ?_ _)); refine blk_far ?_ NB126_138.out _; (with_reducible repeat (first | refine blk_drewN ?_ _ | refine blk_drew ?_ | refine blk_alloc ?_ _)); exact BK126.out⟩, ⟨by repeat (first | (with_reducible first | exact HB.out | apply below_alloc | apply pw_below_drewN | apply below_drew1 | refine below_set ?_ GE126.out | refine below_set ?_ GE128.out | refine below_set ?_ GE138.out) | exact HB.out)⟩⟩
                      · rw [if_neg c67] at H
                        have c67b0 : (t136 == t139) = false := beq_eq_false_iff_ne.mpr c67
                        have c67b1 : (t136 != t139) = true := bne_iff_ne.mpr c67
                        obtain rfl := Option.some.inj H
                        have p127 : 0 ≤ (x6_1 : Int) := of_decide_eq_true (by first | (with_reducible assumption) | assumption)
                        have q127 : x6_1 < (l0.length : Int) := of_decide_eq_true (by first | (with_reducible assumption) | assumption)
                        obtain ⟨ad127, e127, hx127_0, hx127_1⟩ := at_T27 HR0.out x6_1 p127 q127
                        cases e127
                        replace hx127_0 := (HB.out.cell (World.block_lt_of_cell? w _ hx127_0)).trans hx127_0
                        replace hx127_1 := (HB.out.cell (World.block_lt_of_cell? w _ hx127_1)).trans hx127_1
                        replace p127 := eq_true p127
                        replace q127 := eq_true q127
                        try go_wp2_with (first | ((with_reducible refine gate_dst (N := 7) rfl ?_); refine box_event ?hg (N := 7) ?hd (cs := #[.int .i64 0, .int .i64 0]) (t := 27) ?hr ?_; (case hd => rfl); (case hg => rfl); (case hr => first | (go_simp; done) | (go_simp; rfl)); intro gb128 hg w83 hbox hb; have n0_ := Aside0.mk (blk_below (g := gb126) (o := .cells #[.int .i64 x127000_1] 25 (0, 0)) (by (with_reducible repeat (first | refine blk_drewN ?_ _ | refine blk_drew ?_ | refine blk_alloc ?_ _)); exact BK126.out) hb); have n1_ := Aside0.mk (below_step (by repeat (first | (with_reducible first | exact HB.out | apply below_alloc | apply pw_below_drewN | apply below_drew1 | refine below_set ?_ GE126.out) | exact HB.out)) hb); have n2_ := Aside0.mk (hbox); have n3_ := Aside0.mk ((by rw [hg]; exact (below_size (by repeat (first | (with_reducible first | exact HB.out | apply below_alloc | apply pw_below_drewN | apply below_drew1 | refine below_set ?_ GE126.out) | exact HB.out))) : w.heap.size ≤ gb128)); have n4_ := Aside0.mk ((by rw [hg]; exact (below_size (by repeat (first | (with_reducible first | exact HB.out | apply below_alloc | apply pw_below_drewN | apply below_drew1 | refine below_set ?_ GE126.out) | exact HB.out))) : w.heap.size ≤ gb128)); have n5_ := Aside0.mk ((by rw [hg]; exact Nat.ne_of_lt (blk_lt (g := gb126) (o := .cells #[.int .i64 x127000_1] 25 (0, 0)) (by (with_reducible repeat (first | refine blk_drewN ?_ _ | refine blk_drew ?_ | refine blk_alloc ?_ _)); exact BK126.out)) : gb126 ≠ gb128)); have n6_ := Aside0.mk ((by rw [hg]; exact Nat.ne_of_gt (blk_lt (g := gb126) (o := .cells #[.int .i64 x127000_1] 25 (0, 0)) (by (with_reducible repeat (first | refine blk_drewN ?_ _ | refine blk_drew ?_ | refine blk_alloc ?_ _)); exact BK126.out)) : gb128 ≠ gb126)); clear BK126; clear HB; have BK126 := n0_; have HB := n1_; have BK128 := n2_; have GW128 := n3_; have GE128 := n4_; have NB126_128 := n5_; have NB128_126 := n6_; clear n0_ n1_ n2_ n3_ n4_ n5_ n6_; clear hb hbox hg; have hnb84 := NB128_126.out; have hnc84 := NB126_128.out; have hcz85_0 : w83.cell? ⟨gb128, 0, none⟩ = some (.int .i64 0) := (blk_cell BK128.out 0).trans rfl; have hcz85_1 : w83.cell? ⟨gb128, 1, none⟩ = some (.int .i64 0) := (blk_cell BK128.out 1).trans rfl; have hfz85_0 := blk_frozen BK128.out 0; have hfz85_1 := blk_frozen BK128.out 1))
                        have n0_ : Aside0 (((w83.setCell ⟨gb128, 0, none⟩ (.int .i64 ((rd_T27 l0 x6_1).f0))).setCell ⟨gb128, 1, none⟩ (.int .i64 ((rd_T27 l0 x6_1).f1))).heap[gb126]? = some (.cells #[.int .i64 x127000_1] 25 (0, 0))) := ⟨by (with_reducible repeat (first | refine blk_drewN ?_ _ | refine blk_drew ?_ | refine blk_alloc ?_ _)); refine blk_far ?_ NB126_128.out _; (with_reducible repeat (first | refine blk_drewN ?_ _ | refine blk_drew ?_ | refine blk_alloc ?_ _)); refine blk_far ?_ NB126_128.out _; (with_reducible repeat (first | refine blk_drewN ?_ _ | refine blk_drew ?_ | refine blk_alloc ?_ _)); exact BK126.out⟩
                        have n1_ : Aside0 (((w83.setCell ⟨gb128, 0, none⟩ (.int .i64 ((rd_T27 l0 x6_1).f0))).setCell ⟨gb128, 1, none⟩ (.int .i64 ((rd_T27 l0 x6_1).f1))).heap[gb128]? = some (.cells #[.int .i64 ((rd_T27 l0 x6_1).f0), .int .i64 ((rd_T27 l0 x6_1).f1)] 27 (0, 0))) := ⟨by (with_reducible repeat (first | refine blk_drewN ?_ _ | refine blk_drew ?_ | refine blk_alloc ?_ _)); refine blk_put (cs := #[.int .i64 ((rd_T27 l0 x6_1).f0), .int .i64 0]) ?_ 1 _ rfl; (with_reducible repeat (first | refine blk_drewN ?_ _ | refine blk_drew ?_ | refine blk_alloc ?_ _)); refine blk_put (cs := #[.int .i64 0, .int .i64 0]) ?_ 0 _ rfl; (with_reducible repeat (first | refine blk_drewN ?_ _ | refine blk_drew ?_ | refine blk_alloc ?_ _)); exact BK128.out⟩
                        have n2_ : Aside0 (Below w.heap.size w ((w83.setCell ⟨gb128, 0, none⟩ (.int .i64 ((rd_T27 l0 x6_1).f0))).setCell ⟨gb128, 1, none⟩ (.int .i64 ((rd_T27 l0 x6_1).f1)))) := ⟨by repeat (first | (with_reducible first | exact HB.out | apply below_alloc | apply pw_below_drewN | apply below_drew1 | refine below_set ?_ GE126.out | refine below_set ?_ GE128.out) | exact HB.out)⟩
                        (try clear BK126)
                        (try clear BK128)
                        (try clear HB)
                        generalize ((w83.setCell ⟨gb128, 0, none⟩ (.int .i64 ((rd_T27 l0 x6_1).f0))).setCell ⟨gb128, 1, none⟩ (.int .i64 ((rd_T27 l0 x6_1).f1))) = w86 at n0_ n1_ n2_ ⊢
                        have BK126 := n0_
                        have BK128 := n1_
                        have HB := n2_
                        clear n0_ n1_ n2_
                        have n0_ := Aside0.mk (blk_drew BK126.out)
                        have n1_ := Aside0.mk (blk_drew BK128.out)
                        have n2_ := Aside0.mk (below_drew1 HB.out)
                        clear BK126
                        clear BK128
                        clear HB
                        have BK126 := n0_
                        have BK128 := n1_
                        have HB := n2_
                        clear n0_ n1_ n2_
                        refine start_ (n := 9) (S := fun w' => w'.cell? ⟨gb126, 0, none⟩ = some (.int .i64 x127000_1) ∧ w'.cell? ⟨gb128, 0, none⟩ = some (.int .i64 ((rd_T27 l0 x6_1).f0)) ∧ w'.cell? ⟨gb128, 1, none⟩ = some (.int .i64 ((rd_T27 l0 x6_1).f1))) (ds := []) #[false, false, false, false, false, false, false, false, false] (by kernel_rfl) rfl rfl ⟨(blk_cell BK126.out 0).trans rfl, (blk_cell BK128.out 0).trans rfl, (blk_cell BK128.out 1).trans rfl⟩ (fun hHeld => ?_); refine with_tabW tollbarlaw29_HoldDoes.tab12 tollbarlaw29_HoldDoes.bits12 (fun HT_ HW_ => ?_)
                        generalize w86.drew = w87 at BK126 BK128 HB hHeld ⊢
                        refine pure_ (i := 1) (N := some 34) (v := ?_) (a' := ?_) #[false, true, false, false, false, false, false, false, false] rfl rfl (any_of HT_.out (by kernel_rfl)) (fun _ _ _ h => h) (Or.inl ⟨by rfl, ?_⟩) ?_ ?_
                        rotate_left
                        · intro w'
                          go_simp
                          with_reducible rfl
                        rotate_left
                        · simp only [Act.put, List.setIfInBounds_toArray, List.set_cons_zero, List.set_cons_succ, i64_w, i32_w]
                          rfl
                        refine pure_ (i := 4) (N := some 37) (v := ?_) (a' := ?_) #[false, true, false, false, true, false, false, false, false] rfl rfl (any_of HT_.out (by kernel_rfl)) (fun _ _ _ h => h) (Or.inl ⟨by rfl, ?_⟩) ?_ ?_
                        rotate_left
                        · intro w'
                          go_simp
                          with_reducible rfl
                        rotate_left
                        · simp only [Act.put, List.setIfInBounds_toArray, List.set_cons_zero, List.set_cons_succ, i64_w, i32_w]
                          rfl
                        refine pure_ (i := 5) (N := some 38) (v := ?_) (a' := ?_) #[false, true, false, false, true, true, false, false, false] rfl rfl (any_of HT_.out (by kernel_rfl)) (fun _ _ _ h => h) (Or.inl ⟨by rfl, ?_⟩) ?_ ?_
                        rotate_left
                        · intro w'
                          go_simp
                          with_reducible rfl
                        rotate_left
                        · simp only [Act.put, List.setIfInBounds_toArray, List.set_cons_zero, List.set_cons_succ, i64_w, i32_w]
                          rfl
                        refine take_ (i := 0) (N := some 33) (v := ?_) (a' := ?_) #[true, true, false, false, true, true, false, false, false] rfl rfl (take_ofW HT_.out HW_.out (by kernel_rfl)) (fun _ _ _ h => h) (Or.inl ⟨by rfl, ?_⟩) hHeld ?_ ?_
                        rotate_left
                        · rintro w' ⟨s0, s1, s2⟩
                          go_simp
                          with_reducible rfl
                        rotate_left
                        · simp only [Act.put, List.setIfInBounds_toArray, List.set_cons_zero, List.set_cons_succ, i64_w, i32_w]
                          rfl
                        refine take_ (i := 2) (N := some 35) (v := ?_) (a' := ?_) #[true, true, true, false, true, true, false, false, false] rfl rfl (take_ofW HT_.out HW_.out (by kernel_rfl)) (fun _ _ _ h => h) (Or.inl ⟨by rfl, ?_⟩) hHeld ?_ ?_
                        rotate_left
                        · rintro w' ⟨s0, s1, s2⟩
                          go_simp
                          with_reducible rfl
                        rotate_left
                        · simp only [Act.put, List.setIfInBounds_toArray, List.set_cons_zero, List.set_cons_succ, i64_w, i32_w]
                          rfl
                        refine take_ (i := 6) (N := some 39) (v := ?_) (a' := ?_) #[true, true, true, false, true, true, true, false, false] rfl rfl (take_ofW HT_.out HW_.out (by kernel_rfl)) (fun _ _ _ h => h) (Or.inl ⟨by rfl, ?_⟩) hHeld ?_ ?_
                        rotate_left
                        · rintro w' ⟨s0, s1, s2⟩
                          go_simp
                          with_reducible rfl
                        rotate_left
                        · simp only [Act.put, List.setIfInBounds_toArray, List.set_cons_zero, List.set_cons_succ, i64_w, i32_w]
                          rfl
                        refine one_ (i := 3) (N := some 36) #[true, true, true, true, true, true, true, false, false] rfl rfl (one_of HT_.out (by kernel_rfl)) (by decide) (fun K hK => ?_)
                        refine goes_ Try.func7 (by kernel_rfl) rfl #[.agg #[.int .i64 x127000_1], .int .i64 ((rd_T27 l0 x6_1).f1)] (by rfl) rfl rfl (by (try simp only [List.map_toArray, List.map_cons, List.map_nil]); first | done | rfl | (simp only [List.length_drop, List.length_take]; rfl)) ?_
                        with_reducible refine (hold_Hold_May.calls x127000_1 ((rd_T27 l0 x6_1).f1) t129 _ A11.out).mono ?_
                        rintro e w88 ⟨rfl, hb⟩
                        refine ⟨_, rfl, ?_⟩
                        have n0_ := Aside0.mk (blk_below (g := gb126) (o := .cells #[.int .i64 x127000_1] 25 (0, 0)) (by (with_reducible repeat (first | refine blk_drewN ?_ _ | refine blk_drew ?_ | refine blk_alloc ?_ _)); exact BK126.out) hb)
                        have n1_ := Aside0.mk (blk_below (g := gb128) (o := .cells #[.int .i64 ((rd_T27 l0 x6_1).f0), .int .i64 ((rd_T27 l0 x6_1).f1)] 27 (0, 0)) (by (with_reducible repeat (first | refine blk_drewN ?_ _ | refine blk_drew ?_ | refine blk_alloc ?_ _)); exact BK128.out) hb)
                        have n2_ := Aside0.mk (below_step (by repeat (first | (with_reducible first | exact HB.out | apply below_alloc | apply pw_below_drewN | apply below_drew1 | refine below_set ?_ GE126.out | refine below_set ?_ GE128.out) | exact HB.out)) hb)
                        clear BK126
                        clear BK128
                        clear HB
                        have BK126 := n0_
                        have BK128 := n1_
                        have HB := n2_
                        clear n0_ n1_ n2_
                        (try clear hb)
                        (try clear hb2)
                        (try clear hk)
                        (try clear hi)
                        refine hK.out _ _ ⟨(blk_cell BK126.out 0).trans rfl, (blk_cell BK128.out 0).trans rfl, (blk_cell BK128.out 1).trans rfl⟩ (fun hHeld => ?_)
                        clear hK K
                        refine norm_ (a' := ?_) ?_ ?_
                        rotate_left
                        · show Act.put _ (some 36) _ = _
                          simp only [Act.put, List.setIfInBounds_toArray, List.set_cons_zero, List.set_cons_succ, i64_w, i32_w]
                          rfl
                        refine one_ (i := 7) (N := some 40) #[true, true, true, true, true, true, true, true, false] rfl rfl (one_of HT_.out (by kernel_rfl)) (by decide) (fun K hK => ?_)
                        refine goes_ Try.func8 (by kernel_rfl) rfl #[.int .i64 x5_1, .int .i64 ((rd_T27 l0 x6_1).f1)] (by rfl) rfl rfl (by (try simp only [List.map_toArray, List.map_cons, List.map_nil]); first | done | rfl | (simp only [List.length_drop, List.length_take]; rfl)) ?_
                        with_reducible refine (tollbarref29_May.calls x5_1 ((rd_T27 l0 x6_1).f1) t130 _ A12.out).mono ?_
                        rintro e w' ⟨rfl, ⟨nd, rfl⟩⟩
                        refine ⟨_, rfl, ?_⟩
                        refine hK.out _ _ ⟨(blk_cell BK126.out 0).trans rfl, (blk_cell BK128.out 0).trans rfl, (blk_cell BK128.out 1).trans rfl⟩ (fun hHeld => ?_)
                        clear hK K
                        refine norm_ (a' := ?_) ?_ ?_
                        rotate_left
                        · show Act.put _ (some 40) _ = _
                          simp only [Act.put, List.setIfInBounds_toArray, List.set_cons_zero, List.set_cons_succ, i64_w, i32_w]
                          rfl
                        refine pure_ (i := 8) (N := some 41) (v := ?_) (a' := ?_) #[true, true, true, true, true, true, true, true, true] rfl rfl (any_of HT_.out (by kernel_rfl)) (fun _ _ _ h => h) (Or.inl ⟨by rfl, ?_⟩) ?_ ?_
                        rotate_left
                        · intro w'
                          go_simp
                          with_reducible rfl
                        rotate_left
                        · simp only [Act.put, List.setIfInBounds_toArray, List.set_cons_zero, List.set_cons_succ, i64_w, i32_w]
                          rfl
                        refine done_ (done_of HT_.out (by kernel_rfl)) ?_
                        have hcz89_0 : w88.cell? ⟨gb128, 0, none⟩ = some (.int .i64 ((rd_T27 l0 x6_1).f0)) := (blk_cell BK128.out 0).trans rfl
                        have hcz89_1 : w88.cell? ⟨gb128, 1, none⟩ = some (.int .i64 ((rd_T27 l0 x6_1).f1)) := (blk_cell BK128.out 1).trans rfl
                        have hfz89_0 := blk_frozen BK128.out 0
                        have hfz89_1 := blk_frozen BK128.out 1
                        have hcz90_0 : w88.cell? ⟨gb126, 0, none⟩ = some (.int .i64 x127000_1) := (blk_cell BK126.out 0).trans rfl
                        have hfz90_0 := blk_frozen BK126.out 0
                        try go_wp2_with (first | ((with_reducible refine gate_callee (f := 11) rfl ?_); refine goesL_ (some 71) rfl rfl Try.func11 (by kernel_rfl) rfl #[.agg #[.int .i64 x127000_1], .int .i64 ((rd_T27 l0 x6_1).f1)] rfl (by (try simp only [List.map_toArray, List.map_cons, List.map_nil]); first | done | rfl | (simp only [List.length_drop, List.length_take]; rfl)) ?_; (with_reducible refine (hold_Hold_Give.calls k1 x127000_1 ((rd_T27 l0 x6_1).f1) t136 t137 _ A64.out).mono ?_); rintro e w91 ⟨rfl, hb⟩; refine ⟨_, rfl, ?_⟩; have n0_ := Aside0.mk (blk_below (g := gb126) (o := .cells #[.int .i64 x127000_1] 25 (0, 0)) (by (with_reducible repeat (first | refine blk_drewN ?_ _ | refine blk_drew ?_ | refine blk_alloc ?_ _)); exact BK126.out) hb); have n1_ := Aside0.mk (blk_below (g := gb128) (o := .cells #[.int .i64 ((rd_T27 l0 x6_1).f0), .int .i64 ((rd_T27 l0 x6_1).f1)] 27 (0, 0)) (by (with_reducible repeat (first | refine blk_drewN ?_ _ | refine blk_drew ?_ | refine blk_alloc ?_ _)); exact BK128.out) hb); have n2_ := Aside0.mk (below_step (by repeat (first | (with_reducible first | exact HB.out | apply below_alloc | apply pw_below_drewN | apply below_drew1 | refine below_set ?_ GE126.out | refine below_set ?_ GE128.out) | exact HB.out)) hb); clear BK126; clear BK128; clear HB; have BK126 := n0_; have BK128 := n1_; have HB := n2_; clear n0_ n1_ n2_; (try clear hb); (try clear hb2); (try clear hk); (try clear hi)) | ((with_reducible refine gate_dst (N := 12) rfl ?_); refine box_event ?hg (N := 12) ?hd (cs := #[.int .i64 0]) (t := 25) ?hr ?_; (case hd => rfl); (case hg => rfl); (case hr => first | (go_simp; done) | (go_simp; rfl)); intro gb138 hg w92 hbox hb; have n0_ := Aside0.mk (blk_below (g := gb126) (o := .cells #[.int .i64 x127000_1] 25 (0, 0)) (by (with_reducible repeat (first | refine blk_drewN ?_ _ | refine blk_drew ?_ | refine blk_alloc ?_ _)); exact BK126.out) hb); have n1_ := Aside0.mk (blk_below (g := gb128) (o := .cells #[.int .i64 ((rd_T27 l0 x6_1).f0), .int .i64 ((rd_T27 l0 x6_1).f1)] 27 (0, 0)) (by (with_reducible repeat (first | refine blk_drewN ?_ _ | refine blk_drew ?_ | refine blk_alloc ?_ _)); exact BK128.out) hb); have n2_ := Aside0.mk (below_step (by repeat (first | (with_reducible first | exact HB.out | apply below_alloc | apply pw_below_drewN | apply below_drew1 | refine below_set ?_ GE126.out | refine below_set ?_ GE128.out) | exact HB.out)) hb); have n3_ := Aside0.mk (hbox); have n4_ := Aside0.mk ((by rw [hg]; exact (below_size (by repeat (first | (with_reducible first | exact HB.out | apply below_alloc | apply pw_below_drewN | apply below_drew1 | refine below_set ?_ GE126.out | refine below_set ?_ GE128.out) | exact HB.out))) : w.heap.size ≤ gb138)); have n5_ := Aside0.mk ((by rw [hg]; exact (below_size (by repeat (first | (with_reducible first | exact HB.out | apply below_alloc | apply pw_below_drewN | apply below_drew1 | refine below_set ?_ GE126.out | refine below_set ?_ GE128.out) | exact HB.out))) : w.heap.size ≤ gb138)); have n6_ := Aside0.mk ((by rw [hg]; exact Nat.ne_of_lt (blk_lt (g := gb126) (o := .cells #[.int .i64 x127000_1] 25 (0, 0)) (by (with_reducible repeat (first | refine blk_drewN ?_ _ | refine blk_drew ?_ | refine blk_alloc ?_ _)); exact BK126.out)) : gb126 ≠ gb138)); have n7_ := Aside0.mk ((by rw [hg]; exact Nat.ne_of_gt (blk_lt (g := gb126) (o := .cells #[.int .i64 x127000_1] 25 (0, 0)) (by (with_reducible repeat (first | refine blk_drewN ?_ _ | refine blk_drew ?_ | refine blk_alloc ?_ _)); exact BK126.out)) : gb138 ≠ gb126)); have n8_ := Aside0.mk ((by rw [hg]; exact Nat.ne_of_lt (blk_lt (g := gb128) (o := .cells #[.int .i64 ((rd_T27 l0 x6_1).f0), .int .i64 ((rd_T27 l0 x6_1).f1)] 27 (0, 0)) (by (with_reducible repeat (first | refine blk_drewN ?_ _ | refine blk_drew ?_ | refine blk_alloc ?_ _)); exact BK128.out)) : gb128 ≠ gb138)); have n9_ := Aside0.mk ((by rw [hg]; exact Nat.ne_of_gt (blk_lt (g := gb128) (o := .cells #[.int .i64 ((rd_T27 l0 x6_1).f0), .int .i64 ((rd_T27 l0 x6_1).f1)] 27 (0, 0)) (by (with_reducible repeat (first | refine blk_drewN ?_ _ | refine blk_drew ?_ | refine blk_alloc ?_ _)); exact BK128.out)) : gb138 ≠ gb128)); clear BK126; clear BK128; clear HB; have BK126 := n0_; have BK128 := n1_; have HB := n2_; have BK138 := n3_; have GW138 := n4_; have GE138 := n5_; have NB126_138 := n6_; have NB138_126 := n7_; have NB128_138 := n8_; have NB138_128 := n9_; clear n0_ n1_ n2_ n3_ n4_ n5_ n6_ n7_ n8_ n9_; clear hb hbox hg; have hnb93 := NB138_126.out; have hnc93 := NB126_138.out; have hnb94 := NB138_128.out; have hnc94 := NB128_138.out; have hcz95_0 : w92.cell? ⟨gb138, 0, none⟩ = some (.int .i64 0) := (blk_cell BK138.out 0).trans rfl; have hfz95_0 := blk_frozen BK138.out 0; have hcz96_0 : w92.cell? ⟨gb128, 0, none⟩ = some (.int .i64 ((rd_T27 l0 x6_1).f0)) := (blk_cell BK128.out 0).trans rfl; have hcz96_1 : w92.cell? ⟨gb128, 1, none⟩ = some (.int .i64 ((rd_T27 l0 x6_1).f1)) := (blk_cell BK128.out 1).trans rfl; have hfz96_0 := blk_frozen BK128.out 0; have hfz96_1 := blk_frozen BK128.out 1) | ((with_reducible refine gate_callee (f := 12) rfl ?_); refine goesL_ (some 78) rfl rfl Try.func12 (by kernel_rfl) rfl #[.int .i64 x5_1, .int .i64 ((rd_T27 l0 x6_1).f1)] rfl (by (try simp only [List.map_toArray, List.map_cons, List.map_nil]); first | done | rfl | (simp only [List.length_drop, List.length_take]; rfl)) ?_; (with_reducible refine (tollbarref29_Give.calls k1 x5_1 ((rd_T27 l0 x6_1).f1) t139 t140 _ A65.out).mono ?_); rintro e w' ⟨rfl, ⟨nd, rfl⟩⟩; refine ⟨_, rfl, ?_⟩; have hcz97_0 : w92.cell? ⟨gb126, 0, none⟩ = some (.int .i64 x127000_1) := (blk_cell BK126.out 0).trans rfl; have hfz97_0 := blk_frozen BK126.out 0))
                        go_ret
                        exact ⟨by first | rfl | (simp [errW_none, errW_some] <;> rfl) | (simp [*, errW_none, errW_some] <;> rfl), by repeat (first | (with_reducible first | exact HB.out | apply below_alloc | apply pw_below_drewN | apply below_drew1 | refine below_set ?_ GE126.out | refine below_set ?_ GE128.out | refine below_set ?_ GE138.out) | exact HB.out)⟩
                    · rw [if_neg c66] at H
                      have c66b0 : (t137 == t140) = false := beq_eq_false_iff_ne.mpr c66
                      have c66b1 : (t137 != t140) = true := bne_iff_ne.mpr c66
                      obtain rfl := Option.some.inj H
                      have p127 : 0 ≤ (x6_1 : Int) := of_decide_eq_true (by first | (with_reducible assumption) | assumption)
                      have q127 : x6_1 < (l0.length : Int) := of_decide_eq_true (by first | (with_reducible assumption) | assumption)
                      obtain ⟨ad127, e127, hx127_0, hx127_1⟩ := at_T27 HR0.out x6_1 p127 q127
                      cases e127
                      replace hx127_0 := (HB.out.cell (World.block_lt_of_cell? w _ hx127_0)).trans hx127_0
                      replace hx127_1 := (HB.out.cell (World.block_lt_of_cell? w _ hx127_1)).trans hx127_1
                      replace p127 := eq_true p127
                      replace q127 := eq_true q127
                      try go_wp2_with (first | ((with_reducible refine gate_dst (N := 7) rfl ?_); refine box_event ?hg (N := 7) ?hd (cs := #[.int .i64 0, .int .i64 0]) (t := 27) ?hr ?_; (case hd => rfl); (case hg => rfl); (case hr => first | (go_simp; done) | (go_simp; rfl)); intro gb128 hg w98 hbox hb; have n0_ := Aside0.mk (blk_below (g := gb126) (o := .cells #[.int .i64 x127000_1] 25 (0, 0)) (by (with_reducible repeat (first | refine blk_drewN ?_ _ | refine blk_drew ?_ | refine blk_alloc ?_ _)); exact BK126.out) hb); have n1_ := Aside0.mk (below_step (by repeat (first | (with_reducible first | exact HB.out | apply below_alloc | apply pw_below_drewN | apply below_drew1 | refine below_set ?_ GE126.out) | exact HB.out)) hb); have n2_ := Aside0.mk (hbox); have n3_ := Aside0.mk ((by rw [hg]; exact (below_size (by repeat (first | (with_reducible first | exact HB.out | apply below_alloc | apply pw_below_drewN | apply below_drew1 | refine below_set ?_ GE126.out) | exact HB.out))) : w.heap.size ≤ gb128)); have n4_ := Aside0.mk ((by rw [hg]; exact (below_size (by repeat (first | (with_reducible first | exact HB.out | apply below_alloc | apply pw_below_drewN | apply below_drew1 | refine below_set ?_ GE126.out) | exact HB.out))) : w.heap.size ≤ gb128)); have n5_ := Aside0.mk ((by rw [hg]; exact Nat.ne_of_lt (blk_lt (g := gb126) (o := .cells #[.int .i64 x127000_1] 25 (0, 0)) (by (with_reducible repeat (first | refine blk_drewN ?_ _ | refine blk_drew ?_ | refine blk_alloc ?_ _)); exact BK126.out)) : gb126 ≠ gb128)); have n6_ := Aside0.mk ((by rw [hg]; exact Nat.ne_of_gt (blk_lt (g := gb126) (o := .cells #[.int .i64 x127000_1] 25 (0, 0)) (by (with_reducible repeat (first | refine blk_drewN ?_ _ | refine blk_drew ?_ | refine blk_alloc ?_ _)); exact BK126.out)) : gb128 ≠ gb126)); clear BK126; clear HB; have BK126 := n0_; have HB := n1_; have BK128 := n2_; have GW128 := n3_; have GE128 := n4_; have NB126_128 := n5_; have NB128_126 := n6_; clear n0_ n1_ n2_ n3_ n4_ n5_ n6_; clear hb hbox hg; have hnb99 := NB128_126.out; have hnc99 := NB126_128.out; have hcz100_0 : w98.cell? ⟨gb128, 0, none⟩ = some (.int .i64 0) := (blk_cell BK128.out 0).trans rfl; have hcz100_1 : w98.cell? ⟨gb128, 1, none⟩ = some (.int .i64 0) := (blk_cell BK128.out 1).trans rfl; have hfz100_0 := blk_frozen BK128.out 0; have hfz100_1 := blk_frozen BK128.out 1))
                      have n0_ : Aside0 (((w98.setCell ⟨gb128, 0, none⟩ (.int .i64 ((rd_T27 l0 x6_1).f0))).setCell ⟨gb128, 1, none⟩ (.int .i64 ((rd_T27 l0 x6_1).f1))).heap[gb126]? = some (.cells #[.int .i64 x127000_1] 25 (0, 0))) := ⟨by (with_reducible repeat (first | refine blk_drewN ?_ _ | refine blk_drew ?_ | refine blk_alloc ?_ _)); refine blk_far ?_ NB126_128.out _; (with_reducible repeat (first | refine blk_drewN ?_ _ | refine blk_drew ?_ | refine blk_alloc ?_ _)); refine blk_far ?_ NB126_128.out _; (with_reducible repeat (first | refine blk_drewN ?_ _ | refine blk_drew ?_ | refine blk_alloc ?_ _)); exact BK126.out⟩
                      have n1_ : Aside0 (((w98.setCell ⟨gb128, 0, none⟩ (.int .i64 ((rd_T27 l0 x6_1).f0))).setCell ⟨gb128, 1, none⟩ (.int .i64 ((rd_T27 l0 x6_1).f1))).heap[gb128]? = some (.cells #[.int .i64 ((rd_T27 l0 x6_1).f0), .int .i64 ((rd_T27 l0 x6_1).f1)] 27 (0, 0))) := ⟨by (with_reducible repeat (first | refine blk_drewN ?_ _ | refine blk_drew ?_ | refine blk_alloc ?_ _)); refine blk_put (cs := #[.int .i64 ((rd_T27 l0 x6_1).f0), .int .i64 0]) ?_ 1 _ rfl; (with_reducible repeat (first | refine blk_drewN ?_ _ | refine blk_drew ?_ | refine blk_alloc ?_ _)); refine blk_put (cs := #[.int .i64 0, .int .i64 0]) ?_ 0 _ rfl; (with_reducible repeat (first | refine blk_drewN ?_ _ | refine blk_drew ?_ | refine blk_alloc ?_ _)); exact BK128.out⟩
                      have n2_ : Aside0 (Below w.heap.size w ((w98.setCell ⟨gb128, 0, none⟩ (.int .i64 ((rd_T27 l0 x6_1).f0))).setCell ⟨gb128, 1, none⟩ (.int .i64 ((rd_T27 l0 x6_1).f1)))) := ⟨by repeat (first | (with_reducible first | exact HB.out | apply below_alloc | apply pw_below_drewN | apply below_drew1 | refine below_set ?_ GE126.out | refine below_set ?_ GE128.out) | exact HB.out)⟩
                      (try clear BK126)
                      (try clear BK128)
                      (try clear HB)
                      generalize ((w98.setCell ⟨gb128, 0, none⟩ (.int .i64 ((rd_T27 l0 x6_1).f0))).setCell ⟨gb128, 1, none⟩ (.int .i64 ((rd_T27 l0 x6_1).f1))) = w101 at n0_ n1_ n2_ ⊢
                      have BK126 := n0_
                      have BK128 := n1_
                      have HB := n2_
                      clear n0_ n1_ n2_
                      have n0_ := Aside0.mk (blk_drew BK126.out)
                      have n1_ := Aside0.mk (blk_drew BK128.out)
                      have n2_ := Aside0.mk (below_drew1 HB.out)
                      clear BK126
                      clear BK128
                      clear HB
                      have BK126 := n0_
                      have BK128 := n1_
                      have HB := n2_
                      clear n0_ n1_ n2_
                      refine start_ (n := 9) (S := fun w' => w'.cell? ⟨gb126, 0, none⟩ = some (.int .i64 x127000_1) ∧ w'.cell? ⟨gb128, 0, none⟩ = some (.int .i64 ((rd_T27 l0 x6_1).f0)) ∧ w'.cell? ⟨gb128, 1, none⟩ = some (.int .i64 ((rd_T27 l0 x6_1).f1))) (ds := []) #[false, false, false, false, false, false, false, false, false] (by kernel_rfl) rfl rfl ⟨(blk_cell BK126.out 0).trans rfl, (blk_cell BK128.out 0).trans rfl, (blk_cell BK128.out 1).trans rfl⟩ (fun hHeld => ?_); refine with_tabW tollbarlaw29_HoldDoes.tab12 tollbarlaw29_HoldDoes.bits12 (fun HT_ HW_ => ?_)
                      generalize w101.drew = w102 at BK126 BK128 HB hHeld ⊢
                      refine pure_ (i := 1) (N := some 34) (v := ?_) (a' := ?_) #[false, true, false, false, false, false, false, false, false] rfl rfl (any_of HT_.out (by kernel_rfl)) (fun _ _ _ h => h) (Or.inl ⟨by rfl, ?_⟩) ?_ ?_
                      rotate_left
                      · intro w'
                        go_simp
                        with_reducible rfl
                      rotate_left
                      · simp only [Act.put, List.setIfInBounds_toArray, List.set_cons_zero, List.set_cons_succ, i64_w, i32_w]
                        rfl
                      refine pure_ (i := 4) (N := some 37) (v := ?_) (a' := ?_) #[false, true, false, false, true, false, false, false, false] rfl rfl (any_of HT_.out (by kernel_rfl)) (fun _ _ _ h => h) (Or.inl ⟨by rfl, ?_⟩) ?_ ?_
                      rotate_left
                      · intro w'
                        go_simp
                        with_reducible rfl
                      rotate_left
                      · simp only [Act.put, List.setIfInBounds_toArray, List.set_cons_zero, List.set_cons_succ, i64_w, i32_w]
                        rfl
                      refine pure_ (i := 5) (N := some 38) (v := ?_) (a' := ?_) #[false, true, false, false, true, true, false, false, false] rfl rfl (any_of HT_.out (by kernel_rfl)) (fun _ _ _ h => h) (Or.inl ⟨by rfl, ?_⟩) ?_ ?_
                      rotate_left
                      · intro w'
                        go_simp
                        with_reducible rfl
                      rotate_left
                      · simp only [Act.put, List.setIfInBounds_toArray, List.set_cons_zero, List.set_cons_succ, i64_w, i32_w]
                        rfl
                      refine take_ (i := 0) (N := some 33) (v := ?_) (a' := ?_) #[true, true, false, false, true, true, false, false, false] rfl rfl (take_ofW HT_.out HW_.out (by kernel_rfl)) (fun _ _ _ h => h) (Or.inl ⟨by rfl, ?_⟩) hHeld ?_ ?_
                      rotate_left
                      · rintro w' ⟨s0, s1, s2⟩
                        go_simp
                        with_reducible rfl
                      rotate_left
                      · simp only [Act.put, List.setIfInBounds_toArray, List.set_cons_zero, List.set_cons_succ, i64_w, i32_w]
                        rfl
                      refine take_ (i := 2) (N := some 35) (v := ?_) (a' := ?_) #[true, true, true, false, true, true, false, false, false] rfl rfl (take_ofW HT_.out HW_.out (by kernel_rfl)) (fun _ _ _ h => h) (Or.inl ⟨by rfl, ?_⟩) hHeld ?_ ?_
                      rotate_left
                      · rintro w' ⟨s0, s1, s2⟩
                        go_simp
                        with_reducible rfl
                      rotate_left
                      · simp only [Act.put, List.setIfInBounds_toArray, List.set_cons_zero, List.set_cons_succ, i64_w, i32_w]
                        rfl
                      refine take_ (i := 6) (N := some 39) (v := ?_) (a' := ?_) #[true, true, true, false, true, true, true, false, false] rfl rfl (take_ofW HT_.out HW_.out (by kernel_rfl)) (fun _ _ _ h => h) (Or.inl ⟨by rfl, ?_⟩) hHeld ?_ ?_
                      rotate_left
                      · rintro w' ⟨s0, s1, s2⟩
                        go_simp
                        with_reducible rfl
                      rotate_left
                      · simp only [Act.put, List.setIfInBounds_toArray, List.set_cons_zero, List.set_cons_succ, i64_w, i32_w]
                        rfl
                      refine one_ (i := 3) (N := some 36) #[true, true, true, true, true, true, true, false, false] rfl rfl (one_of HT_.out (by kernel_rfl)) (by decide) (fun K hK => ?_)
                      refine goes_ Try.func7 (by kernel_rfl) rfl #[.agg #[.int .i64 x127000_1], .int .i64 ((rd_T27 l0 x6_1).f1)] (by rfl) rfl rfl (by (try simp only [List.map_toArray, List.map_cons, List.map_nil]); first | done | rfl | (simp only [List.length_drop, List.length_take]; rfl)) ?_
                      with_reducible refine (hold_Hold_May.calls x127000_1 ((rd_T27 l0 x6_1).f1) t129 _ A11.out).mono ?_
                      rintro e w103 ⟨rfl, hb⟩
                      refine ⟨_, rfl, ?_⟩
                      have n0_ := Aside0.mk (blk_below (g := gb126) (o := .cells #[.int .i64 x127000_1] 25 (0, 0)) (by (with_reducible repeat (first | refine blk_drewN ?_ _ | refine blk_drew ?_ | refine blk_alloc ?_ _)); exact BK126.out) hb)
                      have n1_ := Aside0.mk (blk_below (g := gb128) (o := .cells #[.int .i64 ((rd_T27 l0 x6_1).f0), .int .i64 ((rd_T27 l0 x6_1).f1)] 27 (0, 0)) (by (with_reducible repeat (first | refine blk_drewN ?_ _ | refine blk_drew ?_ | refine blk_alloc ?_ _)); exact BK128.out) hb)
                      have n2_ := Aside0.mk (below_step (by repeat (first | (with_reducible first | exact HB.out | apply below_alloc | apply pw_below_drewN | apply below_drew1 | refine below_set ?_ GE126.out | refine below_set ?_ GE128.out) | exact HB.out)) hb)
                      clear BK126
                      clear BK128
                      clear HB
                      have BK126 := n0_
                      have BK128 := n1_
                      have HB := n2_
                      clear n0_ n1_ n2_
                      (try clear hb)
                      (try clear hb2)
                      (try clear hk)
                      (try clear hi)
                      refine hK.out _ _ ⟨(blk_cell BK126.out 0).trans rfl, (blk_cell BK128.out 0).trans rfl, (blk_cell BK128.out 1).trans rfl⟩ (fun hHeld => ?_)
                      clear hK K
                      refine norm_ (a' := ?_) ?_ ?_
                      rotate_left
                      · show Act.put _ (some 36) _ = _
                        simp only [Act.put, List.setIfInBounds_toArray, List.set_cons_zero, List.set_cons_succ, i64_w, i32_w]
                        rfl
                      refine one_ (i := 7) (N := some 40) #[true, true, true, true, true, true, true, true, false] rfl rfl (one_of HT_.out (by kernel_rfl)) (by decide) (fun K hK => ?_)
                      refine goes_ Try.func8 (by kernel_rfl) rfl #[.int .i64 x5_1, .int .i64 ((rd_T27 l0 x6_1).f1)] (by rfl) rfl rfl (by (try simp only [List.map_toArray, List.map_cons, List.map_nil]); first | done | rfl | (simp only [List.length_drop, List.length_take]; rfl)) ?_
                      with_reducible refine (tollbarref29_May.calls x5_1 ((rd_T27 l0 x6_1).f1) t130 _ A12.out).mono ?_
                      rintro e w' ⟨rfl, ⟨nd, rfl⟩⟩
                      refine ⟨_, rfl, ?_⟩
                      refine hK.out _ _ ⟨(blk_cell BK126.out 0).trans rfl, (blk_cell BK128.out 0).trans rfl, (blk_cell BK128.out 1).trans rfl⟩ (fun hHeld => ?_)
                      clear hK K
                      refine norm_ (a' := ?_) ?_ ?_
                      rotate_left
                      · show Act.put _ (some 40) _ = _
                        simp only [Act.put, List.setIfInBounds_toArray, List.set_cons_zero, List.set_cons_succ, i64_w, i32_w]
                        rfl
                      refine pure_ (i := 8) (N := some 41) (v := ?_) (a' := ?_) #[true, true, true, true, true, true, true, true, true] rfl rfl (any_of HT_.out (by kernel_rfl)) (fun _ _ _ h => h) (Or.inl ⟨by rfl, ?_⟩) ?_ ?_
                      rotate_left
                      · intro w'
                        go_simp
                        with_reducible rfl
                      rotate_left
                      · simp only [Act.put, List.setIfInBounds_toArray, List.set_cons_zero, List.set_cons_succ, i64_w, i32_w]
                        rfl
                      refine done_ (done_of HT_.out (by kernel_rfl)) ?_
                      have hcz104_0 : w103.cell? ⟨gb128, 0, none⟩ = some (.int .i64 ((rd_T27 l0 x6_1).f0)) := (blk_cell BK128.out 0).trans rfl
                      have hcz104_1 : w103.cell? ⟨gb128, 1, none⟩ = some (.int .i64 ((rd_T27 l0 x6_1).f1)) := (blk_cell BK128.out 1).trans rfl
                      have hfz104_0 := blk_frozen BK128.out 0
                      have hfz104_1 := blk_frozen BK128.out 1
                      have hcz105_0 : w103.cell? ⟨gb126, 0, none⟩ = some (.int .i64 x127000_1) := (blk_cell BK126.out 0).trans rfl
                      have hfz105_0 := blk_frozen BK126.out 0
                      try go_wp2_with (first | ((with_reducible refine gate_callee (f := 11) rfl ?_); refine goesL_ (some 71) rfl rfl Try.func11 (by kernel_rfl) rfl #[.agg #[.int .i64 x127000_1], .int .i64 ((rd_T27 l0 x6_1).f1)] rfl (by (try simp only [List.map_toArray, List.map_cons, List.map_nil]); first | done | rfl | (simp only [List.length_drop, List.length_take]; rfl)) ?_; (with_reducible refine (hold_Hold_Give.calls k1 x127000_1 ((rd_T27 l0 x6_1).f1) t136 t137 _ A64.out).mono ?_); rintro e w106 ⟨rfl, hb⟩; refine ⟨_, rfl, ?_⟩; have n0_ := Aside0.mk (blk_below (g := gb126) (o := .cells #[.int .i64 x127000_1] 25 (0, 0)) (by (with_reducible repeat (first | refine blk_drewN ?_ _ | refine blk_drew ?_ | refine blk_alloc ?_ _)); exact BK126.out) hb); have n1_ := Aside0.mk (blk_below (g := gb128) (o := .cells #[.int .i64 ((rd_T27 l0 x6_1).f0), .int .i64 ((rd_T27 l0 x6_1).f1)] 27 (0, 0)) (by (with_reducible repeat (first | refine blk_drewN ?_ _ | refine blk_drew ?_ | refine blk_alloc ?_ _)); exact BK128.out) hb); have n2_ := Aside0.mk (below_step (by repeat (first | (with_reducible first | exact HB.out | apply below_alloc | apply pw_below_drewN | apply below_drew1 | refine below_set ?_ GE126.out | refine below_set ?_ GE128.out) | exact HB.out)) hb); clear BK126; clear BK128; clear HB; have BK126 := n0_; have BK128 := n1_; have HB := n2_; clear n0_ n1_ n2_; (try clear hb); (try clear hb2); (try clear hk); (try clear hi)) | ((with_reducible refine gate_dst (N := 12) rfl ?_); refine box_event ?hg (N := 12) ?hd (cs := #[.int .i64 0]) (t := 25) ?hr ?_; (case hd => rfl); (case hg => rfl); (case hr => first | (go_simp; done) | (go_simp; rfl)); intro gb138 hg w107 hbox hb; have n0_ := Aside0.mk (blk_below (g := gb126) (o := .cells #[.int .i64 x127000_1] 25 (0, 0)) (by (with_reducible repeat (first | refine blk_drewN ?_ _ | refine blk_drew ?_ | refine blk_alloc ?_ _)); exact BK126.out) hb); have n1_ := Aside0.mk (blk_below (g := gb128) (o := .cells #[.int .i64 ((rd_T27 l0 x6_1).f0), .int .i64 ((rd_T27 l0 x6_1).f1)] 27 (0, 0)) (by (with_reducible repeat (first | refine blk_drewN ?_ _ | refine blk_drew ?_ | refine blk_alloc ?_ _)); exact BK128.out) hb); have n2_ := Aside0.mk (below_step (by repeat (first | (with_reducible first | exact HB.out | apply below_alloc | apply pw_below_drewN | apply below_drew1 | refine below_set ?_ GE126.out | refine below_set ?_ GE128.out) | exact HB.out)) hb); have n3_ := Aside0.mk (hbox); have n4_ := Aside0.mk ((by rw [hg]; exact (below_size (by repeat (first | (with_reducible first | exact HB.out | apply below_alloc | apply pw_below_drewN | apply below_drew1 | refine below_set ?_ GE126.out | refine below_set ?_ GE128.out) | exact HB.out))) : w.heap.size ≤ gb138)); have n5_ := Aside0.mk ((by rw [hg]; exact (below_size (by repeat (first | (with_reducible first | exact HB.out | apply below_alloc | apply pw_below_drewN | apply below_drew1 | refine below_set ?_ GE126.out | refine below_set ?_ GE128.out) | exact HB.out))) : w.heap.size ≤ gb138)); have n6_ := Aside0.mk ((by rw [hg]; exact Nat.ne_of_lt (blk_lt (g := gb126) (o := .cells #[.int .i64 x127000_1] 25 (0, 0)) (by (with_reducible repeat (first | refine blk_drewN ?_ _ | refine blk_drew ?_ | refine blk_alloc ?_ _)); exact BK126.out)) : gb126 ≠ gb138)); have n7_ := Aside0.mk ((by rw [hg]; exact Nat.ne_of_gt (blk_lt (g := gb126) (o := .cells #[.int .i64 x127000_1] 25 (0, 0)) (by (with_reducible repeat (first | refine blk_drewN ?_ _ | refine blk_drew ?_ | refine blk_alloc ?_ _)); exact BK126.out)) : gb138 ≠ gb126)); have n8_ := Aside0.mk ((by rw [hg]; exact Nat.ne_of_lt (blk_lt (g := gb128) (o := .cells #[.int .i64 ((rd_T27 l0 x6_1).f0), .int .i64 ((rd_T27 l0 x6_1).f1)] 27 (0, 0)) (by (with_reducible repeat (first | refine blk_drewN ?_ _ | refine blk_drew ?_ | refine blk_alloc ?_ _)); exact BK128.out)) : gb128 ≠ gb138)); have n9_ := Aside0.mk ((by rw [hg]; exact Nat.ne_of_gt (blk_lt (g := gb128) (o := .cells #[.int .i64 ((rd_T27 l0 x6_1).f0), .int .i64 ((rd_T27 l0 x6_1).f1)] 27 (0, 0)) (by (with_reducible repeat (first | refine blk_drewN ?_ _ | refine blk_drew ?_ | refine blk_alloc ?_ _)); exact BK128.out)) : gb138 ≠ gb128)); clear BK126; clear BK128; clear HB; have BK126 := n0_; have BK128 := n1_; have HB := n2_; have BK138 := n3_; have GW138 := n4_; have GE138 := n5_; have NB126_138 := n6_; have NB138_126 := n7_; have NB128_138 := n8_; have NB138_128 := n9_; clear n0_ n1_ n2_ n3_ n4_ n5_ n6_ n7_ n8_ n9_; clear hb hbox hg; have hnb108 := NB138_126.out; have hnc108 := NB126_138.out; have hnb109 := NB138_128.out; have hnc109 := NB128_138.out; have hcz110_0 : w107.cell? ⟨gb138, 0, none⟩ = some (.int .i64 0) := (blk_cell BK138.out 0).trans rfl; have hfz110_0 := blk_frozen BK138.out 0; have hcz111_0 : w107.cell? ⟨gb128, 0, none⟩ = some (.int .i64 ((rd_T27 l0 x6_1).f0)) := (blk_cell BK128.out 0).trans rfl; have hcz111_1 : w107.cell? ⟨gb128, 1, none⟩ = some (.int .i64 ((rd_T27 l0 x6_1).f1)) := (blk_cell BK128.out 1).trans rfl; have hfz111_0 := blk_frozen BK128.out 0; have hfz111_1 := blk_frozen BK128.out 1) | ((with_reducible refine gate_callee (f := 12) rfl ?_); refine goesL_ (some 78) rfl rfl Try.func12 (by kernel_rfl) rfl #[.int .i64 x5_1, .int .i64 ((rd_T27 l0 x6_1).f1)] rfl (by (try simp only [List.map_toArray, List.map_cons, List.map_nil]); first | done | rfl | (simp only [List.length_drop, List.length_take]; rfl)) ?_; (with_reducible refine (tollbarref29_Give.calls k1 x5_1 ((rd_T27 l0 x6_1).f1) t139 t140 _ A65.out).mono ?_); rintro e w' ⟨rfl, ⟨nd, rfl⟩⟩; refine ⟨_, rfl, ?_⟩))
                      go_ret
                      exact ⟨by first | rfl | (simp [errW_none, errW_some] <;> rfl) | (simp [*, errW_none, errW_some] <;> rfl), by repeat (first | (with_reducible first | exact HB.out | apply below_alloc | apply pw_below_drewN | apply below_drew1 | refine below_set ?_ GE126.out | refine below_set ?_ GE128.out | refine below_set ?_ GE138.out) | exact HB.out)⟩
                  · rw [if_neg c63] at H
                    have c63b0 : (((rd_T27 l0 x6_1).f0) == 1) = false := beq_eq_false_iff_ne.mpr c63
                    have c63b1 : (((rd_T27 l0 x6_1).f0) != 1) = true := bne_iff_ne.mpr c63
                    by_cases c112 : x127000_1 = x5_1
                    · rw [if_pos c112] at H
                      have c112b0 : (x127000_1 == x5_1) = true := beq_iff_eq.mpr c112
                      have c112b1 : (x127000_1 != x5_1) = false := bne_eq_false_iff_eq.mpr c112
                      clear c112
                      have H' := Aside0.mk H
                      clear H
                      have p127 : 0 ≤ (x6_1 : Int) := of_decide_eq_true (by first | (with_reducible assumption) | assumption)
                      have q127 : x6_1 < (l0.length : Int) := of_decide_eq_true (by first | (with_reducible assumption) | assumption)
                      obtain ⟨ad127, e127, hx127_0, hx127_1⟩ := at_T27 HR0.out x6_1 p127 q127
                      cases e127
                      replace hx127_0 := (HB.out.cell (World.block_lt_of_cell? w _ hx127_0)).trans hx127_0
                      replace hx127_1 := (HB.out.cell (World.block_lt_of_cell? w _ hx127_1)).trans hx127_1
                      replace p127 := eq_true p127
                      replace q127 := eq_true q127
                      try go_wp2_with (first | ((with_reducible refine gate_dst (N := 7) rfl ?_); refine box_event ?hg (N := 7) ?hd (cs := #[.int .i64 0, .int .i64 0]) (t := 27) ?hr ?_; (case hd => rfl); (case hg => rfl); (case hr => first | (go_simp; done) | (go_simp; rfl)); intro gb128 hg w113 hbox hb; have n0_ := Aside0.mk (blk_below (g := gb126) (o := .cells #[.int .i64 x127000_1] 25 (0, 0)) (by (with_reducible repeat (first | refine blk_drewN ?_ _ | refine blk_drew ?_ | refine blk_alloc ?_ _)); exact BK126.out) hb); have n1_ := Aside0.mk (below_step (by repeat (first | (with_reducible first | exact HB.out | apply below_alloc | apply pw_below_drewN | apply below_drew1 | refine below_set ?_ GE126.out) | exact HB.out)) hb); have n2_ := Aside0.mk (hbox); have n3_ := Aside0.mk ((by rw [hg]; exact (below_size (by repeat (first | (with_reducible first | exact HB.out | apply below_alloc | apply pw_below_drewN | apply below_drew1 | refine below_set ?_ GE126.out) | exact HB.out))) : w.heap.size ≤ gb128)); have n4_ := Aside0.mk ((by rw [hg]; exact (below_size (by repeat (first | (with_reducible first | exact HB.out | apply below_alloc | apply pw_below_drewN | apply below_drew1 | refine below_set ?_ GE126.out) | exact HB.out))) : w.heap.size ≤ gb128)); have n5_ := Aside0.mk ((by rw [hg]; exact Nat.ne_of_lt (blk_lt (g := gb126) (o := .cells #[.int .i64 x127000_1] 25 (0, 0)) (by (with_reducible repeat (first | refine blk_drewN ?_ _ | refine blk_drew ?_ | refine blk_alloc ?_ _)); exact BK126.out)) : gb126 ≠ gb128)); have n6_ := Aside0.mk ((by rw [hg]; exact Nat.ne_of_gt (blk_lt (g := gb126) (o := .cells #[.int .i64 x127000_1] 25 (0, 0)) (by (with_reducible repeat (first | refine blk_drewN ?_ _ | refine blk_drew ?_ | refine blk_alloc ?_ _)); exact BK126.out)) : gb128 ≠ gb126)); clear BK126; clear HB; have BK126 := n0_; have HB := n1_; have BK128 := n2_; have GW128 := n3_; have GE128 := n4_; have NB126_128 := n5_; have NB128_126 := n6_; clear n0_ n1_ n2_ n3_ n4_ n5_ n6_; clear hb hbox hg; have hnb114 := NB128_126.out; have hnc114 := NB126_128.out; have hcz115_0 : w113.cell? ⟨gb128, 0, none⟩ = some (.int .i64 0) := (blk_cell BK128.out 0).trans rfl; have hcz115_1 : w113.cell? ⟨gb128, 1, none⟩ = some (.int .i64 0) := (blk_cell BK128.out 1).trans rfl; have hfz115_0 := blk_frozen BK128.out 0; have hfz115_1 := blk_frozen BK128.out 1))
                      have n0_ : Aside0 (((w113.setCell ⟨gb128, 0, none⟩ (.int .i64 ((rd_T27 l0 x6_1).f0))).setCell ⟨gb128, 1, none⟩ (.int .i64 ((rd_T27 l0 x6_1).f1))).heap[gb126]? = some (.cells #[.int .i64 x127000_1] 25 (0, 0))) := ⟨by (with_reducible repeat (first | refine blk_drewN ?_ _ | refine blk_drew ?_ | refine blk_alloc ?_ _)); refine blk_far ?_ NB126_128.out _; (with_reducible repeat (first | refine blk_drewN ?_ _ | refine blk_drew ?_ | refine blk_alloc ?_ _)); refine blk_far ?_ NB126_128.out _; (with_reducible repeat (first | refine blk_drewN ?_ _ | refine blk_drew ?_ | refine blk_alloc ?_ _)); exact BK126.out⟩
                      have n1_ : Aside0 (((w113.setCell ⟨gb128, 0, none⟩ (.int .i64 ((rd_T27 l0 x6_1).f0))).setCell ⟨gb128, 1, none⟩ (.int .i64 ((rd_T27 l0 x6_1).f1))).heap[gb128]? = some (.cells #[.int .i64 ((rd_T27 l0 x6_1).f0), .int .i64 ((rd_T27 l0 x6_1).f1)] 27 (0, 0))) := ⟨by (with_reducible repeat (first | refine blk_drewN ?_ _ | refine blk_drew ?_ | refine blk_alloc ?_ _)); refine blk_put (cs := #[.int .i64 ((rd_T27 l0 x6_1).f0), .int .i64 0]) ?_ 1 _ rfl; (with_reducible repeat (first | refine blk_drewN ?_ _ | refine blk_drew ?_ | refine blk_alloc ?_ _)); refine blk_put (cs := #[.int .i64 0, .int .i64 0]) ?_ 0 _ rfl; (with_reducible repeat (first | refine blk_drewN ?_ _ | refine blk_drew ?_ | refine blk_alloc ?_ _)); exact BK128.out⟩
                      have n2_ : Aside0 (Below w.heap.size w ((w113.setCell ⟨gb128, 0, none⟩ (.int .i64 ((rd_T27 l0 x6_1).f0))).setCell ⟨gb128, 1, none⟩ (.int .i64 ((rd_T27 l0 x6_1).f1)))) := ⟨by repeat (first | (with_reducible first | exact HB.out | apply below_alloc | apply pw_below_drewN | apply below_drew1 | refine below_set ?_ GE126.out | refine below_set ?_ GE128.out) | exact HB.out)⟩
                      (try clear BK126)
                      (try clear BK128)
                      (try clear HB)
                      generalize ((w113.setCell ⟨gb128, 0, none⟩ (.int .i64 ((rd_T27 l0 x6_1).f0))).setCell ⟨gb128, 1, none⟩ (.int .i64 ((rd_T27 l0 x6_1).f1))) = w116 at n0_ n1_ n2_ ⊢
                      have BK126 := n0_
                      have BK128 := n1_
                      have HB := n2_
                      clear n0_ n1_ n2_
                      have n0_ := Aside0.mk (blk_drew BK126.out)
                      have n1_ := Aside0.mk (blk_drew BK128.out)
                      have n2_ := Aside0.mk (below_drew1 HB.out)
                      clear BK126
                      clear BK128
                      clear HB
                      have BK126 := n0_
                      have BK128 := n1_
                      have HB := n2_
                      clear n0_ n1_ n2_
                      refine start_ (n := 9) (S := fun w' => w'.cell? ⟨gb126, 0, none⟩ = some (.int .i64 x127000_1) ∧ w'.cell? ⟨gb128, 0, none⟩ = some (.int .i64 ((rd_T27 l0 x6_1).f0)) ∧ w'.cell? ⟨gb128, 1, none⟩ = some (.int .i64 ((rd_T27 l0 x6_1).f1))) (ds := []) #[false, false, false, false, false, false, false, false, false] (by kernel_rfl) rfl rfl ⟨(blk_cell BK126.out 0).trans rfl, (blk_cell BK128.out 0).trans rfl, (blk_cell BK128.out 1).trans rfl⟩ (fun hHeld => ?_); refine with_tabW tollbarlaw29_HoldDoes.tab12 tollbarlaw29_HoldDoes.bits12 (fun HT_ HW_ => ?_)
                      generalize w116.drew = w117 at BK126 BK128 HB hHeld ⊢
                      refine pure_ (i := 1) (N := some 34) (v := ?_) (a' := ?_) #[false, true, false, false, false, false, false, false, false] rfl rfl (any_of HT_.out (by kernel_rfl)) (fun _ _ _ h => h) (Or.inl ⟨by rfl, ?_⟩) ?_ ?_
                      rotate_left
                      · intro w'
                        go_simp
                        with_reducible rfl
                      rotate_left
                      · simp only [Act.put, List.setIfInBounds_toArray, List.set_cons_zero, List.set_cons_succ, i64_w, i32_w]
                        rfl
                      refine pure_ (i := 4) (N := some 37) (v := ?_) (a' := ?_) #[false, true, false, false, true, false, false, false, false] rfl rfl (any_of HT_.out (by kernel_rfl)) (fun _ _ _ h => h) (Or.inl ⟨by rfl, ?_⟩) ?_ ?_
                      rotate_left
                      · intro w'
                        go_simp
                        with_reducible rfl
                      rotate_left
                      · simp only [Act.put, List.setIfInBounds_toArray, List.set_cons_zero, List.set_cons_succ, i64_w, i32_w]
                        rfl
                      refine pure_ (i := 5) (N := some 38) (v := ?_) (a' := ?_) #[false, true, false, false, true, true, false, false, false] rfl rfl (any_of HT_.out (by kernel_rfl)) (fun _ _ _ h => h) (Or.inl ⟨by rfl, ?_⟩) ?_ ?_
                      rotate_left
                      · intro w'
                        go_simp
                        with_reducible rfl
                      rotate_left
                      · simp only [Act.put, List.setIfInBounds_toArray, List.set_cons_zero, List.set_cons_succ, i64_w, i32_w]
                        rfl
                      refine take_ (i := 0) (N := some 33) (v := ?_) (a' := ?_) #[true, true, false, false, true, true, false, false, false] rfl rfl (take_ofW HT_.out HW_.out (by kernel_rfl)) (fun _ _ _ h => h) (Or.inl ⟨by rfl, ?_⟩) hHeld ?_ ?_
                      rotate_left
                      · rintro w' ⟨s0, s1, s2⟩
                        go_simp
                        with_reducible rfl
                      rotate_left
                      · simp only [Act.put, List.setIfInBounds_toArray, List.set_cons_zero, List.set_cons_succ, i64_w, i32_w]
                        rfl
                      refine take_ (i := 2) (N := some 35) (v := ?_) (a' := ?_) #[true, true, true, false, true, true, false, false, false] rfl rfl (take_ofW HT_.out HW_.out (by kernel_rfl)) (fun _ _ _ h => h) (Or.inl ⟨by rfl, ?_⟩) hHeld ?_ ?_
                      rotate_left
                      · rintro w' ⟨s0, s1, s2⟩
                        go_simp
                        with_reducible rfl
                      rotate_left
                      · simp only [Act.put, List.setIfInBounds_toArray, List.set_cons_zero, List.set_cons_succ, i64_w, i32_w]
                        rfl
                      refine take_ (i := 6) (N := some 39) (v := ?_) (a' := ?_) #[true, true, true, false, true, true, true, false, false] rfl rfl (take_ofW HT_.out HW_.out (by kernel_rfl)) (fun _ _ _ h => h) (Or.inl ⟨by rfl, ?_⟩) hHeld ?_ ?_
                      rotate_left
                      · rintro w' ⟨s0, s1, s2⟩
                        go_simp
                        with_reducible rfl
                      rotate_left
                      · simp only [Act.put, List.setIfInBounds_toArray, List.set_cons_zero, List.set_cons_succ, i64_w, i32_w]
                        rfl
                      refine one_ (i := 3) (N := some 36) #[true, true, true, true, true, true, true, false, false] rfl rfl (one_of HT_.out (by kernel_rfl)) (by decide) (fun K hK => ?_)
                      refine goes_ Try.func7 (by kernel_rfl) rfl #[.agg #[.int .i64 x127000_1], .int .i64 ((rd_T27 l0 x6_1).f1)] (by rfl) rfl rfl (by (try simp only [List.map_toArray, List.map_cons, List.map_nil]); first | done | rfl | (simp only [List.length_drop, List.length_take]; rfl)) ?_
                      with_reducible refine (hold_Hold_May.calls x127000_1 ((rd_T27 l0 x6_1).f1) t129 _ A11.out).mono ?_
                      rintro e w118 ⟨rfl, hb⟩
                      refine ⟨_, rfl, ?_⟩
                      have n0_ := Aside0.mk (blk_below (g := gb126) (o := .cells #[.int .i64 x127000_1] 25 (0, 0)) (by (with_reducible repeat (first | refine blk_drewN ?_ _ | refine blk_drew ?_ | refine blk_alloc ?_ _)); exact BK126.out) hb)
                      have n1_ := Aside0.mk (blk_below (g := gb128) (o := .cells #[.int .i64 ((rd_T27 l0 x6_1).f0), .int .i64 ((rd_T27 l0 x6_1).f1)] 27 (0, 0)) (by (with_reducible repeat (first | refine blk_drewN ?_ _ | refine blk_drew ?_ | refine blk_alloc ?_ _)); exact BK128.out) hb)
                      have n2_ := Aside0.mk (below_step (by repeat (first | (with_reducible first | exact HB.out | apply below_alloc | apply pw_below_drewN | apply below_drew1 | refine below_set ?_ GE126.out | refine below_set ?_ GE128.out) | exact HB.out)) hb)
                      clear BK126
                      clear BK128
                      clear HB
                      have BK126 := n0_
                      have BK128 := n1_
                      have HB := n2_
                      clear n0_ n1_ n2_
                      (try clear hb)
                      (try clear hb2)
                      (try clear hk)
                      (try clear hi)
                      refine hK.out _ _ ⟨(blk_cell BK126.out 0).trans rfl, (blk_cell BK128.out 0).trans rfl, (blk_cell BK128.out 1).trans rfl⟩ (fun hHeld => ?_)
                      clear hK K
                      refine norm_ (a' := ?_) ?_ ?_
                      rotate_left
                      · show Act.put _ (some 36) _ = _
                        simp only [Act.put, List.setIfInBounds_toArray, List.set_cons_zero, List.set_cons_succ, i64_w, i32_w]
                        rfl
                      refine one_ (i := 7) (N := some 40) #[true, true, true, true, true, true, true, true, false] rfl rfl (one_of HT_.out (by kernel_rfl)) (by decide) (fun K hK => ?_)
                      refine goes_ Try.func8 (by kernel_rfl) rfl #[.int .i64 x5_1, .int .i64 ((rd_T27 l0 x6_1).f1)] (by rfl) rfl rfl (by (try simp only [List.map_toArray, List.map_cons, List.map_nil]); first | done | rfl | (simp only [List.length_drop, List.length_take]; rfl)) ?_
                      with_reducible refine (tollbarref29_May.calls x5_1 ((rd_T27 l0 x6_1).f1) t130 _ A12.out).mono ?_
                      rintro e w' ⟨rfl, ⟨nd, rfl⟩⟩
                      refine ⟨_, rfl, ?_⟩
                      refine hK.out _ _ ⟨(blk_cell BK126.out 0).trans rfl, (blk_cell BK128.out 0).trans rfl, (blk_cell BK128.out 1).trans rfl⟩ (fun hHeld => ?_)
                      clear hK K
                      refine norm_ (a' := ?_) ?_ ?_
                      rotate_left
                      · show Act.put _ (some 40) _ = _
                        simp only [Act.put, List.setIfInBounds_toArray, List.set_cons_zero, List.set_cons_succ, i64_w, i32_w]
                        rfl
                      refine pure_ (i := 8) (N := some 41) (v := ?_) (a' := ?_) #[true, true, true, true, true, true, true, true, true] rfl rfl (any_of HT_.out (by kernel_rfl)) (fun _ _ _ h => h) (Or.inl ⟨by rfl, ?_⟩) ?_ ?_
                      rotate_left
                      · intro w'
                        go_simp
                        with_reducible rfl
                      rotate_left
                      · simp only [Act.put, List.setIfInBounds_toArray, List.set_cons_zero, List.set_cons_succ, i64_w, i32_w]
                        rfl
                      refine done_ (done_of HT_.out (by kernel_rfl)) ?_
                      have hcz119_0 : w118.cell? ⟨gb128, 0, none⟩ = some (.int .i64 ((rd_T27 l0 x6_1).f0)) := (blk_cell BK128.out 0).trans rfl
                      have hcz119_1 : w118.cell? ⟨gb128, 1, none⟩ = some (.int .i64 ((rd_T27 l0 x6_1).f1)) := (blk_cell BK128.out 1).trans rfl
                      have hfz119_0 := blk_frozen BK128.out 0
                      have hfz119_1 := blk_frozen BK128.out 1
                      have hcz120_0 : w118.cell? ⟨gb126, 0, none⟩ = some (.int .i64 x127000_1) := (blk_cell BK126.out 0).trans rfl
                      have hfz120_0 := blk_frozen BK126.out 0
                      try go_wp2
                      go_roundg k1
                      case measure => have := HK1.out; omega
                      case rel => exact ⟨(x5_1), (wrap64 (x6_1 + 1)), (x127000_1), (by first | rfl | (simp; done) | (simp [*]; done)), (by first | rfl | (simp; done) | (simp [*]; done)), H', ⟨by have := HK1.out; omega⟩, ⟨by (with_reducible repeat (first | refine blk_drewN ?_ _ | refine blk_drew ?_ | refine blk_alloc ?_ _)); exact BK126.out⟩, ⟨by repeat (first | (with_reducible first | exact HB.out | apply below_alloc | apply pw_below_drewN | apply below_drew1 | refine below_set ?_ GE126.out | refine below_set ?_ GE128.out) | exact HB.out)⟩⟩
                    · rw [if_neg c112] at H
                      have c112b0 : (x127000_1 == x5_1) = false := beq_eq_false_iff_ne.mpr c112
                      have c112b1 : (x127000_1 != x5_1) = true := bne_iff_ne.mpr c112
                      obtain rfl := Option.some.inj H
                      have p127 : 0 ≤ (x6_1 : Int) := of_decide_eq_true (by first | (with_reducible assumption) | assumption)
                      have q127 : x6_1 < (l0.length : Int) := of_decide_eq_true (by first | (with_reducible assumption) | assumption)
                      obtain ⟨ad127, e127, hx127_0, hx127_1⟩ := at_T27 HR0.out x6_1 p127 q127
                      cases e127
                      replace hx127_0 := (HB.out.cell (World.block_lt_of_cell? w _ hx127_0)).trans hx127_0
                      replace hx127_1 := (HB.out.cell (World.block_lt_of_cell? w _ hx127_1)).trans hx127_1
                      replace p127 := eq_true p127
                      replace q127 := eq_true q127
                      try go_wp2_with (first | ((with_reducible refine gate_dst (N := 7) rfl ?_); refine box_event ?hg (N := 7) ?hd (cs := #[.int .i64 0, .int .i64 0]) (t := 27) ?hr ?_; (case hd => rfl); (case hg => rfl); (case hr => first | (go_simp; done) | (go_simp; rfl)); intro gb128 hg w121 hbox hb; have n0_ := Aside0.mk (blk_below (g := gb126) (o := .cells #[.int .i64 x127000_1] 25 (0, 0)) (by (with_reducible repeat (first | refine blk_drewN ?_ _ | refine blk_drew ?_ | refine blk_alloc ?_ _)); exact BK126.out) hb); have n1_ := Aside0.mk (below_step (by repeat (first | (with_reducible first | exact HB.out | apply below_alloc | apply pw_below_drewN | apply below_drew1 | refine below_set ?_ GE126.out) | exact HB.out)) hb); have n2_ := Aside0.mk (hbox); have n3_ := Aside0.mk ((by rw [hg]; exact (below_size (by repeat (first | (with_reducible first | exact HB.out | apply below_alloc | apply pw_below_drewN | apply below_drew1 | refine below_set ?_ GE126.out) | exact HB.out))) : w.heap.size ≤ gb128)); have n4_ := Aside0.mk ((by rw [hg]; exact (below_size (by repeat (first | (with_reducible first | exact HB.out | apply below_alloc | apply pw_below_drewN | apply below_drew1 | refine below_set ?_ GE126.out) | exact HB.out))) : w.heap.size ≤ gb128)); have n5_ := Aside0.mk ((by rw [hg]; exact Nat.ne_of_lt (blk_lt (g := gb126) (o := .cells #[.int .i64 x127000_1] 25 (0, 0)) (by (with_reducible repeat (first | refine blk_drewN ?_ _ | refine blk_drew ?_ | refine blk_alloc ?_ _)); exact BK126.out)) : gb126 ≠ gb128)); have n6_ := Aside0.mk ((by rw [hg]; exact Nat.ne_of_gt (blk_lt (g := gb126) (o := .cells #[.int .i64 x127000_1] 25 (0, 0)) (by (with_reducible repeat (first | refine blk_drewN ?_ _ | refine blk_drew ?_ | refine blk_alloc ?_ _)); exact BK126.out)) : gb128 ≠ gb126)); clear BK126; clear HB; have BK126 := n0_; have HB := n1_; have BK128 := n2_; have GW128 := n3_; have GE128 := n4_; have NB126_128 := n5_; have NB128_126 := n6_; clear n0_ n1_ n2_ n3_ n4_ n5_ n6_; clear hb hbox hg; have hnb122 := NB128_126.out; have hnc122 := NB126_128.out; have hcz123_0 : w121.cell? ⟨gb128, 0, none⟩ = some (.int .i64 0) := (blk_cell BK128.out 0).trans rfl; have hcz123_1 : w121.cell? ⟨gb128, 1, none⟩ = some (.int .i64 0) := (blk_cell BK128.out 1).trans rfl; have hfz123_0 := blk_frozen BK128.out 0; have hfz123_1 := blk_frozen BK128.out 1))
                      have n0_ : Aside0 (((w121.setCell ⟨gb128, 0, none⟩ (.int .i64 ((rd_T27 l0 x6_1).f0))).setCell ⟨gb128, 1, none⟩ (.int .i64 ((rd_T27 l0 x6_1).f1))).heap[gb126]? = some (.cells #[.int .i64 x127000_1] 25 (0, 0))) := ⟨by (with_reducible repeat (first | refine blk_drewN ?_ _ | refine blk_drew ?_ | refine blk_alloc ?_ _)); refine blk_far ?_ NB126_128.out _; (with_reducible repeat (first | refine blk_drewN ?_ _ | refine blk_drew ?_ | refine blk_alloc ?_ _)); refine blk_far ?_ NB126_128.out _; (with_reducible repeat (first | refine blk_drewN ?_ _ | refine blk_drew ?_ | refine blk_alloc ?_ _)); exact BK126.out⟩
                      have n1_ : Aside0 (((w121.setCell ⟨gb128, 0, none⟩ (.int .i64 ((rd_T27 l0 x6_1).f0))).setCell ⟨gb128, 1, none⟩ (.int .i64 ((rd_T27 l0 x6_1).f1))).heap[gb128]? = some (.cells #[.int .i64 ((rd_T27 l0 x6_1).f0), .int .i64 ((rd_T27 l0 x6_1).f1)] 27 (0, 0))) := ⟨by (with_reducible repeat (first | refine blk_drewN ?_ _ | refine blk_drew ?_ | refine blk_alloc ?_ _)); refine blk_put (cs := #[.int .i64 ((rd_T27 l0 x6_1).f0), .int .i64 0]) ?_ 1 _ rfl; (with_reducible repeat (first | refine blk_drewN ?_ _ | refine blk_drew ?_ | refine blk_alloc ?_ _)); refine blk_put (cs := #[.int .i64 0, .int .i64 0]) ?_ 0 _ rfl; (with_reducible repeat (first | refine blk_drewN ?_ _ | refine blk_drew ?_ | refine blk_alloc ?_ _)); exact BK128.out⟩
                      have n2_ : Aside0 (Below w.heap.size w ((w121.setCell ⟨gb128, 0, none⟩ (.int .i64 ((rd_T27 l0 x6_1).f0))).setCell ⟨gb128, 1, none⟩ (.int .i64 ((rd_T27 l0 x6_1).f1)))) := ⟨by repeat (first | (with_reducible first | exact HB.out | apply below_alloc | apply pw_below_drewN | apply below_drew1 | refine below_set ?_ GE126.out | refine below_set ?_ GE128.out) | exact HB.out)⟩
                      (try clear BK126)
                      (try clear BK128)
                      (try clear HB)
                      generalize ((w121.setCell ⟨gb128, 0, none⟩ (.int .i64 ((rd_T27 l0 x6_1).f0))).setCell ⟨gb128, 1, none⟩ (.int .i64 ((rd_T27 l0 x6_1).f1))) = w124 at n0_ n1_ n2_ ⊢
                      have BK126 := n0_
                      have BK128 := n1_
                      have HB := n2_
                      clear n0_ n1_ n2_
                      have n0_ := Aside0.mk (blk_drew BK126.out)
                      have n1_ := Aside0.mk (blk_drew BK128.out)
                      have n2_ := Aside0.mk (below_drew1 HB.out)
                      clear BK126
                      clear BK128
                      clear HB
                      have BK126 := n0_
                      have BK128 := n1_
                      have HB := n2_
                      clear n0_ n1_ n2_
                      refine start_ (n := 9) (S := fun w' => w'.cell? ⟨gb126, 0, none⟩ = some (.int .i64 x127000_1) ∧ w'.cell? ⟨gb128, 0, none⟩ = some (.int .i64 ((rd_T27 l0 x6_1).f0)) ∧ w'.cell? ⟨gb128, 1, none⟩ = some (.int .i64 ((rd_T27 l0 x6_1).f1))) (ds := []) #[false, false, false, false, false, false, false, false, false] (by kernel_rfl) rfl rfl ⟨(blk_cell BK126.out 0).trans rfl, (blk_cell BK128.out 0).trans rfl, (blk_cell BK128.out 1).trans rfl⟩ (fun hHeld => ?_); refine with_tabW tollbarlaw29_HoldDoes.tab12 tollbarlaw29_HoldDoes.bits12 (fun HT_ HW_ => ?_)
                      generalize w124.drew = w125 at BK126 BK128 HB hHeld ⊢
                      refine pure_ (i := 1) (N := some 34) (v := ?_) (a' := ?_) #[false, true, false, false, false, false, false, false, false] rfl rfl (any_of HT_.out (by kernel_rfl)) (fun _ _ _ h => h) (Or.inl ⟨by rfl, ?_⟩) ?_ ?_
                      rotate_left
                      · intro w'
                        go_simp
                        with_reducible rfl
                      rotate_left
                      · simp only [Act.put, List.setIfInBounds_toArray, List.set_cons_zero, List.set_cons_succ, i64_w, i32_w]
                        rfl
                      refine pure_ (i := 4) (N := some 37) (v := ?_) (a' := ?_) #[false, true, false, false, true, false, false, false, false] rfl rfl (any_of HT_.out (by kernel_rfl)) (fun _ _ _ h => h) (Or.inl ⟨by rfl, ?_⟩) ?_ ?_
                      rotate_left
                      · intro w'
                        go_simp
                        with_reducible rfl
                      rotate_left
                      · simp only [Act.put, List.setIfInBounds_toArray, List.set_cons_zero, List.set_cons_succ, i64_w, i32_w]
                        rfl
                      refine pure_ (i := 5) (N := some 38) (v := ?_) (a' := ?_) #[false, true, false, false, true, true, false, false, false] rfl rfl (any_of HT_.out (by kernel_rfl)) (fun _ _ _ h => h) (Or.inl ⟨by rfl, ?_⟩) ?_ ?_
                      rotate_left
                      · intro w'
                        go_simp
                        with_reducible rfl
                      rotate_left
                      · simp only [Act.put, List.setIfInBounds_toArray, List.set_cons_zero, List.set_cons_succ, i64_w, i32_w]
                        rfl
                      refine take_ (i := 0) (N := some 33) (v := ?_) (a' := ?_) #[true, true, false, false, true, true, false, false, false] rfl rfl (take_ofW HT_.out HW_.out (by kernel_rfl)) (fun _ _ _ h => h) (Or.inl ⟨by rfl, ?_⟩) hHeld ?_ ?_
                      rotate_left
                      · rintro w' ⟨s0, s1, s2⟩
                        go_simp
                        with_reducible rfl
                      rotate_left
                      · simp only [Act.put, List.setIfInBounds_toArray, List.set_cons_zero, List.set_cons_succ, i64_w, i32_w]
                        rfl
                      refine take_ (i := 2) (N := some 35) (v := ?_) (a' := ?_) #[true, true, true, false, true, true, false, false, false] rfl rfl (take_ofW HT_.out HW_.out (by kernel_rfl)) (fun _ _ _ h => h) (Or.inl ⟨by rfl, ?_⟩) hHeld ?_ ?_
                      rotate_left
                      · rintro w' ⟨s0, s1, s2⟩
                        go_simp
                        with_reducible rfl
                      rotate_left
                      · simp only [Act.put, List.setIfInBounds_toArray, List.set_cons_zero, List.set_cons_succ, i64_w, i32_w]
                        rfl
                      refine take_ (i := 6) (N := some 39) (v := ?_) (a' := ?_) #[true, true, true, false, true, true, true, false, false] rfl rfl (take_ofW HT_.out HW_.out (by kernel_rfl)) (fun _ _ _ h => h) (Or.inl ⟨by rfl, ?_⟩) hHeld ?_ ?_
                      rotate_left
                      · rintro w' ⟨s0, s1, s2⟩
                        go_simp
                        with_reducible rfl
                      rotate_left
                      · simp only [Act.put, List.setIfInBounds_toArray, List.set_cons_zero, List.set_cons_succ, i64_w, i32_w]
                        rfl
                      refine one_ (i := 3) (N := some 36) #[true, true, true, true, true, true, true, false, false] rfl rfl (one_of HT_.out (by kernel_rfl)) (by decide) (fun K hK => ?_)
                      refine goes_ Try.func7 (by kernel_rfl) rfl #[.agg #[.int .i64 x127000_1], .int .i64 ((rd_T27 l0 x6_1).f1)] (by rfl) rfl rfl (by (try simp only [List.map_toArray, List.map_cons, List.map_nil]); first | done | rfl | (simp only [List.length_drop, List.length_take]; rfl)) ?_
                      with_reducible refine (hold_Hold_May.calls x127000_1 ((rd_T27 l0 x6_1).f1) t129 _ A11.out).mono ?_
                      rintro e w126 ⟨rfl, hb⟩
                      refine ⟨_, rfl, ?_⟩
                      have n0_ := Aside0.mk (blk_below (g := gb126) (o := .cells #[.int .i64 x127000_1] 25 (0, 0)) (by (with_reducible repeat (first | refine blk_drewN ?_ _ | refine blk_drew ?_ | refine blk_alloc ?_ _)); exact BK126.out) hb)
                      have n1_ := Aside0.mk (blk_below (g := gb128) (o := .cells #[.int .i64 ((rd_T27 l0 x6_1).f0), .int .i64 ((rd_T27 l0 x6_1).f1)] 27 (0, 0)) (by (with_reducible repeat (first | refine blk_drewN ?_ _ | refine blk_drew ?_ | refine blk_alloc ?_ _)); exact BK128.out) hb)
                      have n2_ := Aside0.mk (below_step (by repeat (first | (with_reducible first | exact HB.out | apply below_alloc | apply pw_below_drewN | apply below_drew1 | refine below_set ?_ GE126.out | refine below_set ?_ GE128.out) | exact HB.out)) hb)
                      clear BK126
                      clear BK128
                      clear HB
                      have BK126 := n0_
                      have BK128 := n1_
                      have HB := n2_
                      clear n0_ n1_ n2_
                      (try clear hb)
                      (try clear hb2)
                      (try clear hk)
                      (try clear hi)
                      refine hK.out _ _ ⟨(blk_cell BK126.out 0).trans rfl, (blk_cell BK128.out 0).trans rfl, (blk_cell BK128.out 1).trans rfl⟩ (fun hHeld => ?_)
                      clear hK K
                      refine norm_ (a' := ?_) ?_ ?_
                      rotate_left
                      · show Act.put _ (some 36) _ = _
                        simp only [Act.put, List.setIfInBounds_toArray, List.set_cons_zero, List.set_cons_succ, i64_w, i32_w]
                        rfl
                      refine one_ (i := 7) (N := some 40) #[true, true, true, true, true, true, true, true, false] rfl rfl (one_of HT_.out (by kernel_rfl)) (by decide) (fun K hK => ?_)
                      refine goes_ Try.func8 (by kernel_rfl) rfl #[.int .i64 x5_1, .int .i64 ((rd_T27 l0 x6_1).f1)] (by rfl) rfl rfl (by (try simp only [List.map_toArray, List.map_cons, List.map_nil]); first | done | rfl | (simp only [List.length_drop, List.length_take]; rfl)) ?_
                      with_reducible refine (tollbarref29_May.calls x5_1 ((rd_T27 l0 x6_1).f1) t130 _ A12.out).mono ?_
                      rintro e w' ⟨rfl, ⟨nd, rfl⟩⟩
                      refine ⟨_, rfl, ?_⟩
                      refine hK.out _ _ ⟨(blk_cell BK126.out 0).trans rfl, (blk_cell BK128.out 0).trans rfl, (blk_cell BK128.out 1).trans rfl⟩ (fun hHeld => ?_)
                      clear hK K
                      refine norm_ (a' := ?_) ?_ ?_
                      rotate_left
                      · show Act.put _ (some 40) _ = _
                        simp only [Act.put, List.setIfInBounds_toArray, List.set_cons_zero, List.set_cons_succ, i64_w, i32_w]
                        rfl
                      refine pure_ (i := 8) (N := some 41) (v := ?_) (a' := ?_) #[true, true, true, true, true, true, true, true, true] rfl rfl (any_of HT_.out (by kernel_rfl)) (fun _ _ _ h => h) (Or.inl ⟨by rfl, ?_⟩) ?_ ?_
                      rotate_left
                      · intro w'
                        go_simp
                        with_reducible rfl
                      rotate_left
                      · simp only [Act.put, List.setIfInBounds_toArray, List.set_cons_zero, List.set_cons_succ, i64_w, i32_w]
                        rfl
                      refine done_ (done_of HT_.out (by kernel_rfl)) ?_
                      have hcz127_0 : w126.cell? ⟨gb128, 0, none⟩ = some (.int .i64 ((rd_T27 l0 x6_1).f0)) := (blk_cell BK128.out 0).trans rfl
                      have hcz127_1 : w126.cell? ⟨gb128, 1, none⟩ = some (.int .i64 ((rd_T27 l0 x6_1).f1)) := (blk_cell BK128.out 1).trans rfl
                      have hfz127_0 := blk_frozen BK128.out 0
                      have hfz127_1 := blk_frozen BK128.out 1
                      have hcz128_0 : w126.cell? ⟨gb126, 0, none⟩ = some (.int .i64 x127000_1) := (blk_cell BK126.out 0).trans rfl
                      have hfz128_0 := blk_frozen BK126.out 0
                      try go_wp2
                      go_ret
                      exact ⟨by first | rfl | (simp [errW_none, errW_some] <;> rfl) | (simp [*, errW_none, errW_some] <;> rfl), by repeat (first | (with_reducible first | exact HB.out | apply below_alloc | apply pw_below_drewN | apply below_drew1 | refine below_set ?_ GE126.out | refine below_set ?_ GE128.out) | exact HB.out)⟩
              · rw [if_neg c13] at H
                have c13b0 : (t129 == t130) = false := beq_eq_false_iff_ne.mpr c13
                have c13b1 : (t129 != t130) = true := bne_iff_ne.mpr c13
                obtain rfl := Option.some.inj H
                have p127 : 0 ≤ (x6_1 : Int) := of_decide_eq_true (by first | (with_reducible assumption) | assumption)
                have q127 : x6_1 < (l0.length : Int) := of_decide_eq_true (by first | (with_reducible assumption) | assumption)
                obtain ⟨ad127, e127, hx127_0, hx127_1⟩ := at_T27 HR0.out x6_1 p127 q127
                cases e127
                replace hx127_0 := (HB.out.cell (World.block_lt_of_cell? w _ hx127_0)).trans hx127_0
                replace hx127_1 := (HB.out.cell (World.block_lt_of_cell? w _ hx127_1)).trans hx127_1
                replace p127 := eq_true p127
                replace q127 := eq_true q127
                try go_wp2_with (first | ((with_reducible refine gate_dst (N := 7) rfl ?_); refine box_event ?hg (N := 7) ?hd (cs := #[.int .i64 0, .int .i64 0]) (t := 27) ?hr ?_; (case hd => rfl); (case hg => rfl); (case hr => first | (go_simp; done) | (go_simp; rfl)); intro gb128 hg w129 hbox hb; have n0_ := Aside0.mk (blk_below (g := gb126) (o := .cells #[.int .i64 x127000_1] 25 (0, 0)) (by (with_reducible repeat (first | refine blk_drewN ?_ _ | refine blk_drew ?_ | refine blk_alloc ?_ _)); exact BK126.out) hb); have n1_ := Aside0.mk (below_step (by repeat (first | (with_reducible first | exact HB.out | apply below_alloc | apply pw_below_drewN | apply below_drew1 | refine below_set ?_ GE126.out) | exact HB.out)) hb); have n2_ := Aside0.mk (hbox); have n3_ := Aside0.mk ((by rw [hg]; exact (below_size (by repeat (first | (with_reducible first | exact HB.out | apply below_alloc | apply pw_below_drewN | apply below_drew1 | refine below_set ?_ GE126.out) | exact HB.out))) : w.heap.size ≤ gb128)); have n4_ := Aside0.mk ((by rw [hg]; exact (below_size (by repeat (first | (with_reducible first | exact HB.out | apply below_alloc | apply pw_below_drewN | apply below_drew1 | refine below_set ?_ GE126.out) | exact HB.out))) : w.heap.size ≤ gb128)); have n5_ := Aside0.mk ((by rw [hg]; exact Nat.ne_of_lt (blk_lt (g := gb126) (o := .cells #[.int .i64 x127000_1] 25 (0, 0)) (by (with_reducible repeat (first | refine blk_drewN ?_ _ | refine blk_drew ?_ | refine blk_alloc ?_ _)); exact BK126.out)) : gb126 ≠ gb128)); have n6_ := Aside0.mk ((by rw [hg]; exact Nat.ne_of_gt (blk_lt (g := gb126) (o := .cells #[.int .i64 x127000_1] 25 (0, 0)) (by (with_reducible repeat (first | refine blk_drewN ?_ _ | refine blk_drew ?_ | refine blk_alloc ?_ _)); exact BK126.out)) : gb128 ≠ gb126)); clear BK126; clear HB; have BK126 := n0_; have HB := n1_; have BK128 := n2_; have GW128 := n3_; have GE128 := n4_; have NB126_128 := n5_; have NB128_126 := n6_; clear n0_ n1_ n2_ n3_ n4_ n5_ n6_; clear hb hbox hg; have hnb130 := NB128_126.out; have hnc130 := NB126_128.out; have hcz131_0 : w129.cell? ⟨gb128, 0, none⟩ = some (.int .i64 0) := (blk_cell BK128.out 0).trans rfl; have hcz131_1 : w129.cell? ⟨gb128, 1, none⟩ = some (.int .i64 0) := (blk_cell BK128.out 1).trans rfl; have hfz131_0 := blk_frozen BK128.out 0; have hfz131_1 := blk_frozen BK128.out 1))
                have n0_ : Aside0 (((w129.setCell ⟨gb128, 0, none⟩ (.int .i64 ((rd_T27 l0 x6_1).f0))).setCell ⟨gb128, 1, none⟩ (.int .i64 ((rd_T27 l0 x6_1).f1))).heap[gb126]? = some (.cells #[.int .i64 x127000_1] 25 (0, 0))) := ⟨by (with_reducible repeat (first | refine blk_drewN ?_ _ | refine blk_drew ?_ | refine blk_alloc ?_ _)); refine blk_far ?_ NB126_128.out _; (with_reducible repeat (first | refine blk_drewN ?_ _ | refine blk_drew ?_ | refine blk_alloc ?_ _)); refine blk_far ?_ NB126_128.out _; (with_reducible repeat (first | refine blk_drewN ?_ _ | refine blk_drew ?_ | refine blk_alloc ?_ _)); exact BK126.out⟩
                have n1_ : Aside0 (((w129.setCell ⟨gb128, 0, none⟩ (.int .i64 ((rd_T27 l0 x6_1).f0))).setCell ⟨gb128, 1, none⟩ (.int .i64 ((rd_T27 l0 x6_1).f1))).heap[gb128]? = some (.cells #[.int .i64 ((rd_T27 l0 x6_1).f0), .int .i64 ((rd_T27 l0 x6_1).f1)] 27 (0, 0))) := ⟨by (with_reducible repeat (first | refine blk_drewN ?_ _ | refine blk_drew ?_ | refine blk_alloc ?_ _)); refine blk_put (cs := #[.int .i64 ((rd_T27 l0 x6_1).f0), .int .i64 0]) ?_ 1 _ rfl; (with_reducible repeat (first | refine blk_drewN ?_ _ | refine blk_drew ?_ | refine blk_alloc ?_ _)); refine blk_put (cs := #[.int .i64 0, .int .i64 0]) ?_ 0 _ rfl; (with_reducible repeat (first | refine blk_drewN ?_ _ | refine blk_drew ?_ | refine blk_alloc ?_ _)); exact BK128.out⟩
                have n2_ : Aside0 (Below w.heap.size w ((w129.setCell ⟨gb128, 0, none⟩ (.int .i64 ((rd_T27 l0 x6_1).f0))).setCell ⟨gb128, 1, none⟩ (.int .i64 ((rd_T27 l0 x6_1).f1)))) := ⟨by repeat (first | (with_reducible first | exact HB.out | apply below_alloc | apply pw_below_drewN | apply below_drew1 | refine below_set ?_ GE126.out | refine below_set ?_ GE128.out) | exact HB.out)⟩
                (try clear BK126)
                (try clear BK128)
                (try clear HB)
                generalize ((w129.setCell ⟨gb128, 0, none⟩ (.int .i64 ((rd_T27 l0 x6_1).f0))).setCell ⟨gb128, 1, none⟩ (.int .i64 ((rd_T27 l0 x6_1).f1))) = w132 at n0_ n1_ n2_ ⊢
                have BK126 := n0_
                have BK128 := n1_
                have HB := n2_
                clear n0_ n1_ n2_
                have n0_ := Aside0.mk (blk_drew BK126.out)
                have n1_ := Aside0.mk (blk_drew BK128.out)
                have n2_ := Aside0.mk (below_drew1 HB.out)
                clear BK126
                clear BK128
                clear HB
                have BK126 := n0_
                have BK128 := n1_
                have HB := n2_
                clear n0_ n1_ n2_
                refine start_ (n := 9) (S := fun w' => w'.cell? ⟨gb126, 0, none⟩ = some (.int .i64 x127000_1) ∧ w'.cell? ⟨gb128, 0, none⟩ = some (.int .i64 ((rd_T27 l0 x6_1).f0)) ∧ w'.cell? ⟨gb128, 1, none⟩ = some (.int .i64 ((rd_T27 l0 x6_1).f1))) (ds := []) #[false, false, false, false, false, false, false, false, false] (by kernel_rfl) rfl rfl ⟨(blk_cell BK126.out 0).trans rfl, (blk_cell BK128.out 0).trans rfl, (blk_cell BK128.out 1).trans rfl⟩ (fun hHeld => ?_); refine with_tabW tollbarlaw29_HoldDoes.tab12 tollbarlaw29_HoldDoes.bits12 (fun HT_ HW_ => ?_)
                generalize w132.drew = w133 at BK126 BK128 HB hHeld ⊢
                refine pure_ (i := 1) (N := some 34) (v := ?_) (a' := ?_) #[false, true, false, false, false, false, false, false, false] rfl rfl (any_of HT_.out (by kernel_rfl)) (fun _ _ _ h => h) (Or.inl ⟨by rfl, ?_⟩) ?_ ?_
                rotate_left
                · intro w'
                  go_simp
                  with_reducible rfl
                rotate_left
                · simp only [Act.put, List.setIfInBounds_toArray, List.set_cons_zero, List.set_cons_succ, i64_w, i32_w]
                  rfl
                refine pure_ (i := 4) (N := some 37) (v := ?_) (a' := ?_) #[false, true, false, false, true, false, false, false, false] rfl rfl (any_of HT_.out (by kernel_rfl)) (fun _ _ _ h => h) (Or.inl ⟨by rfl, ?_⟩) ?_ ?_
                rotate_left
                · intro w'
                  go_simp
                  with_reducible rfl
                rotate_left
                · simp only [Act.put, List.setIfInBounds_toArray, List.set_cons_zero, List.set_cons_succ, i64_w, i32_w]
                  rfl
                refine pure_ (i := 5) (N := some 38) (v := ?_) (a' := ?_) #[false, true, false, false, true, true, false, false, false] rfl rfl (any_of HT_.out (by kernel_rfl)) (fun _ _ _ h => h) (Or.inl ⟨by rfl, ?_⟩) ?_ ?_
                rotate_left
                · intro w'
                  go_simp
                  with_reducible rfl
                rotate_left
                · simp only [Act.put, List.setIfInBounds_toArray, List.set_cons_zero, List.set_cons_succ, i64_w, i32_w]
                  rfl
                refine take_ (i := 0) (N := some 33) (v := ?_) (a' := ?_) #[true, true, false, false, true, true, false, false, false] rfl rfl (take_ofW HT_.out HW_.out (by kernel_rfl)) (fun _ _ _ h => h) (Or.inl ⟨by rfl, ?_⟩) hHeld ?_ ?_
                rotate_left
                · rintro w' ⟨s0, s1, s2⟩
                  go_simp
                  with_reducible rfl
                rotate_left
                · simp only [Act.put, List.setIfInBounds_toArray, List.set_cons_zero, List.set_cons_succ, i64_w, i32_w]
                  rfl
                refine take_ (i := 2) (N := some 35) (v := ?_) (a' := ?_) #[true, true, true, false, true, true, false, false, false] rfl rfl (take_ofW HT_.out HW_.out (by kernel_rfl)) (fun _ _ _ h => h) (Or.inl ⟨by rfl, ?_⟩) hHeld ?_ ?_
                rotate_left
                · rintro w' ⟨s0, s1, s2⟩
                  go_simp
                  with_reducible rfl
                rotate_left
                · simp only [Act.put, List.setIfInBounds_toArray, List.set_cons_zero, List.set_cons_succ, i64_w, i32_w]
                  rfl
                refine take_ (i := 6) (N := some 39) (v := ?_) (a' := ?_) #[true, true, true, false, true, true, true, false, false] rfl rfl (take_ofW HT_.out HW_.out (by kernel_rfl)) (fun _ _ _ h => h) (Or.inl ⟨by rfl, ?_⟩) hHeld ?_ ?_
                rotate_left
                · rintro w' ⟨s0, s1, s2⟩
                  go_simp
                  with_reducible rfl
                rotate_left
                · simp only [Act.put, List.setIfInBounds_toArray, List.set_cons_zero, List.set_cons_succ, i64_w, i32_w]
                  rfl
                refine one_ (i := 3) (N := some 36) #[true, true, true, true, true, true, true, false, false] rfl rfl (one_of HT_.out (by kernel_rfl)) (by decide) (fun K hK => ?_)
                refine goes_ Try.func7 (by kernel_rfl) rfl #[.agg #[.int .i64 x127000_1], .int .i64 ((rd_T27 l0 x6_1).f1)] (by rfl) rfl rfl (by (try simp only [List.map_toArray, List.map_cons, List.map_nil]); first | done | rfl | (simp only [List.length_drop, List.length_take]; rfl)) ?_
                with_reducible refine (hold_Hold_May.calls x127000_1 ((rd_T27 l0 x6_1).f1) t129 _ A11.out).mono ?_
                rintro e w134 ⟨rfl, hb⟩
                refine ⟨_, rfl, ?_⟩
                have n0_ := Aside0.mk (blk_below (g := gb126) (o := .cells #[.int .i64 x127000_1] 25 (0, 0)) (by (with_reducible repeat (first | refine blk_drewN ?_ _ | refine blk_drew ?_ | refine blk_alloc ?_ _)); exact BK126.out) hb)
                have n1_ := Aside0.mk (blk_below (g := gb128) (o := .cells #[.int .i64 ((rd_T27 l0 x6_1).f0), .int .i64 ((rd_T27 l0 x6_1).f1)] 27 (0, 0)) (by (with_reducible repeat (first | refine blk_drewN ?_ _ | refine blk_drew ?_ | refine blk_alloc ?_ _)); exact BK128.out) hb)
                have n2_ := Aside0.mk (below_step (by repeat (first | (with_reducible first | exact HB.out | apply below_alloc | apply pw_below_drewN | apply below_drew1 | refine below_set ?_ GE126.out | refine below_set ?_ GE128.out) | exact HB.out)) hb)
                clear BK126
                clear BK128
                clear HB
                have BK126 := n0_
                have BK128 := n1_
                have HB := n2_
                clear n0_ n1_ n2_
                (try clear hb)
                (try clear hb2)
                (try clear hk)
                (try clear hi)
                refine hK.out _ _ ⟨(blk_cell BK126.out 0).trans rfl, (blk_cell BK128.out 0).trans rfl, (blk_cell BK128.out 1).trans rfl⟩ (fun hHeld => ?_)
                clear hK K
                refine norm_ (a' := ?_) ?_ ?_
                rotate_left
                · show Act.put _ (some 36) _ = _
                  simp only [Act.put, List.setIfInBounds_toArray, List.set_cons_zero, List.set_cons_succ, i64_w, i32_w]
                  rfl
                refine one_ (i := 7) (N := some 40) #[true, true, true, true, true, true, true, true, false] rfl rfl (one_of HT_.out (by kernel_rfl)) (by decide) (fun K hK => ?_)
                refine goes_ Try.func8 (by kernel_rfl) rfl #[.int .i64 x5_1, .int .i64 ((rd_T27 l0 x6_1).f1)] (by rfl) rfl rfl (by (try simp only [List.map_toArray, List.map_cons, List.map_nil]); first | done | rfl | (simp only [List.length_drop, List.length_take]; rfl)) ?_
                with_reducible refine (tollbarref29_May.calls x5_1 ((rd_T27 l0 x6_1).f1) t130 _ A12.out).mono ?_
                rintro e w' ⟨rfl, ⟨nd, rfl⟩⟩
                refine ⟨_, rfl, ?_⟩
                refine hK.out _ _ ⟨(blk_cell BK126.out 0).trans rfl, (blk_cell BK128.out 0).trans rfl, (blk_cell BK128.out 1).trans rfl⟩ (fun hHeld => ?_)
                clear hK K
                refine norm_ (a' := ?_) ?_ ?_
                rotate_left
                · show Act.put _ (some 40) _ = _
                  simp only [Act.put, List.setIfInBounds_toArray, List.set_cons_zero, List.set_cons_succ, i64_w, i32_w]
                  rfl
                refine pure_ (i := 8) (N := some 41) (v := ?_) (a' := ?_) #[true, true, true, true, true, true, true, true, true] rfl rfl (any_of HT_.out (by kernel_rfl)) (fun _ _ _ h => h) (Or.inl ⟨by rfl, ?_⟩) ?_ ?_
                rotate_left
                · intro w'
                  go_simp
                  with_reducible rfl
                rotate_left
                · simp only [Act.put, List.setIfInBounds_toArray, List.set_cons_zero, List.set_cons_succ, i64_w, i32_w]
                  rfl
                refine done_ (done_of HT_.out (by kernel_rfl)) ?_
                try go_wp2
                go_ret
                exact ⟨by first | rfl | (simp [errW_none, errW_some] <;> rfl) | (simp [*, errW_none, errW_some] <;> rfl), by repeat (first | (with_reducible first | exact HB.out | apply below_alloc | apply pw_below_drewN | apply below_drew1 | refine below_set ?_ GE126.out | refine below_set ?_ GE128.out) | exact HB.out)⟩
            · rw [if_neg c10] at H
              exact absurd H (by simp)
          · rw [if_neg c9] at H
            have c9b0 : decide (x6_1 < (l0.length : Int)) = false := decide_eq_false c9
            clear c9
            obtain rfl := Option.some.inj H
            go_wp2
            go_ret
            exact ⟨by first | rfl | (simp [errW_none, errW_some] <;> rfl) | (simp [*, errW_none, errW_some] <;> rfl), by repeat (first | (with_reducible first | exact HB.out | apply below_alloc | apply pw_below_drewN | apply below_drew1 | refine below_set ?_ GE126.out) | exact HB.out)⟩
  · replace c3 := Bool.eq_false_iff.mpr c3
    subst c3
    have H1 : (some false) = some r := by rw [if_neg (show ¬ (false = true) by decide)] at H; exact H
    clear H
    have H := H1
    clear H1
    obtain rfl := Option.some.inj H
    go_enter Try.func3, Try.ntmps3
    go_wp2_with (first | ((with_reducible refine gate_callee (f := 6) rfl ?_); refine goesL_ (some 16) rfl rfl Try.func6 (by kernel_rfl) rfl #[] rfl (by (try simp only [List.map_toArray, List.map_cons, List.map_nil]); first | done | rfl | (simp only [List.length_drop, List.length_take]; rfl)) ?_; (with_reducible refine (tollbarlaw29_awake.calls k  false _ A2.out).mono ?_); rintro e w135 ⟨rfl, hb⟩; refine ⟨_, rfl, ?_⟩; have n0_ := Aside0.mk (below_step (by repeat (first | (with_reducible first | exact HB.out | apply below_alloc | apply pw_below_drewN | apply below_drew1) | exact HB.out)) hb); clear HB; have HB := n0_; clear n0_; (try clear hb); (try clear hb2); (try clear hk); (try clear hi)))
    go_ret
    exact ⟨by first | rfl | (simp [errW_none, errW_some] <;> rfl) | (simp [*, errW_none, errW_some] <;> rfl), by repeat (first | (with_reducible first | exact HB.out | apply below_alloc | apply pw_below_drewN | apply below_drew1) | exact HB.out)⟩

end Go.Proofs.Ytlbmiphdipohlaa.QHold
