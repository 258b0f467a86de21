-- laid by a program of this session (pp.sh) out of the translation
import Derived.Test.YtlbmiphdipohlaaQHoldx0
import Derived.Test.YtlbmiphdipohlaaQHoldx1
import Derived.Test.YtlbmiphdipohlaaQHoldx2
namespace Go.Proofs.Ytlbmiphdipohlaa.QHold
open Go.RowKit Go.Proofs.YtlbmiphdipohlaaW.PrintWords Go.Proofs.YtlbmiphdipohlaaW.PrintLast Go.Proofs.YtlbmiphdipohlaaW.PrintMore
attribute [local go_sem] max2_int min2_int max_two min_two max_three min_three max_four min_four   -- for this text's walks alone
set_option linter.unusedVariables false
set_option linter.unusedSimpArgs false

attribute [local go_sem high] eqA25
/-! ### tollbarlaw29_HoldTurns: function 5 -/
mutual
def tollbarlaw29_HoldTurns.l0 : Nat → List Int → Int → Int → Option (Bool)
  | 0, _, _, _ => none
  | k + 1, x0, x5, x156000 => if x5 < (x0.length : Int) then (if 0 ≤ x5 then ((hold_Hold_Take.f x156000 (rd x0 x5)).bind fun bt158 => (if bt158.2 = 0 then ((hold_Hold_Take.f bt158.1 (rd x0 x5)).bind fun bt161 => ((hold_Hold_Give.f k bt158.1 (rd x0 x5)).bind fun bt164 => (if bt158.1 = (rd x0 x5) then (if bt161.2 = 0 then (if (!(bt161.1 == bt158.1)) = true then (tollbarlaw29_HoldTurns.j1 k x0 x5 true bt158.1 bt164.1) else (if bt164.2 = 0 then (if bt164.1 = 0 then (if x156000 = 0 then (tollbarlaw29_HoldTurns.j1 k x0 x5 false bt158.1 bt164.1) else (tollbarlaw29_HoldTurns.j1 k x0 x5 (x156000 != (rd x0 x5)) bt158.1 bt164.1)) else (tollbarlaw29_HoldTurns.j1 k x0 x5 true bt158.1 bt164.1)) else (tollbarlaw29_HoldTurns.j1 k x0 x5 true bt158.1 bt164.1))) else (tollbarlaw29_HoldTurns.j1 k x0 x5 true bt158.1 bt164.1)) else (tollbarlaw29_HoldTurns.j1 k x0 x5 true bt158.1 bt164.1)))) else (if (!(bt158.1 == x156000)) = true then (some false) else (if ((bt158.2 == 1) != (decide ((rd x0 x5) < 1))) = true then (some false) else (tollbarlaw29_HoldTurns.l0 k x0 (wrap64 (x5 + 1)) x156000))))) else (none)) else (some true)
def tollbarlaw29_HoldTurns.j1 : Nat → List Int → Int → Bool → Int → Int → Option (Bool)
  | 0, _, _, _, _, _ => none
  | k + 1, x0, x5, x94, x161000, x167000 => if x94 = true then (some false) else (if (Int.tmod x5 3) = 2 then (tollbarlaw29_HoldTurns.l0 k x0 (wrap64 (x5 + 1)) x167000) else (tollbarlaw29_HoldTurns.l0 k x0 (wrap64 (x5 + 1)) x161000))
end
def tollbarlaw29_HoldTurns.f (k : Nat) (l0 : List Int) : Option (Bool) := (tollbarlaw29_awake.f k).bind fun t154 => (if t154 = true then (if (l0.length : Int) > 200 then (some true) else (tollbarlaw29_HoldTurns.l0 k l0 0 0)) else (some false))
theorem tollbarlaw29_HoldTurns.mono_l : ∀ k, (∀ y0 y1 y2, LeO (tollbarlaw29_HoldTurns.l0 k y0 y1 y2) (tollbarlaw29_HoldTurns.l0 (k + 1) y0 y1 y2)) ∧ (∀ y0 y1 y2 y3 y4, LeO (tollbarlaw29_HoldTurns.j1 k y0 y1 y2 y3 y4) (tollbarlaw29_HoldTurns.j1 (k + 1) y0 y1 y2 y3 y4))
  | 0 => ⟨fun _ _ _ r h => by simp [tollbarlaw29_HoldTurns.l0] at h, fun _ _ _ _ _ r h => by simp [tollbarlaw29_HoldTurns.j1] at h⟩
  | k + 1 => by
    obtain ⟨ih0, ih1⟩ := tollbarlaw29_HoldTurns.mono_l k
    refine ⟨?_, ?_⟩
    · intro y0 y1 y2
      unfold tollbarlaw29_HoldTurns.l0
      repeat' first
      | (with_reducible exact ih0 _ _ _)
      | (with_reducible exact ih1 _ _ _ _ _)
      | (with_reducible exact hold_Hold_Give.mono _ _ _)
      | (with_reducible exact tollbarlaw29_awake.mono _)
      | (with_reducible exact LeO.refl _)
      | (with_reducible exact LeO.none _)
      | (with_reducible refine LeO.ite ?_ ?_)
      | (with_reducible refine LeO.bind ?_ (fun _ => ?_))
      | exact ih0 _ _ _
      | exact ih1 _ _ _ _ _
      | exact hold_Hold_Give.mono _ _ _
      | exact tollbarlaw29_awake.mono _
      | exact LeO.none _
      | refine LeO.ite ?_ ?_
      | refine LeO.bind ?_ (fun _ => ?_)
    · intro y0 y1 y2 y3 y4
      unfold tollbarlaw29_HoldTurns.j1
      repeat' first
      | (with_reducible exact ih0 _ _ _)
      | (with_reducible exact ih1 _ _ _ _ _)
      | (with_reducible exact hold_Hold_Give.mono _ _ _)
      | (with_reducible exact tollbarlaw29_awake.mono _)
      | (with_reducible exact LeO.refl _)
      | (with_reducible exact LeO.none _)
      | (with_reducible refine LeO.ite ?_ ?_)
      | (with_reducible refine LeO.bind ?_ (fun _ => ?_))
      | exact ih0 _ _ _
      | exact ih1 _ _ _ _ _
      | exact hold_Hold_Give.mono _ _ _
      | exact tollbarlaw29_awake.mono _
      | exact LeO.none _
      | refine LeO.ite ?_ ?_
      | refine LeO.bind ?_ (fun _ => ?_)
theorem tollbarlaw29_HoldTurns.mono : ∀ a0 k, LeO (tollbarlaw29_HoldTurns.f k a0) (tollbarlaw29_HoldTurns.f (k + 1) a0) := by
  intro a0 k
  obtain ⟨ih0, ih1⟩ := tollbarlaw29_HoldTurns.mono_l k
  unfold tollbarlaw29_HoldTurns.f
  repeat' first
      | (with_reducible exact ih0 _ _ _)
      | (with_reducible exact ih1 _ _ _ _ _)
      | (with_reducible exact hold_Hold_Give.mono _ _ _)
      | (with_reducible exact tollbarlaw29_awake.mono _)
      | (with_reducible exact LeO.refl _)
      | (with_reducible exact LeO.none _)
      | (with_reducible refine LeO.ite ?_ ?_)
      | (with_reducible refine LeO.bind ?_ (fun _ => ?_))
      | exact ih0 _ _ _
      | exact ih1 _ _ _ _ _
      | exact hold_Hold_Give.mono _ _ _
      | exact tollbarlaw29_awake.mono _
      | exact LeO.none _
      | refine LeO.ite ?_ ?_
      | refine LeO.bind ?_ (fun _ => ?_)
set_option maxHeartbeats 8000000 in
set_option maxRecDepth 100000 in
theorem tollbarlaw29_HoldTurns.calls (k : Nat) (A0 : Option Addr) (c0 : Nat) (l0 : List Int) (r : Bool) (w : World) (hr0 : Kd.C (Kd.int .i64) w A0 l0.length l0) (hc0 : l0.length ≤ c0) (h : tollbarlaw29_HoldTurns.f k l0 = some r) :
    Calls Try.prog 5 #[.slice A0 l0.length c0] w fun e w' => e = .returned (.bool r) ∧ Below w.heap.size w w' := by
  have hu25 := Try.underlying25
  have HR0 := Aside0.mk hr0
  have HC0 := Aside0.mk hc0
  clear hr0 hc0
  have HB := Aside0.mk (Below.refl w.heap.size w)
  have H : ((tollbarlaw29_awake.f k).bind fun t154 => (if t154 = true then (if (l0.length : Int) > 200 then (some true) else (tollbarlaw29_HoldTurns.l0 k l0 0 0)) else (some false))) = some r := h
  clear h
  replace H := Option.bind_eq_some_iff.mp H
  obtain ⟨t154, A20, H⟩ := H
  replace H : (if t154 = true then (if (l0.length : Int) > 200 then (some true) else (tollbarlaw29_HoldTurns.l0 k l0 0 0)) else (some false)) = some r := H
  have A2 := Aside0.mk A20
  clear A20
  by_cases c3 : t154 = true
  · subst c3
    have H1 : (if (l0.length : Int) > 200 then (some true) else (tollbarlaw29_HoldTurns.l0 k l0 0 0)) = some r := by rw [if_pos rfl] at H; exact H
    clear H
    have H := H1
    clear H1
    by_cases c4 : (l0.length : Int) > 200
    · rw [if_pos c4] at H
      have c4b0 : decide (200 < (l0.length : Int)) = true := decide_eq_true c4
      have c4b1 : decide (200 < l0.length) = true := decide_eq_true (by omega)
      clear c4
      obtain rfl := Option.some.inj H
      go_enter Try.func5, Try.ntmps5
      go_wp2_with (first | ((with_reducible refine gate_callee (f := 6) rfl ?_); refine goesL_ (some 14) rfl rfl Try.func6 (by kernel_rfl) rfl #[] rfl (by (try simp only [List.map_toArray, List.map_cons, List.map_nil]); first | done | rfl | (simp only [List.length_drop, List.length_take]; rfl)) ?_; (with_reducible refine (tollbarlaw29_awake.calls k  true _ A2.out).mono ?_); rintro e w5 ⟨rfl, hb⟩; refine ⟨_, rfl, ?_⟩; have n0_ := Aside0.mk (below_step (by repeat (first | (with_reducible first | exact HB.out | apply below_alloc | apply pw_below_drewN | apply below_drew1) | exact HB.out)) hb); clear HB; have HB := n0_; clear n0_; (try clear hb); (try clear hb2); (try clear hk); (try clear hi)))
      go_ret
      exact ⟨by first | rfl | (simp [errW_none, errW_some] <;> rfl) | (simp [*, errW_none, errW_some] <;> rfl), by repeat (first | (with_reducible first | exact HB.out | apply below_alloc | apply pw_below_drewN | apply below_drew1) | exact HB.out)⟩
    · rw [if_neg c4] at H
      have c4b0 : decide (200 < (l0.length : Int)) = false := decide_eq_false c4
      have c4b1 : decide (200 < l0.length) = false := decide_eq_false (by omega)
      clear c4
      have H' := Aside0.mk H
      clear H
      go_enter Try.func5, Try.ntmps5
      go_wp2_with (first | ((with_reducible refine gate_callee (f := 6) rfl ?_); refine goesL_ (some 14) rfl rfl Try.func6 (by kernel_rfl) rfl #[] rfl (by (try simp only [List.map_toArray, List.map_cons, List.map_nil]); first | done | rfl | (simp only [List.length_drop, List.length_take]; rfl)) ?_; (with_reducible refine (tollbarlaw29_awake.calls k  true _ A2.out).mono ?_); rintro e w6 ⟨rfl, hb⟩; refine ⟨_, rfl, ?_⟩; have n0_ := Aside0.mk (below_step (by repeat (first | (with_reducible first | exact HB.out | apply below_alloc | apply pw_below_drewN | apply below_drew1) | exact HB.out)) hb); clear HB; have HB := n0_; clear n0_; (try clear hb); (try clear hb2); (try clear hk); (try clear hi)) | ((with_reducible refine gate_dst (N := 4) rfl ?_); refine box_event ?hg (N := 4) ?hd (cs := #[.int .i64 0]) (t := 25) ?hr ?_; (case hd => rfl); (case hg => rfl); (case hr => first | (go_simp; done) | (go_simp; rfl)); intro gb155 hg w7 hbox hb; have n0_ := Aside0.mk (below_step (by repeat (first | (with_reducible first | exact HB.out | apply below_alloc | apply pw_below_drewN | apply below_drew1) | exact HB.out)) hb); have n1_ := Aside0.mk (hbox); have n2_ := Aside0.mk ((by rw [hg]; exact (below_size (by repeat (first | (with_reducible first | exact HB.out | apply below_alloc | apply pw_below_drewN | apply below_drew1) | exact HB.out))) : w.heap.size ≤ gb155)); have n3_ := Aside0.mk ((by rw [hg]; exact (below_size (by repeat (first | (with_reducible first | exact HB.out | apply below_alloc | apply pw_below_drewN | apply below_drew1) | exact HB.out))) : w.heap.size ≤ gb155)); clear HB; have HB := n0_; have BK155 := n1_; have GW155 := n2_; have GE155 := n3_; clear n0_ n1_ n2_ n3_; clear hb hbox hg; have hcz8_0 : w7.cell? ⟨gb155, 0, none⟩ = some (.int .i64 0) := (blk_cell BK155.out 0).trans rfl; have hfz8_0 := blk_frozen BK155.out 0))
      go_loopg [5] k (fun kq v5 w' => ∃ (x5_1 : Int) (x156000_1 : Int), v5 = .int .i64 x5_1 ∧ Aside0 (tollbarlaw29_HoldTurns.l0 kq l0 x5_1 x156000_1 = some r) ∧ Aside0 (kq ≤ k) ∧ Aside0 (w'.heap[gb155]? = some (.cells #[.int .i64 x156000_1] 25 (0, 0))) ∧ Aside0 (Below w.heap.size w w'))
      case atStart => exact ⟨(0), (0), (by first | rfl | (simp; done) | (simp [*]; done)), H', ⟨Nat.le_refl _⟩, ⟨by (with_reducible repeat (first | refine blk_drewN ?_ _ | refine blk_drew ?_ | refine blk_alloc ?_ _)); refine blk_put (cs := #[.int .i64 0]) ?_ 0 _ rfl; (with_reducible repeat (first | refine blk_drewN ?_ _ | refine blk_drew ?_ | refine blk_alloc ?_ _)); exact BK155.out⟩, ⟨by repeat (first | (with_reducible first | exact HB.out | apply below_alloc | apply pw_below_drewN | apply below_drew1 | refine below_set ?_ GE155.out) | exact HB.out)⟩⟩
      case round =>
        clear H'
        try clear p2
        try clear c3
        try clear c4
        try clear c4b0
        try clear c4b1
        try clear c5
        try clear c6
        try clear hcz8_0
        try clear hfz8_0
        obtain ⟨x5_1, x156000_1, rfl, HA, HK1, BK155, HB⟩ := hrel
        cases gk with
        | zero => exact absurd HA.out (by simp [tollbarlaw29_HoldTurns.l0])
        | succ k1 =>
          have H := HA.out
          clear HA
          simp only [tollbarlaw29_HoldTurns.l0] at H
          by_cases c9 : x5_1 < (l0.length : Int)
          · rw [if_pos c9] at H
            have c9b0 : decide (x5_1 < (l0.length : Int)) = true := decide_eq_true c9
            clear c9
            by_cases c10 : 0 ≤ x5_1
            · rw [if_pos c10] at H
              have c10b0 : decide (0 ≤ x5_1) = true := decide_eq_true c10
              clear c10
              replace H := Option.bind_eq_some_iff.mp H
              obtain ⟨⟨t158, t159⟩, A110, H⟩ := H
              replace H : (if t159 = 0 then ((hold_Hold_Take.f t158 (rd l0 x5_1)).bind fun bt161 => ((hold_Hold_Give.f k1 t158 (rd l0 x5_1)).bind fun bt164 => (if t158 = (rd l0 x5_1) then (if bt161.2 = 0 then (if (!(bt161.1 == t158)) = true then (tollbarlaw29_HoldTurns.j1 k1 l0 x5_1 true t158 bt164.1) else (if bt164.2 = 0 then (if bt164.1 = 0 then (if x156000_1 = 0 then (tollbarlaw29_HoldTurns.j1 k1 l0 x5_1 false t158 bt164.1) else (tollbarlaw29_HoldTurns.j1 k1 l0 x5_1 (x156000_1 != (rd l0 x5_1)) t158 bt164.1)) else (tollbarlaw29_HoldTurns.j1 k1 l0 x5_1 true t158 bt164.1)) else (tollbarlaw29_HoldTurns.j1 k1 l0 x5_1 true t158 bt164.1))) else (tollbarlaw29_HoldTurns.j1 k1 l0 x5_1 true t158 bt164.1)) else (tollbarlaw29_HoldTurns.j1 k1 l0 x5_1 true t158 bt164.1)))) else (if (!(t158 == x156000_1)) = true then (some false) else (if ((t159 == 1) != (decide ((rd l0 x5_1) < 1))) = true then (some false) else (tollbarlaw29_HoldTurns.l0 k1 l0 (wrap64 (x5_1 + 1)) x156000_1)))) = some r := H
              have A11 := Aside0.mk A110
              clear A110
              by_cases c12 : t159 = 0
              · rw [if_pos c12] at H
                have c12b0 : (t159 == 0) = true := beq_iff_eq.mpr c12
                have c12b1 : (t159 != 0) = false := bne_eq_false_iff_eq.mpr c12
                clear c12
                replace H := Option.bind_eq_some_iff.mp H
                obtain ⟨⟨t161, t162⟩, A130, H⟩ := H
                replace H : ((hold_Hold_Give.f k1 t158 (rd l0 x5_1)).bind fun bt164 => (if t158 = (rd l0 x5_1) then (if t162 = 0 then (if (!(t161 == t158)) = true then (tollbarlaw29_HoldTurns.j1 k1 l0 x5_1 true t158 bt164.1) else (if bt164.2 = 0 then (if bt164.1 = 0 then (if x156000_1 = 0 then (tollbarlaw29_HoldTurns.j1 k1 l0 x5_1 false t158 bt164.1) else (tollbarlaw29_HoldTurns.j1 k1 l0 x5_1 (x156000_1 != (rd l0 x5_1)) t158 bt164.1)) else (tollbarlaw29_HoldTurns.j1 k1 l0 x5_1 true t158 bt164.1)) else (tollbarlaw29_HoldTurns.j1 k1 l0 x5_1 true t158 bt164.1))) else (tollbarlaw29_HoldTurns.j1 k1 l0 x5_1 true t158 bt164.1)) else (tollbarlaw29_HoldTurns.j1 k1 l0 x5_1 true t158 bt164.1))) = some r := H
                have A13 := Aside0.mk A130
                clear A130
                replace H := Option.bind_eq_some_iff.mp H
                obtain ⟨⟨t164, t165⟩, A140, H⟩ := H
                replace H : (if t158 = (rd l0 x5_1) then (if t162 = 0 then (if (!(t161 == t158)) = true then (tollbarlaw29_HoldTurns.j1 k1 l0 x5_1 true t158 t164) else (if t165 = 0 then (if t164 = 0 then (if x156000_1 = 0 then (tollbarlaw29_HoldTurns.j1 k1 l0 x5_1 false t158 t164) else (tollbarlaw29_HoldTurns.j1 k1 l0 x5_1 (x156000_1 != (rd l0 x5_1)) t158 t164)) else (tollbarlaw29_HoldTurns.j1 k1 l0 x5_1 true t158 t164)) else (tollbarlaw29_HoldTurns.j1 k1 l0 x5_1 true t158 t164))) else (tollbarlaw29_HoldTurns.j1 k1 l0 x5_1 true t158 t164)) else (tollbarlaw29_HoldTurns.j1 k1 l0 x5_1 true t158 t164)) = some r := H
                have A14 := Aside0.mk A140
                clear A140
                have HC15 := Aside0.mk H
                clear H
                have p156 : 0 ≤ (x5_1 : Int) := of_decide_eq_true (by first | (with_reducible assumption) | assumption)
                have q156 : x5_1 < (l0.length : Int) := of_decide_eq_true (by first | (with_reducible assumption) | assumption)
                obtain ⟨ad156, e156, hx156_0⟩ := Kd.at_int HR0.out x5_1 p156 q156
                cases e156
                replace hx156_0 := (HB.out.cell (World.block_lt_of_cell? w _ hx156_0)).trans hx156_0
                replace p156 := eq_true p156
                replace q156 := eq_true q156
                have hcz16_0 : wr.cell? ⟨gb155, 0, none⟩ = some (.int .i64 x156000_1) := (blk_cell BK155.out 0).trans rfl
                have hfz16_0 := blk_frozen BK155.out 0
                go_upto_region 18 with (first | ((with_reducible refine gate_dst (N := 7) rfl ?_); refine box_event ?hg (N := 7) ?hd (cs := #[.int .i64 0]) (t := 25) ?hr ?_; (case hd => rfl); (case hg => rfl); (case hr => first | (go_simp; done) | (go_simp; rfl)); intro gb157 hg w17 hbox hb; have n0_ := Aside0.mk (blk_below (g := gb155) (o := .cells #[.int .i64 x156000_1] 25 (0, 0)) (by (with_reducible repeat (first | refine blk_drewN ?_ _ | refine blk_drew ?_ | refine blk_alloc ?_ _)); exact BK155.out) hb); have n1_ := Aside0.mk (below_step (by repeat (first | (with_reducible first | exact HB.out | apply below_alloc | apply pw_below_drewN | apply below_drew1 | refine below_set ?_ GE155.out) | exact HB.out)) hb); have n2_ := Aside0.mk (hbox); have n3_ := Aside0.mk ((by rw [hg]; exact (below_size (by repeat (first | (with_reducible first | exact HB.out | apply below_alloc | apply pw_below_drewN | apply below_drew1 | refine below_set ?_ GE155.out) | exact HB.out))) : w.heap.size ≤ gb157)); have n4_ := Aside0.mk ((by rw [hg]; exact (below_size (by repeat (first | (with_reducible first | exact HB.out | apply below_alloc | apply pw_below_drewN | apply below_drew1 | refine below_set ?_ GE155.out) | exact HB.out))) : w.heap.size ≤ gb157)); have n5_ := Aside0.mk ((by rw [hg]; exact Nat.ne_of_lt (blk_lt (g := gb155) (o := .cells #[.int .i64 x156000_1] 25 (0, 0)) (by (with_reducible repeat (first | refine blk_drewN ?_ _ | refine blk_drew ?_ | refine blk_alloc ?_ _)); exact BK155.out)) : gb155 ≠ gb157)); have n6_ := Aside0.mk ((by rw [hg]; exact Nat.ne_of_gt (blk_lt (g := gb155) (o := .cells #[.int .i64 x156000_1] 25 (0, 0)) (by (with_reducible repeat (first | refine blk_drewN ?_ _ | refine blk_drew ?_ | refine blk_alloc ?_ _)); exact BK155.out)) : gb157 ≠ gb155)); clear BK155; clear HB; have BK155 := n0_; have HB := n1_; have BK157 := n2_; have GW157 := n3_; have GE157 := n4_; have NB155_157 := n5_; have NB157_155 := n6_; clear n0_ n1_ n2_ n3_ n4_ n5_ n6_; clear hb hbox hg; have hnb18 := NB157_155.out; have hnc18 := NB155_157.out; have hcz19_0 : w17.cell? ⟨gb157, 0, none⟩ = some (.int .i64 0) := (blk_cell BK157.out 0).trans rfl; have hfz19_0 := blk_frozen BK157.out 0; have hcz20_0 : w17.cell? ⟨gb155, 0, none⟩ = some (.int .i64 x156000_1) := (blk_cell BK155.out 0).trans rfl; have hfz20_0 := blk_frozen BK155.out 0) | ((with_reducible refine gate_callee (f := 9) rfl ?_); refine goesL_ (some 35) rfl rfl Try.func9 (by kernel_rfl) rfl #[.agg #[.int .i64 x156000_1], .int .i64 (rd l0 x5_1)] rfl (by (try simp only [List.map_toArray, List.map_cons, List.map_nil]); first | done | rfl | (simp only [List.length_drop, List.length_take]; rfl)) ?_; (with_reducible refine (hold_Hold_Take.calls x156000_1 (rd l0 x5_1) t158 t159 _ A11.out).mono ?_); rintro e w21 ⟨rfl, hb⟩; refine ⟨_, rfl, ?_⟩; have n0_ := Aside0.mk (blk_below (g := gb155) (o := .cells #[.int .i64 x156000_1] 25 (0, 0)) (by (with_reducible repeat (first | refine blk_drewN ?_ _ | refine blk_drew ?_ | refine blk_alloc ?_ _)); refine blk_far ?_ NB155_157.out _; (with_reducible repeat (first | refine blk_drewN ?_ _ | refine blk_drew ?_ | refine blk_alloc ?_ _)); exact BK155.out) hb); have n1_ := Aside0.mk (blk_below (g := gb157) (o := .cells #[.int .i64 x156000_1] 25 (0, 0)) (by (with_reducible repeat (first | refine blk_drewN ?_ _ | refine blk_drew ?_ | refine blk_alloc ?_ _)); refine blk_put (cs := #[.int .i64 0]) ?_ 0 _ rfl; (with_reducible repeat (first | refine blk_drewN ?_ _ | refine blk_drew ?_ | refine blk_alloc ?_ _)); exact BK157.out) hb); have n2_ := Aside0.mk (below_step (by repeat (first | (with_reducible first | exact HB.out | apply below_alloc | apply pw_below_drewN | apply below_drew1 | refine below_set ?_ GE155.out | refine below_set ?_ GE157.out) | exact HB.out)) hb); clear BK155; clear BK157; clear HB; have BK155 := n0_; have BK157 := n1_; have HB := n2_; clear n0_ n1_ n2_; (try clear hb); (try clear hb2); (try clear hk); (try clear hi)) | ((with_reducible refine gate_dst (N := 8) rfl ?_); refine box_event ?hg (N := 8) ?hd (cs := #[.int .i64 0]) (t := 25) ?hr ?_; (case hd => rfl); (case hg => rfl); (case hr => first | (go_simp; done) | (go_simp; rfl)); intro gb160 hg w22 hbox hb; have n0_ := Aside0.mk (blk_below (g := gb155) (o := .cells #[.int .i64 x156000_1] 25 (0, 0)) (by (with_reducible repeat (first | refine blk_drewN ?_ _ | refine blk_drew ?_ | refine blk_alloc ?_ _)); exact BK155.out) hb); have n1_ := Aside0.mk (blk_below (g := gb157) (o := .cells #[.int .i64 x156000_1] 25 (0, 0)) (by (with_reducible repeat (first | refine blk_drewN ?_ _ | refine blk_drew ?_ | refine blk_alloc ?_ _)); exact BK157.out) hb); have n2_ := Aside0.mk (below_step (by repeat (first | (with_reducible first | exact HB.out | apply below_alloc | apply pw_below_drewN | apply below_drew1 | refine below_set ?_ GE155.out | refine below_set ?_ GE157.out) | exact HB.out)) hb); have n3_ := Aside0.mk (hbox); have n4_ := Aside0.mk ((by rw [hg]; exact (below_size (by repeat (first | (with_reducible first | exact HB.out | apply below_alloc | apply pw_below_drewN | apply below_drew1 | refine below_set ?_ GE155.out | refine below_set ?_ GE157.out) | exact HB.out))) : w.heap.size ≤ gb160)); have n5_ := Aside0.mk ((by rw [hg]; exact (below_size (by repeat (first | (with_reducible first | exact HB.out | apply below_alloc | apply pw_below_drewN | apply below_drew1 | refine below_set ?_ GE155.out | refine below_set ?_ GE157.out) | exact HB.out))) : w.heap.size ≤ gb160)); have n6_ := Aside0.mk ((by rw [hg]; exact Nat.ne_of_lt (blk_lt (g := gb155) (o := .cells #[.int .i64 x156000_1] 25 (0, 0)) (by (with_reducible repeat (first | refine blk_drewN ?_ _ | refine blk_drew ?_ | refine blk_alloc ?_ _)); exact BK155.out)) : gb155 ≠ gb160)); have n7_ := Aside0.mk ((by rw [hg]; exact Nat.ne_of_gt (blk_lt (g := gb155) (o := .cells #[.int .i64 x156000_1] 25 (0, 0)) (by (with_reducible repeat (first | refine blk_drewN ?_ _ | refine blk_drew ?_ | refine blk_alloc ?_ _)); exact BK155.out)) : gb160 ≠ gb155)); have n8_ := Aside0.mk ((by rw [hg]; exact Nat.ne_of_lt (blk_lt (g := gb157) (o := .cells #[.int .i64 x156000_1] 25 (0, 0)) (by (with_reducible repeat (first | refine blk_drewN ?_ _ | refine blk_drew ?_ | refine blk_alloc ?_ _)); exact BK157.out)) : gb157 ≠ gb160)); have n9_ := Aside0.mk ((by rw [hg]; exact Nat.ne_of_gt (blk_lt (g := gb157) (o := .cells #[.int .i64 x156000_1] 25 (0, 0)) (by (with_reducible repeat (first | refine blk_drewN ?_ _ | refine blk_drew ?_ | refine blk_alloc ?_ _)); exact BK157.out)) : gb160 ≠ gb157)); clear BK155; clear BK157; clear HB; have BK155 := n0_; have BK157 := n1_; have HB := n2_; have BK160 := n3_; have GW160 := n4_; have GE160 := n5_; have NB155_160 := n6_; have NB160_155 := n7_; have NB157_160 := n8_; have NB160_157 := n9_; clear n0_ n1_ n2_ n3_ n4_ n5_ n6_ n7_ n8_ n9_; clear hb hbox hg; have hnb23 := NB160_155.out; have hnc23 := NB155_160.out; have hnb24 := NB160_157.out; have hnc24 := NB157_160.out; have hcz25_0 : w22.cell? ⟨gb160, 0, none⟩ = some (.int .i64 0) := (blk_cell BK160.out 0).trans rfl; have hfz25_0 := blk_frozen BK160.out 0) | ((with_reducible refine gate_callee (f := 9) rfl ?_); refine goesL_ (some 53) rfl rfl Try.func9 (by kernel_rfl) rfl #[.agg #[.int .i64 t158], .int .i64 (rd l0 x5_1)] rfl (by (try simp only [List.map_toArray, List.map_cons, List.map_nil]); first | done | rfl | (simp only [List.length_drop, List.length_take]; rfl)) ?_; (with_reducible refine (hold_Hold_Take.calls t158 (rd l0 x5_1) t161 t162 _ A13.out).mono ?_); rintro e w26 ⟨rfl, hb⟩; refine ⟨_, rfl, ?_⟩; have n0_ := Aside0.mk (blk_below (g := gb155) (o := .cells #[.int .i64 x156000_1] 25 (0, 0)) (by (with_reducible repeat (first | refine blk_drewN ?_ _ | refine blk_drew ?_ | refine blk_alloc ?_ _)); refine blk_far ?_ NB155_160.out _; (with_reducible repeat (first | refine blk_drewN ?_ _ | refine blk_drew ?_ | refine blk_alloc ?_ _)); exact BK155.out) hb); have n1_ := Aside0.mk (blk_below (g := gb157) (o := .cells #[.int .i64 x156000_1] 25 (0, 0)) (by (with_reducible repeat (first | refine blk_drewN ?_ _ | refine blk_drew ?_ | refine blk_alloc ?_ _)); refine blk_far ?_ NB157_160.out _; (with_reducible repeat (first | refine blk_drewN ?_ _ | refine blk_drew ?_ | refine blk_alloc ?_ _)); exact BK157.out) hb); have n2_ := Aside0.mk (blk_below (g := gb160) (o := .cells #[.int .i64 t158] 25 (0, 0)) (by (with_reducible repeat (first | refine blk_drewN ?_ _ | refine blk_drew ?_ | refine blk_alloc ?_ _)); refine blk_put (cs := #[.int .i64 0]) ?_ 0 _ rfl; (with_reducible repeat (first | refine blk_drewN ?_ _ | refine blk_drew ?_ | refine blk_alloc ?_ _)); exact BK160.out) hb); have n3_ := Aside0.mk (below_step (by repeat (first | (with_reducible first | exact HB.out | apply below_alloc | apply pw_below_drewN | apply below_drew1 | refine below_set ?_ GE155.out | refine below_set ?_ GE157.out | refine below_set ?_ GE160.out) | exact HB.out)) hb); clear BK155; clear BK157; clear BK160; clear HB; have BK155 := n0_; have BK157 := n1_; have BK160 := n2_; have HB := n3_; clear n0_ n1_ n2_ n3_; (try clear hb); (try clear hb2); (try clear hk); (try clear hi)) | ((with_reducible refine gate_dst (N := 10) rfl ?_); refine box_event ?hg (N := 10) ?hd (cs := #[.int .i64 0]) (t := 25) ?hr ?_; (case hd => rfl); (case hg => rfl); (case hr => first | (go_simp; done) | (go_simp; rfl)); intro gb163 hg w27 hbox hb; have n0_ := Aside0.mk (blk_below (g := gb155) (o := .cells #[.int .i64 x156000_1] 25 (0, 0)) (by (with_reducible repeat (first | refine blk_drewN ?_ _ | refine blk_drew ?_ | refine blk_alloc ?_ _)); exact BK155.out) hb); have n1_ := Aside0.mk (blk_below (g := gb157) (o := .cells #[.int .i64 x156000_1] 25 (0, 0)) (by (with_reducible repeat (first | refine blk_drewN ?_ _ | refine blk_drew ?_ | refine blk_alloc ?_ _)); exact BK157.out) hb); have n2_ := Aside0.mk (blk_below (g := gb160) (o := .cells #[.int .i64 t158] 25 (0, 0)) (by (with_reducible repeat (first | refine blk_drewN ?_ _ | refine blk_drew ?_ | refine blk_alloc ?_ _)); exact BK160.out) hb); have n3_ := Aside0.mk (below_step (by repeat (first | (with_reducible first | exact HB.out | apply below_alloc | apply pw_below_drewN | apply below_drew1 | refine below_set ?_ GE155.out | refine below_set ?_ GE157.out | refine below_set ?_ GE160.out) | exact HB.out)) hb); have n4_ := Aside0.mk (hbox); have n5_ := Aside0.mk ((by rw [hg]; exact (below_size (by repeat (first | (with_reducible first | exact HB.out | apply below_alloc | apply pw_below_drewN | apply below_drew1 | refine below_set ?_ GE155.out | refine below_set ?_ GE157.out | refine below_set ?_ GE160.out) | exact HB.out))) : w.heap.size ≤ gb163)); have n6_ := Aside0.mk ((by rw [hg]; exact (below_size (by repeat (first | (with_reducible first | exact HB.out | apply below_alloc | apply pw_below_drewN | apply below_drew1 | refine below_set ?_ GE155.out | refine below_set ?_ GE157.out | refine below_set ?_ GE160.out) | exact HB.out))) : w.heap.size ≤ gb163)); have n7_ := Aside0.mk ((by rw [hg]; exact Nat.ne_of_lt (blk_lt (g := gb155) (o := .cells #[.int .i64 x156000_1] 25 (0, 0)) (by (with_reducible repeat (first | refine blk_drewN ?_ _ | refine blk_drew ?_ | refine blk_alloc ?_ _)); exact BK155.out)) : gb155 ≠ gb163)); have n8_ := Aside0.mk ((by rw [hg]; exact Nat.ne_of_gt (blk_lt (g := gb155) (o := .cells #[.int .i64 x156000_1] 25 (0, 0)) (by (with_reducible repeat (first | refine blk_drewN ?_ _ | refine blk_drew ?_ | refine blk_alloc ?_ _)); exact BK155.out)) : gb163 ≠ gb155)); have n9_ := Aside0.mk ((by rw [hg]; exact Nat.ne_of_lt (blk_lt (g := gb157) (o := .cells #[.int .i64 x156000_1] 25 (0, 0)) (by (with_reducible repeat (first | refine blk_drewN ?_ _ | refine blk_drew ?_ | refine blk_alloc ?_ _)); exact BK157.out)) : gb157 ≠ gb163)); have n10_ := Aside0.mk ((by rw [hg]; exact Nat.ne_of_gt (blk_lt (g := gb157) (o := .cells #[.int .i64 x156000_1] 25 (0, 0)) (by (with_reducible repeat (first | refine blk_drewN ?_ _ | refine blk_drew ?_ | refine blk_alloc ?_ _)); exact BK157.out)) : gb163 ≠ gb157)); have n11_ := Aside0.mk ((by rw [hg]; exact Nat.ne_of_lt (blk_lt (g := gb160) (o := .cells #[.int .i64 t158] 25 (0, 0)) (by (with_reducible repeat (first | refine blk_drewN ?_ _ | refine blk_drew ?_ | refine blk_alloc ?_ _)); exact BK160.out)) : gb160 ≠ gb163)); have n12_ := Aside0.mk ((by rw [hg]; exact Nat.ne_of_gt (blk_lt (g := gb160) (o := .cells #[.int .i64 t158] 25 (0, 0)) (by (with_reducible repeat (first | refine blk_drewN ?_ _ | refine blk_drew ?_ | refine blk_alloc ?_ _)); exact BK160.out)) : gb163 ≠ gb160)); clear BK155; clear BK157; clear BK160; clear HB; have BK155 := n0_; have BK157 := n1_; have BK160 := n2_; have HB := n3_; have BK163 := n4_; have GW163 := n5_; have GE163 := n6_; have NB155_163 := n7_; have NB163_155 := n8_; have NB157_163 := n9_; have NB163_157 := n10_; have NB160_163 := n11_; have NB163_160 := n12_; clear n0_ n1_ n2_ n3_ n4_ n5_ n6_ n7_ n8_ n9_ n10_ n11_ n12_; clear hb hbox hg; have hnb28 := NB163_155.out; have hnc28 := NB155_163.out; have hnb29 := NB163_157.out; have hnc29 := NB157_163.out; have hnb30 := NB163_160.out; have hnc30 := NB160_163.out; have hcz31_0 : w27.cell? ⟨gb163, 0, none⟩ = some (.int .i64 0) := (blk_cell BK163.out 0).trans rfl; have hfz31_0 := blk_frozen BK163.out 0; have hcz32_0 : w27.cell? ⟨gb160, 0, none⟩ = some (.int .i64 t158) := (blk_cell BK160.out 0).trans rfl; have hfz32_0 := blk_frozen BK160.out 0) | ((with_reducible refine gate_callee (f := 11) rfl ?_); refine goesL_ (some 59) rfl rfl Try.func11 (by kernel_rfl) rfl #[.agg #[.int .i64 t158], .int .i64 (rd l0 x5_1)] rfl (by (try simp only [List.map_toArray, List.map_cons, List.map_nil]); first | done | rfl | (simp only [List.length_drop, List.length_take]; rfl)) ?_; (with_reducible refine (hold_Hold_Give.calls k1 t158 (rd l0 x5_1) t164 t165 _ A14.out).mono ?_); rintro e w33 ⟨rfl, hb⟩; refine ⟨_, rfl, ?_⟩; have n0_ := Aside0.mk (blk_below (g := gb155) (o := .cells #[.int .i64 x156000_1] 25 (0, 0)) (by (with_reducible repeat (first | refine blk_drewN ?_ _ | refine blk_drew ?_ | refine blk_alloc ?_ _)); refine blk_far ?_ NB155_163.out _; (with_reducible repeat (first | refine blk_drewN ?_ _ | refine blk_drew ?_ | refine blk_alloc ?_ _)); exact BK155.out) hb); have n1_ := Aside0.mk (blk_below (g := gb157) (o := .cells #[.int .i64 x156000_1] 25 (0, 0)) (by (with_reducible repeat (first | refine blk_drewN ?_ _ | refine blk_drew ?_ | refine blk_alloc ?_ _)); refine blk_far ?_ NB157_163.out _; (with_reducible repeat (first | refine blk_drewN ?_ _ | refine blk_drew ?_ | refine blk_alloc ?_ _)); exact BK157.out) hb); have n2_ := Aside0.mk (blk_below (g := gb160) (o := .cells #[.int .i64 t158] 25 (0, 0)) (by (with_reducible repeat (first | refine blk_drewN ?_ _ | refine blk_drew ?_ | refine blk_alloc ?_ _)); refine blk_far ?_ NB160_163.out _; (with_reducible repeat (first | refine blk_drewN ?_ _ | refine blk_drew ?_ | refine blk_alloc ?_ _)); exact BK160.out) hb); have n3_ := Aside0.mk (blk_below (g := gb163) (o := .cells #[.int .i64 t161] 25 (0, 0)) (by (with_reducible repeat (first | refine blk_drewN ?_ _ | refine blk_drew ?_ | refine blk_alloc ?_ _)); refine blk_put (cs := #[.int .i64 0]) ?_ 0 _ rfl; (with_reducible repeat (first | refine blk_drewN ?_ _ | refine blk_drew ?_ | refine blk_alloc ?_ _)); exact BK163.out) hb); have n4_ := Aside0.mk (below_step (by repeat (first | (with_reducible first | exact HB.out | apply below_alloc | apply pw_below_drewN | apply below_drew1 | refine below_set ?_ GE155.out | refine below_set ?_ GE157.out | refine below_set ?_ GE160.out | refine below_set ?_ GE163.out) | exact HB.out)) hb); clear BK155; clear BK157; clear BK160; clear BK163; clear HB; have BK155 := n0_; have BK157 := n1_; have BK160 := n2_; have BK163 := n3_; have HB := n4_; clear n0_ n1_ n2_ n3_ n4_; (try clear hb); (try clear hb2); (try clear hk); (try clear hi)) | ((with_reducible refine gate_dst (N := 12) rfl ?_); refine box_event ?hg (N := 12) ?hd (cs := #[.int .i64 0]) (t := 25) ?hr ?_; (case hd => rfl); (case hg => rfl); (case hr => first | (go_simp; done) | (go_simp; rfl)); intro gb166 hg w34 hbox hb; have n0_ := Aside0.mk (blk_below (g := gb155) (o := .cells #[.int .i64 x156000_1] 25 (0, 0)) (by (with_reducible repeat (first | refine blk_drewN ?_ _ | refine blk_drew ?_ | refine blk_alloc ?_ _)); exact BK155.out) hb); have n1_ := Aside0.mk (blk_below (g := gb157) (o := .cells #[.int .i64 x156000_1] 25 (0, 0)) (by (with_reducible repeat (first | refine blk_drewN ?_ _ | refine blk_drew ?_ | refine blk_alloc ?_ _)); exact BK157.out) hb); have n2_ := Aside0.mk (blk_below (g := gb160) (o := .cells #[.int .i64 t158] 25 (0, 0)) (by (with_reducible repeat (first | refine blk_drewN ?_ _ | refine blk_drew ?_ | refine blk_alloc ?_ _)); exact BK160.out) hb); have n3_ := Aside0.mk (blk_below (g := gb163) (o := .cells #[.int .i64 t161] 25 (0, 0)) (by (with_reducible repeat (first | refine blk_drewN ?_ _ | refine blk_drew ?_ | refine blk_alloc ?_ _)); exact BK163.out) hb); have n4_ := Aside0.mk (below_step (by repeat (first | (with_reducible first | exact HB.out | apply below_alloc | apply pw_below_drewN | apply below_drew1 | refine below_set ?_ GE155.out | refine below_set ?_ GE157.out | refine below_set ?_ GE160.out | refine below_set ?_ GE163.out) | exact HB.out)) hb); have n5_ := Aside0.mk (hbox); have n6_ := Aside0.mk ((by rw [hg]; exact (below_size (by repeat (first | (with_reducible first | exact HB.out | apply below_alloc | apply pw_below_drewN | apply below_drew1 | refine below_set ?_ GE155.out | refine below_set ?_ GE157.out | refine below_set ?_ GE160.out | refine below_set ?_ GE163.out) | exact HB.out))) : w.heap.size ≤ gb166)); have n7_ := Aside0.mk ((by rw [hg]; exact (below_size (by repeat (first | (with_reducible first | exact HB.out | apply below_alloc | apply pw_below_drewN | apply below_drew1 | refine below_set ?_ GE155.out | refine below_set ?_ GE157.out | refine below_set ?_ GE160.out | refine below_set ?_ GE163.out) | exact HB.out))) : w.heap.size ≤ gb166)); have n8_ := Aside0.mk ((by rw [hg]; exact Nat.ne_of_lt (blk_lt (g := gb155) (o := .cells #[.int .i64 x156000_1] 25 (0, 0)) (by (with_reducible repeat (first | refine blk_drewN ?_ _ | refine blk_drew ?_ | refine blk_alloc ?_ _)); exact BK155.out)) : gb155 ≠ gb166)); have n9_ := Aside0.mk ((by rw [hg]; exact Nat.ne_of_gt (blk_lt (g := gb155) (o := .cells #[.int .i64 x156000_1] 25 (0, 0)) (by (with_reducible repeat (first | refine blk_drewN ?_ _ | refine blk_drew ?_ | refine blk_alloc ?_ _)); exact BK155.out)) : gb166 ≠ gb155)); have n10_ := Aside0.mk ((by rw [hg]; exact Nat.ne_of_lt (blk_lt (g := gb157) (o := .cells #[.int .i64 x156000_1] 25 (0, 0)) (by (with_reducible repeat (first | refine blk_drewN ?_ _ | refine blk_drew ?_ | refine blk_alloc ?_ _)); exact BK157.out)) : gb157 ≠ gb166)); have n11_ := Aside0.mk ((by rw [hg]; exact Nat.ne_of_gt (blk_lt (g := gb157) (o := .cells #[.int .i64 x156000_1] 25 (0, 0)) (by (with_reducible repeat (first | refine blk_drewN ?_ _ | refine blk_drew ?_ | refine blk_alloc ?_ _)); exact BK157.out)) : gb166 ≠ gb157)); have n12_ := Aside0.mk ((by rw [hg]; exact Nat.ne_of_lt (blk_lt (g := gb160) (o := .cells #[.int .i64 t158] 25 (0, 0)) (by (with_reducible repeat (first | refine blk_drewN ?_ _ | refine blk_drew ?_ | refine blk_alloc ?_ _)); exact BK160.out)) : gb160 ≠ gb166)); have n13_ := Aside0.mk ((by rw [hg]; exact Nat.ne_of_gt (blk_lt (g := gb160) (o := .cells #[.int .i64 t158] 25 (0, 0)) (by (with_reducible repeat (first | refine blk_drewN ?_ _ | refine blk_drew ?_ | refine blk_alloc ?_ _)); exact BK160.out)) : gb166 ≠ gb160)); have n14_ := Aside0.mk ((by rw [hg]; exact Nat.ne_of_lt (blk_lt (g := gb163) (o := .cells #[.int .i64 t161] 25 (0, 0)) (by (with_reducible repeat (first | refine blk_drewN ?_ _ | refine blk_drew ?_ | refine blk_alloc ?_ _)); exact BK163.out)) : gb163 ≠ gb166)); have n15_ := Aside0.mk ((by rw [hg]; exact Nat.ne_of_gt (blk_lt (g := gb163) (o := .cells #[.int .i64 t161] 25 (0, 0)) (by (with_reducible repeat (first | refine blk_drewN ?_ _ | refine blk_drew ?_ | refine blk_alloc ?_ _)); exact BK163.out)) : gb166 ≠ gb163)); clear BK155; clear BK157; clear BK160; clear BK163; clear HB; have BK155 := n0_; have BK157 := n1_; have BK160 := n2_; have BK163 := n3_; have HB := n4_; have BK166 := n5_; have GW166 := n6_; have GE166 := n7_; have NB155_166 := n8_; have NB166_155 := n9_; have NB157_166 := n10_; have NB166_157 := n11_; have NB160_166 := n12_; have NB166_160 := n13_; have NB163_166 := n14_; have NB166_163 := n15_; clear n0_ n1_ n2_ n3_ n4_ n5_ n6_ n7_ n8_ n9_ n10_ n11_ n12_ n13_ n14_ n15_; clear hb hbox hg; have hnb35 := NB166_155.out; have hnc35 := NB155_166.out; have hnb36 := NB166_157.out; have hnc36 := NB157_166.out; have hnb37 := NB166_160.out; have hnc37 := NB160_166.out; have hnb38 := NB166_163.out; have hnc38 := NB163_166.out; have hcz39_0 : w34.cell? ⟨gb166, 0, none⟩ = some (.int .i64 0) := (blk_cell BK166.out 0).trans rfl; have hfz39_0 := blk_frozen BK166.out 0))
                (try simp only [Act.put, List.setIfInBounds_toArray, List.set_cons_zero, List.set_cons_succ])
                go_cut [94] (fun v94 wc => ∃ (kq : Nat) (x94_14 : Bool), v94 = .bool x94_14 ∧ Aside0 (tollbarlaw29_HoldTurns.j1 kq l0 x5_1 x94_14 t158 t164 = some r) ∧ Aside0 (kq ≤ k1) ∧ Aside0 (wc.heap[gb155]? = some (.cells #[.int .i64 x156000_1] 25 (0, 0))) ∧ Aside0 (wc.heap[gb157]? = some (.cells #[.int .i64 x156000_1] 25 (0, 0))) ∧ Aside0 (wc.heap[gb160]? = some (.cells #[.int .i64 t158] 25 (0, 0))) ∧ Aside0 (wc.heap[gb163]? = some (.cells #[.int .i64 t161] 25 (0, 0))) ∧ Aside0 (wc.heap[gb166]? = some (.cells #[.int .i64 t164] 25 (0, 0))) ∧ Aside0 (Below w.heap.size w wc))
                case first =>
                  have H := HC15.out
                  clear HC15
                  by_cases c40 : t158 = (rd l0 x5_1)
                  · rw [if_pos c40] at H
                    have c40b0 : (t158 == (rd l0 x5_1)) = true := beq_iff_eq.mpr c40
                    have c40b1 : (t158 != (rd l0 x5_1)) = false := bne_eq_false_iff_eq.mpr c40
                    clear c40
                    (first | rw [c40b0] | (simp only [i64_w, i32_w]; rw [c40b0]) | skip)
                    by_cases c41 : t162 = 0
                    · rw [if_pos c41] at H
                      have c41b0 : (t162 == 0) = true := beq_iff_eq.mpr c41
                      have c41b1 : (t162 != 0) = false := bne_eq_false_iff_eq.mpr c41
                      clear c41
                      by_cases c42 : (!(t161 == t158)) = true
                      · rw [if_pos c42] at H
                        have c42b0 : (!(t161 == t158)) = true := c42
                        clear c42
                        have H' := Aside0.mk H
                        clear H
                        have hnb43 := NB160_155.out
                        have hnc43 := NB155_160.out
                        have hnb44 := NB160_157.out
                        have hnc44 := NB157_160.out
                        have hnb45 := NB160_163.out
                        have hnc45 := NB163_160.out
                        have hnb46 := NB160_166.out
                        have hnc46 := NB166_160.out
                        have hcz47_0 : w34.cell? ⟨gb160, 0, none⟩ = some (.int .i64 t158) := (blk_cell BK160.out 0).trans rfl
                        have hfz47_0 := blk_frozen BK160.out 0
                        have hnb48 := NB163_155.out
                        have hnc48 := NB155_163.out
                        have hnb49 := NB163_157.out
                        have hnc49 := NB157_163.out
                        have hnb50 := NB163_166.out
                        have hnc50 := NB166_163.out
                        have hcz51_0 : w34.cell? ⟨gb163, 0, none⟩ = some (.int .i64 t161) := (blk_cell BK163.out 0).trans rfl
                        have hfz51_0 := blk_frozen BK163.out 0
                        go_wp2
                        go_meet
                        case rel => exact ⟨_, (true), (by first | rfl | (simp; done) | (simp [*]; done)), H', ⟨by have := HK1.out; first | omega | exact Nat.le_refl _⟩, ⟨by (with_reducible repeat (first | refine blk_drewN ?_ _ | refine blk_drew ?_ | refine blk_alloc ?_ _)); refine blk_far ?_ NB155_166.out _; (with_reducible repeat (first | refine blk_drewN ?_ _ | refine blk_drew ?_ | refine blk_alloc ?_ _)); exact BK155.out⟩, ⟨by (with_reducible repeat (first | refine blk_drewN ?_ _ | refine blk_drew ?_ | refine blk_alloc ?_ _)); refine blk_far ?_ NB157_166.out _; (with_reducible repeat (first | refine blk_drewN ?_ _ | refine blk_drew ?_ | refine blk_alloc ?_ _)); exact BK157.out⟩, ⟨by (with_reducible repeat (first | refine blk_drewN ?_ _ | refine blk_drew ?_ | refine blk_alloc ?_ _)); refine blk_far ?_ NB160_166.out _; (with_reducible repeat (first | refine blk_drewN ?_ _ | refine blk_drew ?_ | refine blk_alloc ?_ _)); exact BK160.out⟩, ⟨by (with_reducible repeat (first | refine blk_drewN ?_ _ | refine blk_drew ?_ | refine blk_alloc ?_ _)); refine blk_far ?_ NB163_166.out _; (with_reducible repeat (first | refine blk_drewN ?_ _ | refine blk_drew ?_ | refine blk_alloc ?_ _)); exact BK163.out⟩, ⟨by (with_reducible repeat (first | refine blk_drewN ?_ _ | refine blk_drew ?_ | refine blk_alloc ?_ _)); refine blk_put (cs := #[.int .i64 0]) ?_ 0 _ rfl; (with_reducible repeat (first | refine blk_drewN ?_ _ | refine blk_drew ?_ | refine blk_alloc ?_ _)); exact BK166.out⟩, ⟨by repeat (first | (with_reducible first | exact HB.out | apply below_alloc | apply pw_below_drewN | apply below_drew1 | refine below_set ?_ GE155.out | refine below_set ?_ GE157.out | refine below_set ?_ GE160.out | refine below_set ?_ GE163.out | refine below_set ?_ GE166.out) | exact HB.out)⟩⟩
                      · rw [if_neg c42] at H
                        have c42b0 : (!(t161 == t158)) = false := by simpa using c42
                        clear c42
                        by_cases c52 : t165 = 0
                        · rw [if_pos c52] at H
                          have c52b0 : (t165 == 0) = true := beq_iff_eq.mpr c52
                          have c52b1 : (t165 != 0) = false := bne_eq_false_iff_eq.mpr c52
                          clear c52
                          by_cases c53 : t164 = 0
                          · rw [if_pos c53] at H
                            have c53b0 : (t164 == 0) = true := beq_iff_eq.mpr c53
                            have c53b1 : (t164 != 0) = false := bne_eq_false_iff_eq.mpr c53
                            clear c53
                            by_cases c54 : x156000_1 = 0
                            · rw [if_pos c54] at H
                              have c54b0 : (x156000_1 == 0) = true := beq_iff_eq.mpr c54
                              have c54b1 : (x156000_1 != 0) = false := bne_eq_false_iff_eq.mpr c54
                              clear c54
                              have H' := Aside0.mk H
                              clear H
                              have hnb55 := NB160_155.out
                              have hnc55 := NB155_160.out
                              have hnb56 := NB160_157.out
                              have hnc56 := NB157_160.out
                              have hnb57 := NB160_163.out
                              have hnc57 := NB163_160.out
                              have hnb58 := NB160_166.out
                              have hnc58 := NB166_160.out
                              have hcz59_0 : w34.cell? ⟨gb160, 0, none⟩ = some (.int .i64 t158) := (blk_cell BK160.out 0).trans rfl
                              have hfz59_0 := blk_frozen BK160.out 0
                              have hnb60 := NB163_155.out
                              have hnc60 := NB155_163.out
                              have hnb61 := NB163_157.out
                              have hnc61 := NB157_163.out
                              have hnb62 := NB163_166.out
                              have hnc62 := NB166_163.out
                              have hcz63_0 : w34.cell? ⟨gb163, 0, none⟩ = some (.int .i64 t161) := (blk_cell BK163.out 0).trans rfl
                              have hfz63_0 := blk_frozen BK163.out 0
                              have hnb64 := NB166_155.out
                              have hnc64 := NB155_166.out
                              have hnb65 := NB166_157.out
                              have hnc65 := NB157_166.out
                              have hcz66_0 : w34.cell? ⟨gb166, 0, none⟩ = some (.int .i64 0) := (blk_cell BK166.out 0).trans rfl
                              have hfz66_0 := blk_frozen BK166.out 0
                              have hnb67 := NB157_155.out
                              have hnc67 := NB155_157.out
                              have hcz68_0 : w34.cell? ⟨gb157, 0, none⟩ = some (.int .i64 x156000_1) := (blk_cell BK157.out 0).trans rfl
                              have hfz68_0 := blk_frozen BK157.out 0
                              go_wp2
                              go_meet
                              case rel => exact ⟨_, (false), (by first | rfl | (simp; done) | (simp [*]; done)), H', ⟨by have := HK1.out; first | omega | exact Nat.le_refl _⟩, ⟨by (with_reducible repeat (first | refine blk_drewN ?_ _ | refine blk_drew ?_ | refine blk_alloc ?_ _)); refine blk_far ?_ NB155_166.out _; (with_reducible repeat (first | refine blk_drewN ?_ _ | refine blk_drew ?_ | refine blk_alloc ?_ _)); exact BK155.out⟩, ⟨by (with_reducible repeat (first | refine blk_drewN ?_ _ | refine blk_drew ?_ | refine blk_alloc ?_ _)); refine blk_far ?_ NB157_166.out _; (with_reducible repeat (first | refine blk_drewN ?_ _ | refine blk_drew ?_ | refine blk_alloc ?_ _)); exact BK157.out⟩, ⟨by (with_reducible repeat (first | refine blk_drewN ?_ _ | refine blk_drew ?_ | refine blk_alloc ?_ _)); refine blk_far ?_ NB160_166.out _; (with_reducible repeat (first | refine blk_drewN ?_ _ | refine blk_drew ?_ | refine blk_alloc ?_ _)); exact BK160.out⟩, ⟨by (with_reducible repeat (first | refine blk_drewN ?_ _ | refine blk_drew ?_ | refine blk_alloc ?_ _)); refine blk_far ?_ NB163_166.out _; (with_reducible repeat (first | refine blk_drewN ?_ _ | refine blk_drew ?_ | refine blk_alloc ?_ _)); exact BK163.out⟩, ⟨by (with_reducible repeat (first | refine blk_drewN ?_ _ | refine blk_drew ?_ | refine blk_alloc ?_ _)); refine blk_put (cs := #[.int .i64 0]) ?_ 0 _ rfl; (with_reducible repeat (first | refine blk_drewN ?_ _ | refine blk_drew ?_ | refine blk_alloc ?_ _)); exact BK166.out⟩, ⟨by repeat (first | (with_reducible first | exact HB.out | apply below_alloc | apply pw_below_drewN | apply below_drew1 | refine below_set ?_ GE155.out | refine below_set ?_ GE157.out | refine below_set ?_ GE160.out | refine below_set ?_ GE163.out | refine below_set ?_ GE166.out) | exact HB.out)⟩⟩
                            · rw [if_neg c54] at H
                              have c54b0 : (x156000_1 == 0) = false := beq_eq_false_iff_ne.mpr c54
                              have c54b1 : (x156000_1 != 0) = true := bne_iff_ne.mpr c54
                              have H' := Aside0.mk H
                              clear H
                              have hnb69 := NB160_155.out
                              have hnc69 := NB155_160.out
                              have hnb70 := NB160_157.out
                              have hnc70 := NB157_160.out
                              have hnb71 := NB160_163.out
                              have hnc71 := NB163_160.out
                              have hnb72 := NB160_166.out
                              have hnc72 := NB166_160.out
                              have hcz73_0 : w34.cell? ⟨gb160, 0, none⟩ = some (.int .i64 t158) := (blk_cell BK160.out 0).trans rfl
                              have hfz73_0 := blk_frozen BK160.out 0
                              have hnb74 := NB163_155.out
                              have hnc74 := NB155_163.out
                              have hnb75 := NB163_157.out
                              have hnc75 := NB157_163.out
                              have hnb76 := NB163_166.out
                              have hnc76 := NB166_163.out
                              have hcz77_0 : w34.cell? ⟨gb163, 0, none⟩ = some (.int .i64 t161) := (blk_cell BK163.out 0).trans rfl
                              have hfz77_0 := blk_frozen BK163.out 0
                              have hnb78 := NB166_155.out
                              have hnc78 := NB155_166.out
                              have hnb79 := NB166_157.out
                              have hnc79 := NB157_166.out
                              have hcz80_0 : w34.cell? ⟨gb166, 0, none⟩ = some (.int .i64 0) := (blk_cell BK166.out 0).trans rfl
                              have hfz80_0 := blk_frozen BK166.out 0
                              have hnb81 := NB157_155.out
                              have hnc81 := NB155_157.out
                              have hcz82_0 : w34.cell? ⟨gb157, 0, none⟩ = some (.int .i64 x156000_1) := (blk_cell BK157.out 0).trans rfl
                              have hfz82_0 := blk_frozen BK157.out 0
                              go_wp2
                              go_meet
                              case rel => exact ⟨_, ((x156000_1 != (rd l0 x5_1))), (by first | rfl | (simp; done) | (simp [*]; done)), H', ⟨by have := HK1.out; first | omega | exact Nat.le_refl _⟩, ⟨by (with_reducible repeat (first | refine blk_drewN ?_ _ | refine blk_drew ?_ | refine blk_alloc ?_ _)); refine blk_far ?_ NB155_166.out _; (with_reducible repeat (first | refine blk_drewN ?_ _ | refine blk_drew ?_ | refine blk_alloc ?_ _)); exact BK155.out⟩, ⟨by (with_reducible repeat (first | refine blk_drewN ?_ _ | refine blk_drew ?_ | refine blk_alloc ?_ _)); refine blk_far ?_ NB157_166.out _; (with_reducible repeat (first | refine blk_drewN ?_ _ | refine blk_drew ?_ | refine blk_alloc ?_ _)); exact BK157.out⟩, ⟨by (with_reducible repeat (first | refine blk_drewN ?_ _ | refine blk_drew ?_ | refine blk_alloc ?_ _)); refine blk_far ?_ NB160_166.out _; (with_reducible repeat (first | refine blk_drewN ?_ _ | refine blk_drew ?_ | refine blk_alloc ?_ _)); exact BK160.out⟩, ⟨by (with_reducible repeat (first | refine blk_drewN ?_ _ | refine blk_drew ?_ | refine blk_alloc ?_ _)); refine blk_far ?_ NB163_166.out _; (with_reducible repeat (first | refine blk_drewN ?_ _ | refine blk_drew ?_ | refine blk_alloc ?_ _)); exact BK163.out⟩, ⟨by (with_reducible repeat (first | refine blk_drewN ?_ _ | refine blk_drew ?_ | refine blk_alloc ?_ _)); refine blk_put (cs := #[.int .i64 0]) ?_ 0 _ rfl; (with_reducible repeat (first | refine blk_drewN ?_ _ | refine blk_drew ?_ | refine blk_alloc ?_ _)); exact BK166.out⟩, ⟨by repeat (first | (with_reducible first | exact HB.out | apply below_alloc | apply pw_below_drewN | apply below_drew1 | refine below_set ?_ GE155.out | refine below_set ?_ GE157.out | refine below_set ?_ GE160.out | refine below_set ?_ GE163.out | refine below_set ?_ GE166.out) | exact HB.out)⟩⟩
                          · rw [if_neg c53] at H
                            have c53b0 : (t164 == 0) = false := beq_eq_false_iff_ne.mpr c53
                            have c53b1 : (t164 != 0) = true := bne_iff_ne.mpr c53
                            have H' := Aside0.mk H
                            clear H
                            have hnb83 := NB160_155.out
                            have hnc83 := NB155_160.out
                            have hnb84 := NB160_157.out
                            have hnc84 := NB157_160.out
                            have hnb85 := NB160_163.out
                            have hnc85 := NB163_160.out
                            have hnb86 := NB160_166.out
                            have hnc86 := NB166_160.out
                            have hcz87_0 : w34.cell? ⟨gb160, 0, none⟩ = some (.int .i64 t158) := (blk_cell BK160.out 0).trans rfl
                            have hfz87_0 := blk_frozen BK160.out 0
                            have hnb88 := NB163_155.out
                            have hnc88 := NB155_163.out
                            have hnb89 := NB163_157.out
                            have hnc89 := NB157_163.out
                            have hnb90 := NB163_166.out
                            have hnc90 := NB166_163.out
                            have hcz91_0 : w34.cell? ⟨gb163, 0, none⟩ = some (.int .i64 t161) := (blk_cell BK163.out 0).trans rfl
                            have hfz91_0 := blk_frozen BK163.out 0
                            have hnb92 := NB166_155.out
                            have hnc92 := NB155_166.out
                            have hnb93 := NB166_157.out
                            have hnc93 := NB157_166.out
                            have hcz94_0 : w34.cell? ⟨gb166, 0, none⟩ = some (.int .i64 0) := (blk_cell BK166.out 0).trans rfl
                            have hfz94_0 := blk_frozen BK166.out 0
                            go_wp2
                            go_meet
                            case rel => exact ⟨_, (true), (by first | rfl | (simp; done) | (simp [*]; done)), H', ⟨by have := HK1.out; first | omega | exact Nat.le_refl _⟩, ⟨by (with_reducible repeat (first | refine blk_drewN ?_ _ | refine blk_drew ?_ | refine blk_alloc ?_ _)); refine blk_far ?_ NB155_166.out _; (with_reducible repeat (first | refine blk_drewN ?_ _ | refine blk_drew ?_ | refine blk_alloc ?_ _)); exact BK155.out⟩, ⟨by (with_reducible repeat (first | refine blk_drewN ?_ _ | refine blk_drew ?_ | refine blk_alloc ?_ _)); refine blk_far ?_ NB157_166.out _; (with_reducible repeat (first | refine blk_drewN ?_ _ | refine blk_drew ?_ | refine blk_alloc ?_ _)); exact BK157.out⟩, ⟨by (with_reducible repeat (first | refine blk_drewN ?_ _ | refine blk_drew ?_ | refine blk_alloc ?_ _)); refine blk_far ?_ NB160_166.out _; (with_reducible repeat (first | refine blk_drewN ?_ _ | refine blk_drew ?_ | refine blk_alloc ?_ _)); exact BK160.out⟩, ⟨by (with_reducible repeat (first | refine blk_drewN ?_ _ | refine blk_drew ?_ | refine blk_alloc ?_ _)); refine blk_far ?_ NB163_166.out _; (with_reducible repeat (first | refine blk_drewN ?_ _ | refine blk_drew ?_ | refine blk_alloc ?_ _)); exact BK163.out⟩, ⟨by (with_reducible repeat (first | refine blk_drewN ?_ _ | refine blk_drew ?_ | refine blk_alloc ?_ _)); refine blk_put (cs := #[.int .i64 0]) ?_ 0 _ rfl; (with_reducible repeat (first | refine blk_drewN ?_ _ | refine blk_drew ?_ | refine blk_alloc ?_ _)); exact BK166.out⟩, ⟨by repeat (first | (with_reducible first | exact HB.out | apply below_alloc | apply pw_below_drewN | apply below_drew1 | refine below_set ?_ GE155.out | refine below_set ?_ GE157.out | refine below_set ?_ GE160.out | refine below_set ?_ GE163.out | refine below_set ?_ GE166.out) | exact HB.out)⟩⟩
                        · rw [if_neg c52] at H
                          have c52b0 : (t165 == 0) = false := beq_eq_false_iff_ne.mpr c52
                          have c52b1 : (t165 != 0) = true := bne_iff_ne.mpr c52
                          have H' := Aside0.mk H
                          clear H
                          have hnb95 := NB160_155.out
                          have hnc95 := NB155_160.out
                          have hnb96 := NB160_157.out
                          have hnc96 := NB157_160.out
                          have hnb97 := NB160_163.out
                          have hnc97 := NB163_160.out
                          have hnb98 := NB160_166.out
                          have hnc98 := NB166_160.out
                          have hcz99_0 : w34.cell? ⟨gb160, 0, none⟩ = some (.int .i64 t158) := (blk_cell BK160.out 0).trans rfl
                          have hfz99_0 := blk_frozen BK160.out 0
                          have hnb100 := NB163_155.out
                          have hnc100 := NB155_163.out
                          have hnb101 := NB163_157.out
                          have hnc101 := NB157_163.out
                          have hnb102 := NB163_166.out
                          have hnc102 := NB166_163.out
                          have hcz103_0 : w34.cell? ⟨gb163, 0, none⟩ = some (.int .i64 t161) := (blk_cell BK163.out 0).trans rfl
                          have hfz103_0 := blk_frozen BK163.out 0
                          go_wp2
                          go_meet
                          case rel => exact ⟨_, (true), (by first | rfl | (simp; done) | (simp [*]; done)), H', ⟨by have := HK1.out; first | omega | exact Nat.le_refl _⟩, ⟨by (with_reducible repeat (first | refine blk_drewN ?_ _ | refine blk_drew ?_ | refine blk_alloc ?_ _)); refine blk_far ?_ NB155_166.out _; (with_reducible repeat (first | refine blk_drewN ?_ _ | refine blk_drew ?_ | refine blk_alloc ?_ _)); exact BK155.out⟩, ⟨by (with_reducible repeat (first | refine blk_drewN ?_ _ | refine blk_drew ?_ | refine blk_alloc ?_ _)); refine blk_far ?_ NB157_166.out _; (with_reducible repeat (first | refine blk_drewN ?_ _ | refine blk_drew ?_ | refine blk_alloc ?_ _)); exact BK157.out⟩, ⟨by (with_reducible repeat (first | refine blk_drewN ?_ _ | refine blk_drew ?_ | refine blk_alloc ?_ _)); refine blk_far ?_ NB160_166.out _; (with_reducible repeat (first | refine blk_drewN ?_ _ | refine blk_drew ?_ | refine blk_alloc ?_ _)); exact BK160.out⟩, ⟨by (with_reducible repeat (first | refine blk_drewN ?_ _ | refine blk_drew ?_ | refine blk_alloc ?_ _)); refine blk_far ?_ NB163_166.out _; (with_reducible repeat (first | refine blk_drewN ?_ _ | refine blk_drew ?_ | refine blk_alloc ?_ _)); exact BK163.out⟩, ⟨by (with_reducible repeat (first | refine blk_drewN ?_ _ | refine blk_drew ?_ | refine blk_alloc ?_ _)); refine blk_put (cs := #[.int .i64 0]) ?_ 0 _ rfl; (with_reducible repeat (first | refine blk_drewN ?_ _ | refine blk_drew ?_ | refine blk_alloc ?_ _)); exact BK166.out⟩, ⟨by repeat (first | (with_reducible first | exact HB.out | apply below_alloc | apply pw_below_drewN | apply below_drew1 | refine below_set ?_ GE155.out | refine below_set ?_ GE157.out | refine below_set ?_ GE160.out | refine below_set ?_ GE163.out | refine below_set ?_ GE166.out) | exact HB.out)⟩⟩
                    · rw [if_neg c41] at H
                      have c41b0 : (t162 == 0) = false := beq_eq_false_iff_ne.mpr c41
                      have c41b1 : (t162 != 0) = true := bne_iff_ne.mpr c41
                      have H' := Aside0.mk H
                      clear H
                      have hnb104 := NB160_155.out
                      have hnc104 := NB155_160.out
                      have hnb105 := NB160_157.out
                      have hnc105 := NB157_160.out
                      have hnb106 := NB160_163.out
                      have hnc106 := NB163_160.out
                      have hnb107 := NB160_166.out
                      have hnc107 := NB166_160.out
                      have hcz108_0 : w34.cell? ⟨gb160, 0, none⟩ = some (.int .i64 t158) := (blk_cell BK160.out 0).trans rfl
                      have hfz108_0 := blk_frozen BK160.out 0
                      go_wp2
                      go_meet
                      case rel => exact ⟨_, (true), (by first | rfl | (simp; done) | (simp [*]; done)), H', ⟨by have := HK1.out; first | omega | exact Nat.le_refl _⟩, ⟨by (with_reducible repeat (first | refine blk_drewN ?_ _ | refine blk_drew ?_ | refine blk_alloc ?_ _)); refine blk_far ?_ NB155_166.out _; (with_reducible repeat (first | refine blk_drewN ?_ _ | refine blk_drew ?_ | refine blk_alloc ?_ _)); exact BK155.out⟩, ⟨by (with_reducible repeat (first | refine blk_drewN ?_ _ | refine blk_drew ?_ | refine blk_alloc ?_ _)); refine blk_far ?_ NB157_166.out _; (with_reducible repeat (first | refine blk_drewN ?_ _ | refine blk_drew ?_ | refine blk_alloc ?_ _)); exact BK157.out⟩, ⟨by (with_reducible repeat (first | refine blk_drewN ?_ _ | refine blk_drew ?_ | refine blk_alloc ?_ _)); refine blk_far ?_ NB160_166.out _; (with_reducible repeat (first | refine blk_drewN ?_ _ | refine blk_drew ?_ | refine blk_alloc ?_ _)); exact BK160.out⟩, ⟨by (with_reducible repeat (first | refine blk_drewN ?_ _ | refine blk_drew ?_ | refine blk_alloc ?_ _)); refine blk_far ?_ NB163_166.out _; (with_reducible repeat (first | refine blk_drewN ?_ _ | refine blk_drew ?_ | refine blk_alloc ?_ _)); exact BK163.out⟩, ⟨by (with_reducible repeat (first | refine blk_drewN ?_ _ | refine blk_drew ?_ | refine blk_alloc ?_ _)); refine blk_put (cs := #[.int .i64 0]) ?_ 0 _ rfl; (with_reducible repeat (first | refine blk_drewN ?_ _ | refine blk_drew ?_ | refine blk_alloc ?_ _)); exact BK166.out⟩, ⟨by repeat (first | (with_reducible first | exact HB.out | apply below_alloc | apply pw_below_drewN | apply below_drew1 | refine below_set ?_ GE155.out | refine below_set ?_ GE157.out | refine below_set ?_ GE160.out | refine below_set ?_ GE163.out | refine below_set ?_ GE166.out) | exact HB.out)⟩⟩
                  · rw [if_neg c40] at H
                    have c40b0 : (t158 == (rd l0 x5_1)) = false := beq_eq_false_iff_ne.mpr c40
                    have c40b1 : (t158 != (rd l0 x5_1)) = true := bne_iff_ne.mpr c40
                    (first | rw [c40b0] | (simp only [i64_w, i32_w]; rw [c40b0]) | skip)
                    have H' := Aside0.mk H
                    clear H
                    have hnb109 := NB160_155.out
                    have hnc109 := NB155_160.out
                    have hnb110 := NB160_157.out
                    have hnc110 := NB157_160.out
                    have hnb111 := NB160_163.out
                    have hnc111 := NB163_160.out
                    have hnb112 := NB160_166.out
                    have hnc112 := NB166_160.out
                    have hcz113_0 : w34.cell? ⟨gb160, 0, none⟩ = some (.int .i64 t158) := (blk_cell BK160.out 0).trans rfl
                    have hfz113_0 := blk_frozen BK160.out 0
                    go_wp2
                    go_meet
                    case rel => exact ⟨_, (true), (by first | rfl | (simp; done) | (simp [*]; done)), H', ⟨by have := HK1.out; first | omega | exact Nat.le_refl _⟩, ⟨by (with_reducible repeat (first | refine blk_drewN ?_ _ | refine blk_drew ?_ | refine blk_alloc ?_ _)); refine blk_far ?_ NB155_166.out _; (with_reducible repeat (first | refine blk_drewN ?_ _ | refine blk_drew ?_ | refine blk_alloc ?_ _)); exact BK155.out⟩, ⟨by (with_reducible repeat (first | refine blk_drewN ?_ _ | refine blk_drew ?_ | refine blk_alloc ?_ _)); refine blk_far ?_ NB157_166.out _; (with_reducible repeat (first | refine blk_drewN ?_ _ | refine blk_drew ?_ | refine blk_alloc ?_ _)); exact BK157.out⟩, ⟨by (with_reducible repeat (first | refine blk_drewN ?_ _ | refine blk_drew ?_ | refine blk_alloc ?_ _)); refine blk_far ?_ NB160_166.out _; (with_reducible repeat (first | refine blk_drewN ?_ _ | refine blk_drew ?_ | refine blk_alloc ?_ _)); exact BK160.out⟩, ⟨by (with_reducible repeat (first | refine blk_drewN ?_ _ | refine blk_drew ?_ | refine blk_alloc ?_ _)); refine blk_far ?_ NB163_166.out _; (with_reducible repeat (first | refine blk_drewN ?_ _ | refine blk_drew ?_ | refine blk_alloc ?_ _)); exact BK163.out⟩, ⟨by (with_reducible repeat (first | refine blk_drewN ?_ _ | refine blk_drew ?_ | refine blk_alloc ?_ _)); refine blk_put (cs := #[.int .i64 0]) ?_ 0 _ rfl; (with_reducible repeat (first | refine blk_drewN ?_ _ | refine blk_drew ?_ | refine blk_alloc ?_ _)); exact BK166.out⟩, ⟨by repeat (first | (with_reducible first | exact HB.out | apply below_alloc | apply pw_below_drewN | apply below_drew1 | refine below_set ?_ GE155.out | refine below_set ?_ GE157.out | refine below_set ?_ GE160.out | refine below_set ?_ GE163.out | refine below_set ?_ GE166.out) | exact HB.out)⟩⟩
                case rest =>
                  clear HC15
                  try clear c1
                  try clear p1
                  try clear q1
                  try clear hx1
                  try clear c2
                  try clear p2
                  try clear c3
                  try clear c4
                  try clear c4b0
                  try clear c4b1
                  try clear c5
                  try clear c6
                  try clear p6
                  try clear c7
                  try clear c8
                  try clear c9
                  try clear c9b0
                  try clear c10
                  try clear c10b0
                  try clear c11
                  try clear c12
                  try clear c12b0
                  try clear c12b1
                  try clear p15
                  try clear q15
                  try clear hx15
                  try clear c18
                  try clear c23
                  try clear c24
                  try clear c28
                  try clear c29
                  try clear c30
                  try clear c35
                  try clear c36
                  try clear c37
                  try clear c38
                  try clear c40
                  try clear c40b0
                  try clear c40b1
                  try clear c41
                  try clear c41b0
                  try clear c41b1
                  try clear c42
                  try clear c42b0
                  try clear c43
                  try clear c44
                  try clear c45
                  try clear c46
                  try clear c48
                  try clear c49
                  try clear c50
                  try clear c52
                  try clear c52b0
                  try clear c52b1
                  try clear c53
                  try clear c53b0
                  try clear c53b1
                  try clear c54
                  try clear c54b0
                  try clear c54b1
                  try clear c55
                  try clear c56
                  try clear c57
                  try clear c58
                  try clear c60
                  try clear c61
                  try clear c62
                  try clear c64
                  try clear p64
                  try clear c65
                  try clear c67
                  try clear c69
                  try clear c70
                  try clear c71
                  try clear c72
                  try clear c74
                  try clear c75
                  try clear c76
                  try clear c78
                  try clear c79
                  try clear c81
                  try clear c83
                  try clear c84
                  try clear c85
                  try clear c86
                  try clear c88
                  try clear c89
                  try clear c90
                  try clear c92
                  try clear c93
                  try clear c95
                  try clear c96
                  try clear c97
                  try clear c98
                  try clear c100
                  try clear c101
                  try clear c102
                  try clear c104
                  try clear c105
                  try clear c106
                  try clear c107
                  try clear c109
                  try clear c110
                  try clear c111
                  try clear c112
                  try clear hcz103_0
                  try clear hcz108_0
                  try clear hcz113_0
                  try clear hcz16_0
                  try clear hcz19_0
                  try clear hcz20_0
                  try clear hcz25_0
                  try clear hcz31_0
                  try clear hcz32_0
                  try clear hcz39_0
                  try clear hcz47_0
                  try clear hcz51_0
                  try clear hcz59_0
                  try clear hcz63_0
                  try clear hcz66_0
                  try clear hcz68_0
                  try clear hcz73_0
                  try clear hcz77_0
                  try clear hcz80_0
                  try clear hcz82_0
                  try clear hcz87_0
                  try clear hcz8_0
                  try clear hcz91_0
                  try clear hcz94_0
                  try clear hcz99_0
                  try clear hfz103_0
                  try clear hfz108_0
                  try clear hfz113_0
                  try clear hfz16_0
                  try clear hfz19_0
                  try clear hfz20_0
                  try clear hfz25_0
                  try clear hfz31_0
                  try clear hfz32_0
                  try clear hfz39_0
                  try clear hfz47_0
                  try clear hfz51_0
                  try clear hfz59_0
                  try clear hfz63_0
                  try clear hfz66_0
                  try clear hfz68_0
                  try clear hfz73_0
                  try clear hfz77_0
                  try clear hfz80_0
                  try clear hfz82_0
                  try clear hfz87_0
                  try clear hfz8_0
                  try clear hfz91_0
                  try clear hfz94_0
                  try clear hfz99_0
                  try clear hx156_0
                  try clear p156
                  try clear p2
                  try clear q156
                  obtain ⟨kq, x94_14, rfl, HA, HJ14, BK155, BK157, BK160, BK163, BK166, HB⟩ := hcut
                  cases kq with
                  | zero => exact absurd HA.out (by simp [tollbarlaw29_HoldTurns.j1])
                  | succ kj14 =>
                    have H := HA.out
                    clear HA
                    simp only [tollbarlaw29_HoldTurns.j1] at H
                    by_cases c114 : x94_14 = true
                    · subst c114
                      have H1 : (some false) = some r := by rw [if_pos rfl] at H; exact H
                      clear H
                      have H := H1
                      clear H1
                      obtain rfl := Option.some.inj H
                      go_wp2
                      go_ret
                      exact ⟨by first | rfl | (simp [errW_none, errW_some] <;> rfl) | (simp [*, errW_none, errW_some] <;> rfl), by repeat (first | (with_reducible first | exact HB.out | apply below_alloc | apply pw_below_drewN | apply below_drew1 | refine below_set ?_ GE155.out | refine below_set ?_ GE157.out | refine below_set ?_ GE160.out | refine below_set ?_ GE163.out | refine below_set ?_ GE166.out) | exact HB.out)⟩
                    · replace c114 := Bool.eq_false_iff.mpr c114
                      subst c114
                      have H1 : (if (Int.tmod x5_1 3) = 2 then (tollbarlaw29_HoldTurns.l0 kj14 l0 (wrap64 (x5_1 + 1)) t164) else (tollbarlaw29_HoldTurns.l0 kj14 l0 (wrap64 (x5_1 + 1)) t158)) = some r := by rw [if_neg (show ¬ (false = true) by decide)] at H; exact H
                      clear H
                      have H := H1
                      clear H1
                      by_cases c115 : (Int.tmod x5_1 3) = 2
                      · rw [if_pos c115] at H
                        have c115b0 : ((Int.tmod x5_1 3) == 2) = true := beq_iff_eq.mpr c115
                        have c115b1 : ((Int.tmod x5_1 3) != 2) = false := bne_eq_false_iff_eq.mpr c115
                        clear c115
                        have H' := Aside0.mk H
                        clear H
                        have hnb116 := NB160_155.out
                        have hnc116 := NB155_160.out
                        have hnb117 := NB160_157.out
                        have hnc117 := NB157_160.out
                        have hnb118 := NB160_163.out
                        have hnc118 := NB163_160.out
                        have hnb119 := NB160_166.out
                        have hnc119 := NB166_160.out
                        have hcz120_0 : wc.cell? ⟨gb160, 0, none⟩ = some (.int .i64 t158) := (blk_cell BK160.out 0).trans rfl
                        have hfz120_0 := blk_frozen BK160.out 0
                        have hnb121 := NB155_157.out
                        have hnc121 := NB157_155.out
                        have hnb122 := NB155_163.out
                        have hnc122 := NB163_155.out
                        have hnb123 := NB155_166.out
                        have hnc123 := NB166_155.out
                        have hcz124_0 : wc.cell? ⟨gb155, 0, none⟩ = some (.int .i64 x156000_1) := (blk_cell BK155.out 0).trans rfl
                        have hfz124_0 := blk_frozen BK155.out 0
                        have hnb125 := NB166_157.out
                        have hnc125 := NB157_166.out
                        have hnb126 := NB166_163.out
                        have hnc126 := NB163_166.out
                        have hcz127_0 : wc.cell? ⟨gb166, 0, none⟩ = some (.int .i64 t164) := (blk_cell BK166.out 0).trans rfl
                        have hfz127_0 := blk_frozen BK166.out 0
                        go_wp2
                        go_roundg kj14
                        case measure => have := HK1.out; have := HJ14.out; omega
                        case rel => exact ⟨(wrap64 (x5_1 + 1)), (t164), (by first | rfl | (simp; done) | (simp [*]; done)), H', ⟨by have := HK1.out; have := HJ14.out; omega⟩, ⟨by (with_reducible repeat (first | refine blk_drewN ?_ _ | refine blk_drew ?_ | refine blk_alloc ?_ _)); refine blk_put (cs := #[.int .i64 t158]) ?_ 0 _ rfl; (with_reducible repeat (first | refine blk_drewN ?_ _ | refine blk_drew ?_ | refine blk_alloc ?_ _)); refine blk_put (cs := #[.int .i64 x156000_1]) ?_ 0 _ rfl; (with_reducible repeat (first | refine blk_drewN ?_ _ | refine blk_drew ?_ | refine blk_alloc ?_ _)); exact BK155.out⟩, ⟨by repeat (first | (with_reducible first | exact HB.out | apply below_alloc | apply pw_below_drewN | apply below_drew1 | refine below_set ?_ GE155.out | refine below_set ?_ GE157.out | refine below_set ?_ GE160.out | refine below_set ?_ GE163.out | refine below_set ?_ GE166.out) | exact HB.out)⟩⟩
                      · rw [if_neg c115] at H
                        have c115b0 : ((Int.tmod x5_1 3) == 2) = false := beq_eq_false_iff_ne.mpr c115
                        have c115b1 : ((Int.tmod x5_1 3) != 2) = true := bne_iff_ne.mpr c115
                        have H' := Aside0.mk H
                        clear H
                        have hnb128 := NB160_155.out
                        have hnc128 := NB155_160.out
                        have hnb129 := NB160_157.out
                        have hnc129 := NB157_160.out
                        have hnb130 := NB160_163.out
                        have hnc130 := NB163_160.out
                        have hnb131 := NB160_166.out
                        have hnc131 := NB166_160.out
                        have hcz132_0 : wc.cell? ⟨gb160, 0, none⟩ = some (.int .i64 t158) := (blk_cell BK160.out 0).trans rfl
                        have hfz132_0 := blk_frozen BK160.out 0
                        have hnb133 := NB155_157.out
                        have hnc133 := NB157_155.out
                        have hnb134 := NB155_163.out
                        have hnc134 := NB163_155.out
                        have hnb135 := NB155_166.out
                        have hnc135 := NB166_155.out
                        have hcz136_0 : wc.cell? ⟨gb155, 0, none⟩ = some (.int .i64 x156000_1) := (blk_cell BK155.out 0).trans rfl
                        have hfz136_0 := blk_frozen BK155.out 0
                        go_wp2
                        go_roundg kj14
                        case measure => have := HK1.out; have := HJ14.out; omega
                        case rel => exact ⟨(wrap64 (x5_1 + 1)), (t158), (by first | rfl | (simp; done) | (simp [*]; done)), H', ⟨by have := HK1.out; have := HJ14.out; omega⟩, ⟨by (with_reducible repeat (first | refine blk_drewN ?_ _ | refine blk_drew ?_ | refine blk_alloc ?_ _)); refine blk_put (cs := #[.int .i64 x156000_1]) ?_ 0 _ rfl; (with_reducible repeat (first | refine blk_drewN ?_ _ | refine blk_drew ?_ | refine blk_alloc ?_ _)); exact BK155.out⟩, ⟨by repeat (first | (with_reducible first | exact HB.out | apply below_alloc | apply pw_below_drewN | apply below_drew1 | refine below_set ?_ GE155.out | refine below_set ?_ GE157.out | refine below_set ?_ GE160.out | refine below_set ?_ GE163.out | refine below_set ?_ GE166.out) | exact HB.out)⟩⟩
              · rw [if_neg c12] at H
                have c12b0 : (t159 == 0) = false := beq_eq_false_iff_ne.mpr c12
                have c12b1 : (t159 != 0) = true := bne_iff_ne.mpr c12
                by_cases c137 : (!(t158 == x156000_1)) = true
                · rw [if_pos c137] at H
                  have c137b0 : (!(t158 == x156000_1)) = true := c137
                  clear c137
                  obtain rfl := Option.some.inj H
                  have p156 : 0 ≤ (x5_1 : Int) := of_decide_eq_true (by first | (with_reducible assumption) | assumption)
                  have q156 : x5_1 < (l0.length : Int) := of_decide_eq_true (by first | (with_reducible assumption) | assumption)
                  obtain ⟨ad156, e156, hx156_0⟩ := Kd.at_int HR0.out x5_1 p156 q156
                  cases e156
                  replace hx156_0 := (HB.out.cell (World.block_lt_of_cell? w _ hx156_0)).trans hx156_0
                  replace p156 := eq_true p156
                  replace q156 := eq_true q156
                  have hcz138_0 : wr.cell? ⟨gb155, 0, none⟩ = some (.int .i64 x156000_1) := (blk_cell BK155.out 0).trans rfl
                  have hfz138_0 := blk_frozen BK155.out 0
                  go_wp2_with (first | ((with_reducible refine gate_dst (N := 7) rfl ?_); refine box_event ?hg (N := 7) ?hd (cs := #[.int .i64 0]) (t := 25) ?hr ?_; (case hd => rfl); (case hg => rfl); (case hr => first | (go_simp; done) | (go_simp; rfl)); intro gb157 hg w139 hbox hb; have n0_ := Aside0.mk (blk_below (g := gb155) (o := .cells #[.int .i64 x156000_1] 25 (0, 0)) (by (with_reducible repeat (first | refine blk_drewN ?_ _ | refine blk_drew ?_ | refine blk_alloc ?_ _)); exact BK155.out) hb); have n1_ := Aside0.mk (below_step (by repeat (first | (with_reducible first | exact HB.out | apply below_alloc | apply pw_below_drewN | apply below_drew1 | refine below_set ?_ GE155.out) | exact HB.out)) hb); have n2_ := Aside0.mk (hbox); have n3_ := Aside0.mk ((by rw [hg]; exact (below_size (by repeat (first | (with_reducible first | exact HB.out | apply below_alloc | apply pw_below_drewN | apply below_drew1 | refine below_set ?_ GE155.out) | exact HB.out))) : w.heap.size ≤ gb157)); have n4_ := Aside0.mk ((by rw [hg]; exact (below_size (by repeat (first | (with_reducible first | exact HB.out | apply below_alloc | apply pw_below_drewN | apply below_drew1 | refine below_set ?_ GE155.out) | exact HB.out))) : w.heap.size ≤ gb157)); have n5_ := Aside0.mk ((by rw [hg]; exact Nat.ne_of_lt (blk_lt (g := gb155) (o := .cells #[.int .i64 x156000_1] 25 (0, 0)) (by (with_reducible repeat (first | refine blk_drewN ?_ _ | refine blk_drew ?_ | refine blk_alloc ?_ _)); exact BK155.out)) : gb155 ≠ gb157)); have n6_ := Aside0.mk ((by rw [hg]; exact Nat.ne_of_gt (blk_lt (g := gb155) (o := .cells #[.int .i64 x156000_1] 25 (0, 0)) (by (with_reducible repeat (first | refine blk_drewN ?_ _ | refine blk_drew ?_ | refine blk_alloc ?_ _)); exact BK155.out)) : gb157 ≠ gb155)); clear BK155; clear HB; have BK155 := n0_; have HB := n1_; have BK157 := n2_; have GW157 := n3_; have GE157 := n4_; have NB155_157 := n5_; have NB157_155 := n6_; clear n0_ n1_ n2_ n3_ n4_ n5_ n6_; clear hb hbox hg; have hnb140 := NB157_155.out; have hnc140 := NB155_157.out; have hcz141_0 : w139.cell? ⟨gb157, 0, none⟩ = some (.int .i64 0) := (blk_cell BK157.out 0).trans rfl; have hfz141_0 := blk_frozen BK157.out 0; have hcz142_0 : w139.cell? ⟨gb155, 0, none⟩ = some (.int .i64 x156000_1) := (blk_cell BK155.out 0).trans rfl; have hfz142_0 := blk_frozen BK155.out 0) | ((with_reducible refine gate_callee (f := 9) rfl ?_); refine goesL_ (some 35) rfl rfl Try.func9 (by kernel_rfl) rfl #[.agg #[.int .i64 x156000_1], .int .i64 (rd l0 x5_1)] rfl (by (try simp only [List.map_toArray, List.map_cons, List.map_nil]); first | done | rfl | (simp only [List.length_drop, List.length_take]; rfl)) ?_; (with_reducible refine (hold_Hold_Take.calls x156000_1 (rd l0 x5_1) t158 t159 _ A11.out).mono ?_); rintro e w143 ⟨rfl, hb⟩; refine ⟨_, rfl, ?_⟩; have n0_ := Aside0.mk (blk_below (g := gb155) (o := .cells #[.int .i64 x156000_1] 25 (0, 0)) (by (with_reducible repeat (first | refine blk_drewN ?_ _ | refine blk_drew ?_ | refine blk_alloc ?_ _)); refine blk_far ?_ NB155_157.out _; (with_reducible repeat (first | refine blk_drewN ?_ _ | refine blk_drew ?_ | refine blk_alloc ?_ _)); exact BK155.out) hb); have n1_ := Aside0.mk (blk_below (g := gb157) (o := .cells #[.int .i64 x156000_1] 25 (0, 0)) (by (with_reducible repeat (first | refine blk_drewN ?_ _ | refine blk_drew ?_ | refine blk_alloc ?_ _)); refine blk_put (cs := #[.int .i64 0]) ?_ 0 _ rfl; (with_reducible repeat (first | refine blk_drewN ?_ _ | refine blk_drew ?_ | refine blk_alloc ?_ _)); exact BK157.out) hb); have n2_ := Aside0.mk (below_step (by repeat (first | (with_reducible first | exact HB.out | apply below_alloc | apply pw_below_drewN | apply below_drew1 | refine below_set ?_ GE155.out | refine below_set ?_ GE157.out) | exact HB.out)) hb); clear BK155; clear BK157; clear HB; have BK155 := n0_; have BK157 := n1_; have HB := n2_; clear n0_ n1_ n2_; (try clear hb); (try clear hb2); (try clear hk); (try clear hi)) | ((with_reducible refine gate_dst (N := 8) rfl ?_); refine box_event ?hg (N := 8) ?hd (cs := #[.int .i64 0]) (t := 25) ?hr ?_; (case hd => rfl); (case hg => rfl); (case hr => first | (go_simp; done) | (go_simp; rfl)); intro gb160 hg w144 hbox hb; have n0_ := Aside0.mk (blk_below (g := gb155) (o := .cells #[.int .i64 x156000_1] 25 (0, 0)) (by (with_reducible repeat (first | refine blk_drewN ?_ _ | refine blk_drew ?_ | refine blk_alloc ?_ _)); exact BK155.out) hb); have n1_ := Aside0.mk (blk_below (g := gb157) (o := .cells #[.int .i64 x156000_1] 25 (0, 0)) (by (with_reducible repeat (first | refine blk_drewN ?_ _ | refine blk_drew ?_ | refine blk_alloc ?_ _)); exact BK157.out) hb); have n2_ := Aside0.mk (below_step (by repeat (first | (with_reducible first | exact HB.out | apply below_alloc | apply pw_below_drewN | apply below_drew1 | refine below_set ?_ GE155.out | refine below_set ?_ GE157.out) | exact HB.out)) hb); have n3_ := Aside0.mk (hbox); have n4_ := Aside0.mk ((by rw [hg]; exact (below_size (by repeat (first | (with_reducible first | exact HB.out | apply below_alloc | apply pw_below_drewN | apply below_drew1 | refine below_set ?_ GE155.out | refine below_set ?_ GE157.out) | exact HB.out))) : w.heap.size ≤ gb160)); have n5_ := Aside0.mk ((by rw [hg]; exact (below_size (by repeat (first | (with_reducible first | exact HB.out | apply below_alloc | apply pw_below_drewN | apply below_drew1 | refine below_set ?_ GE155.out | refine below_set ?_ GE157.out) | exact HB.out))) : w.heap.size ≤ gb160)); have n6_ := Aside0.mk ((by rw [hg]; exact Nat.ne_of_lt (blk_lt (g := gb155) (o := .cells #[.int .i64 x156000_1] 25 (0, 0)) (by (with_reducible repeat (first | refine blk_drewN ?_ _ | refine blk_drew ?_ | refine blk_alloc ?_ _)); exact BK155.out)) : gb155 ≠ gb160)); have n7_ := Aside0.mk ((by rw [hg]; exact Nat.ne_of_gt (blk_lt (g := gb155) (o := .cells #[.int .i64 x156000_1] 25 (0, 0)) (by (with_reducible repeat (first | refine blk_drewN ?_ _ | refine blk_drew ?_ | refine blk_alloc ?_ _)); exact BK155.out)) : gb160 ≠ gb155)); have n8_ := Aside0.mk ((by rw [hg]; exact Nat.ne_of_lt (blk_lt (g := gb157) (o := .cells #[.int .i64 x156000_1] 25 (0, 0)) (by (with_reducible repeat (first | refine blk_drewN ?_ _ | refine blk_drew ?_ | refine blk_alloc ?_ _)); exact BK157.out)) : gb157 ≠ gb160)); have n9_ := Aside0.mk ((by rw [hg]; exact Nat.ne_of_gt (blk_lt (g := gb157) (o := .cells #[.int .i64 x156000_1] 25 (0, 0)) (by (with_reducible repeat (first | refine blk_drewN ?_ _ | refine blk_drew ?_ | refine blk_alloc ?_ _)); exact BK157.out)) : gb160 ≠ gb157)); clear BK155; clear BK157; clear HB; have BK155 := n0_; have BK157 := n1_; have HB := n2_; have BK160 := n3_; have GW160 := n4_; have GE160 := n5_; have NB155_160 := n6_; have NB160_155 := n7_; have NB157_160 := n8_; have NB160_157 := n9_; clear n0_ n1_ n2_ n3_ n4_ n5_ n6_ n7_ n8_ n9_; clear hb hbox hg; have hnb145 := NB160_155.out; have hnc145 := NB155_160.out; have hnb146 := NB160_157.out; have hnc146 := NB157_160.out; have hcz147_0 : w144.cell? ⟨gb160, 0, none⟩ = some (.int .i64 0) := (blk_cell BK160.out 0).trans rfl; have hfz147_0 := blk_frozen BK160.out 0; have hcz148_0 : w144.cell? ⟨gb157, 0, none⟩ = some (.int .i64 x156000_1) := (blk_cell BK157.out 0).trans rfl; have hfz148_0 := blk_frozen BK157.out 0))
                  go_ret
                  exact ⟨by first | rfl | (simp [errW_none, errW_some] <;> rfl) | (simp [*, errW_none, errW_some] <;> rfl), by repeat (first | (with_reducible first | exact HB.out | apply below_alloc | apply pw_below_drewN | apply below_drew1 | refine below_set ?_ GE155.out | refine below_set ?_ GE157.out | refine below_set ?_ GE160.out) | exact HB.out)⟩
                · rw [if_neg c137] at H
                  have c137b0 : (!(t158 == x156000_1)) = false := by simpa using c137
                  clear c137
                  by_cases c149 : ((t159 == 1) != (decide ((rd l0 x5_1) < 1))) = true
                  · rw [if_pos c149] at H
                    have c149b0 : ((t159 == 1) != (decide ((rd l0 x5_1) < 1))) = true := c149
                    (try (have c149b1 : decide ((t159 == 1) = (decide ((rd l0 x5_1) < 1))) = false := by simpa using c149))
                    (try (have c149b2 : ((t159 == 1) == (decide ((rd l0 x5_1) < 1))) = false := by simpa using c149))
                    (try (have c149b3 : ¬ ((t159 == 1) = (decide ((rd l0 x5_1) < 1))) := by simpa using c149))
                    clear c149
                    obtain rfl := Option.some.inj H
                    have p156 : 0 ≤ (x5_1 : Int) := of_decide_eq_true (by first | (with_reducible assumption) | assumption)
                    have q156 : x5_1 < (l0.length : Int) := of_decide_eq_true (by first | (with_reducible assumption) | assumption)
                    obtain ⟨ad156, e156, hx156_0⟩ := Kd.at_int HR0.out x5_1 p156 q156
                    cases e156
                    replace hx156_0 := (HB.out.cell (World.block_lt_of_cell? w _ hx156_0)).trans hx156_0
                    replace p156 := eq_true p156
                    replace q156 := eq_true q156
                    have hcz150_0 : wr.cell? ⟨gb155, 0, none⟩ = some (.int .i64 x156000_1) := (blk_cell BK155.out 0).trans rfl
                    have hfz150_0 := blk_frozen BK155.out 0
                    go_wp2_with (first | ((with_reducible refine gate_dst (N := 7) rfl ?_); refine box_event ?hg (N := 7) ?hd (cs := #[.int .i64 0]) (t := 25) ?hr ?_; (case hd => rfl); (case hg => rfl); (case hr => first | (go_simp; done) | (go_simp; rfl)); intro gb157 hg w151 hbox hb; have n0_ := Aside0.mk (blk_below (g := gb155) (o := .cells #[.int .i64 x156000_1] 25 (0, 0)) (by (with_reducible repeat (first | refine blk_drewN ?_ _ | refine blk_drew ?_ | refine blk_alloc ?_ _)); exact BK155.out) hb); have n1_ := Aside0.mk (below_step (by repeat (first | (with_reducible first | exact HB.out | apply below_alloc | apply pw_below_drewN | apply below_drew1 | refine below_set ?_ GE155.out) | exact HB.out)) hb); have n2_ := Aside0.mk (hbox); have n3_ := Aside0.mk ((by rw [hg]; exact (below_size (by repeat (first | (with_reducible first | exact HB.out | apply below_alloc | apply pw_below_drewN | apply below_drew1 | refine below_set ?_ GE155.out) | exact HB.out))) : w.heap.size ≤ gb157)); have n4_ := Aside0.mk ((by rw [hg]; exact (below_size (by repeat (first | (with_reducible first | exact HB.out | apply below_alloc | apply pw_below_drewN | apply below_drew1 | refine below_set ?_ GE155.out) | exact HB.out))) : w.heap.size ≤ gb157)); have n5_ := Aside0.mk ((by rw [hg]; exact Nat.ne_of_lt (blk_lt (g := gb155) (o := .cells #[.int .i64 x156000_1] 25 (0, 0)) (by (with_reducible repeat (first | refine blk_drewN ?_ _ | refine blk_drew ?_ | refine blk_alloc ?_ _)); exact BK155.out)) : gb155 ≠ gb157)); have n6_ := Aside0.mk ((by rw [hg]; exact Nat.ne_of_gt (blk_lt (g := gb155) (o := .cells #[.int .i64 x156000_1] 25 (0, 0)) (by (with_reducible repeat (first | refine blk_drewN ?_ _ | refine blk_drew ?_ | refine blk_alloc ?_ _)); exact BK155.out)) : gb157 ≠ gb155)); clear BK155; clear HB; have BK155 := n0_; have HB := n1_; have BK157 := n2_; have GW157 := n3_; have GE157 := n4_; have NB155_157 := n5_; have NB157_155 := n6_; clear n0_ n1_ n2_ n3_ n4_ n5_ n6_; clear hb hbox hg; have hnb152 := NB157_155.out; have hnc152 := NB155_157.out; have hcz153_0 : w151.cell? ⟨gb157, 0, none⟩ = some (.int .i64 0) := (blk_cell BK157.out 0).trans rfl; have hfz153_0 := blk_frozen BK157.out 0; have hcz154_0 : w151.cell? ⟨gb155, 0, none⟩ = some (.int .i64 x156000_1) := (blk_cell BK155.out 0).trans rfl; have hfz154_0 := blk_frozen BK155.out 0) | ((with_reducible refine gate_callee (f := 9) rfl ?_); refine goesL_ (some 35) rfl rfl Try.func9 (by kernel_rfl) rfl #[.agg #[.int .i64 x156000_1], .int .i64 (rd l0 x5_1)] rfl (by (try simp only [List.map_toArray, List.map_cons, List.map_nil]); first | done | rfl | (simp only [List.length_drop, List.length_take]; rfl)) ?_; (with_reducible refine (hold_Hold_Take.calls x156000_1 (rd l0 x5_1) t158 t159 _ A11.out).mono ?_); rintro e w155 ⟨rfl, hb⟩; refine ⟨_, rfl, ?_⟩; have n0_ := Aside0.mk (blk_below (g := gb155) (o := .cells #[.int .i64 x156000_1] 25 (0, 0)) (by (with_reducible repeat (first | refine blk_drewN ?_ _ | refine blk_drew ?_ | refine blk_alloc ?_ _)); refine blk_far ?_ NB155_157.out _; (with_reducible repeat (first | refine blk_drewN ?_ _ | refine blk_drew ?_ | refine blk_alloc ?_ _)); exact BK155.out) hb); have n1_ := Aside0.mk (blk_below (g := gb157) (o := .cells #[.int .i64 x156000_1] 25 (0, 0)) (by (with_reducible repeat (first | refine blk_drewN ?_ _ | refine blk_drew ?_ | refine blk_alloc ?_ _)); refine blk_put (cs := #[.int .i64 0]) ?_ 0 _ rfl; (with_reducible repeat (first | refine blk_drewN ?_ _ | refine blk_drew ?_ | refine blk_alloc ?_ _)); exact BK157.out) hb); have n2_ := Aside0.mk (below_step (by repeat (first | (with_reducible first | exact HB.out | apply below_alloc | apply pw_below_drewN | apply below_drew1 | refine below_set ?_ GE155.out | refine below_set ?_ GE157.out) | exact HB.out)) hb); clear BK155; clear BK157; clear HB; have BK155 := n0_; have BK157 := n1_; have HB := n2_; clear n0_ n1_ n2_; (try clear hb); (try clear hb2); (try clear hk); (try clear hi)) | ((with_reducible refine gate_dst (N := 8) rfl ?_); refine box_event ?hg (N := 8) ?hd (cs := #[.int .i64 0]) (t := 25) ?hr ?_; (case hd => rfl); (case hg => rfl); (case hr => first | (go_simp; done) | (go_simp; rfl)); intro gb160 hg w156 hbox hb; have n0_ := Aside0.mk (blk_below (g := gb155) (o := .cells #[.int .i64 x156000_1] 25 (0, 0)) (by (with_reducible repeat (first | refine blk_drewN ?_ _ | refine blk_drew ?_ | refine blk_alloc ?_ _)); exact BK155.out) hb); have n1_ := Aside0.mk (blk_below (g := gb157) (o := .cells #[.int .i64 x156000_1] 25 (0, 0)) (by (with_reducible repeat (first | refine blk_drewN ?_ _ | refine blk_drew ?_ | refine blk_alloc ?_ _)); exact BK157.out) hb); have n2_ := Aside0.mk (below_step (by repeat (first | (with_reducible first | exact HB.out | apply below_alloc | apply pw_below_drewN | apply below_drew1 | refine below_set ?_ GE155.out | refine below_set ?_ GE157.out) | exact HB.out)) hb); have n3_ := Aside0.mk (hbox); have n4_ := Aside0.mk ((by rw [hg]; exact (below_size (by repeat (first | (with_reducible first | exact HB.out | apply below_alloc | apply pw_below_drewN | apply below_drew1 | refine below_set ?_ GE155.out | refine below_set ?_ GE157.out) | exact HB.out))) : w.heap.size ≤ gb160)); have n5_ := Aside0.mk ((by rw [hg]; exact (below_size (by repeat (first | (with_reducible first | exact HB.out | apply below_alloc | apply pw_below_drewN | apply below_drew1 | refine below_set ?_ GE155.out | refine below_set ?_ GE157.out) | exact HB.out))) : w.heap.size ≤ gb160)); have n6_ := Aside0.mk ((by rw [hg]; exact Nat.ne_of_lt (blk_lt (g := gb155) (o := .cells #[.int .i64 x156000_1] 25 (0, 0)) (by (with_reducible repeat (first | refine blk_drewN ?_ _ | refine blk_drew ?_ | refine blk_alloc ?_ _)); exact BK155.out)) : gb155 ≠ gb160)); have n7_ := Aside0.mk ((by rw [hg]; exact Nat.ne_of_gt (blk_lt (g := gb155) (o := .cells #[.int .i64 x156000_1] 25 (0, 0)) (by (with_reducible repeat (first | refine blk_drewN ?_ _ | refine blk_drew ?_ | refine blk_alloc ?_ _)); exact BK155.out)) : gb160 ≠ gb155)); have n8_ := Aside0.mk ((by rw [hg]; exact Nat.ne_of_lt (blk_lt (g := gb157) (o := .cells #[.int .i64 x156000_1] 25 (0, 0)) (by (with_reducible repeat (first | refine blk_drewN ?_ _ | refine blk_drew ?_ | refine blk_alloc ?_ _)); exact BK157.out)) : gb157 ≠ gb160)); have n9_ := Aside0.mk ((by rw [hg]; exact Nat.ne_of_gt (blk_lt (g := gb157) (o := .cells #[.int .i64 x156000_1] 25 (0, 0)) (by (with_reducible repeat (first | refine blk_drewN ?_ _ | refine blk_drew ?_ | refine blk_alloc ?_ _)); exact BK157.out)) : gb160 ≠ gb157)); clear BK155; clear BK157; clear HB; have BK155 := n0_; have BK157 := n1_; have HB := n2_; have BK160 := n3_; have GW160 := n4_; have GE160 := n5_; have NB155_160 := n6_; have NB160_155 := n7_; have NB157_160 := n8_; have NB160_157 := n9_; clear n0_ n1_ n2_ n3_ n4_ n5_ n6_ n7_ n8_ n9_; clear hb hbox hg; have hnb157 := NB160_155.out; have hnc157 := NB155_160.out; have hnb158 := NB160_157.out; have hnc158 := NB157_160.out; have hcz159_0 : w156.cell? ⟨gb160, 0, none⟩ = some (.int .i64 0) := (blk_cell BK160.out 0).trans rfl; have hfz159_0 := blk_frozen BK160.out 0; have hcz160_0 : w156.cell? ⟨gb157, 0, none⟩ = some (.int .i64 x156000_1) := (blk_cell BK157.out 0).trans rfl; have hfz160_0 := blk_frozen BK157.out 0))
                    go_ret
                    exact ⟨by first | rfl | (simp [errW_none, errW_some] <;> rfl) | (simp [*, errW_none, errW_some] <;> rfl), by repeat (first | (with_reducible first | exact HB.out | apply below_alloc | apply pw_below_drewN | apply below_drew1 | refine below_set ?_ GE155.out | refine below_set ?_ GE157.out | refine below_set ?_ GE160.out) | exact HB.out)⟩
                  · rw [if_neg c149] at H
                    have c149b0 : ((t159 == 1) != (decide ((rd l0 x5_1) < 1))) = false := by simpa using c149
                    (try (have c149b1 : decide ((t159 == 1) = (decide ((rd l0 x5_1) < 1))) = true := by simpa using c149))
                    (try (have c149b2 : ((t159 == 1) == (decide ((rd l0 x5_1) < 1))) = true := by simpa using c149))
                    clear c149
                    have H' := Aside0.mk H
                    clear H
                    have p156 : 0 ≤ (x5_1 : Int) := of_decide_eq_true (by first | (with_reducible assumption) | assumption)
                    have q156 : x5_1 < (l0.length : Int) := of_decide_eq_true (by first | (with_reducible assumption) | assumption)
                    obtain ⟨ad156, e156, hx156_0⟩ := Kd.at_int HR0.out x5_1 p156 q156
                    cases e156
                    replace hx156_0 := (HB.out.cell (World.block_lt_of_cell? w _ hx156_0)).trans hx156_0
                    replace p156 := eq_true p156
                    replace q156 := eq_true q156
                    have hcz161_0 : wr.cell? ⟨gb155, 0, none⟩ = some (.int .i64 x156000_1) := (blk_cell BK155.out 0).trans rfl
                    have hfz161_0 := blk_frozen BK155.out 0
                    go_wp2_with (first | ((with_reducible refine gate_dst (N := 7) rfl ?_); refine box_event ?hg (N := 7) ?hd (cs := #[.int .i64 0]) (t := 25) ?hr ?_; (case hd => rfl); (case hg => rfl); (case hr => first | (go_simp; done) | (go_simp; rfl)); intro gb157 hg w162 hbox hb; have n0_ := Aside0.mk (blk_below (g := gb155) (o := .cells #[.int .i64 x156000_1] 25 (0, 0)) (by (with_reducible repeat (first | refine blk_drewN ?_ _ | refine blk_drew ?_ | refine blk_alloc ?_ _)); exact BK155.out) hb); have n1_ := Aside0.mk (below_step (by repeat (first | (with_reducible first | exact HB.out | apply below_alloc | apply pw_below_drewN | apply below_drew1 | refine below_set ?_ GE155.out) | exact HB.out)) hb); have n2_ := Aside0.mk (hbox); have n3_ := Aside0.mk ((by rw [hg]; exact (below_size (by repeat (first | (with_reducible first | exact HB.out | apply below_alloc | apply pw_below_drewN | apply below_drew1 | refine below_set ?_ GE155.out) | exact HB.out))) : w.heap.size ≤ gb157)); have n4_ := Aside0.mk ((by rw [hg]; exact (below_size (by repeat (first | (with_reducible first | exact HB.out | apply below_alloc | apply pw_below_drewN | apply below_drew1 | refine below_set ?_ GE155.out) | exact HB.out))) : w.heap.size ≤ gb157)); have n5_ := Aside0.mk ((by rw [hg]; exact Nat.ne_of_lt (blk_lt (g := gb155) (o := .cells #[.int .i64 x156000_1] 25 (0, 0)) (by (with_reducible repeat (first | refine blk_drewN ?_ _ | refine blk_drew ?_ | refine blk_alloc ?_ _)); exact BK155.out)) : gb155 ≠ gb157)); have n6_ := Aside0.mk ((by rw [hg]; exact Nat.ne_of_gt (blk_lt (g := gb155) (o := .cells #[.int .i64 x156000_1] 25 (0, 0)) (by (with_reducible repeat (first | refine blk_drewN ?_ _ | refine blk_drew ?_ | refine blk_alloc ?_ _)); exact BK155.out)) : gb157 ≠ gb155)); clear BK155; clear HB; have BK155 := n0_; have HB := n1_; have BK157 := n2_; have GW157 := n3_; have GE157 := n4_; have NB155_157 := n5_; have NB157_155 := n6_; clear n0_ n1_ n2_ n3_ n4_ n5_ n6_; clear hb hbox hg; have hnb163 := NB157_155.out; have hnc163 := NB155_157.out; have hcz164_0 : w162.cell? ⟨gb157, 0, none⟩ = some (.int .i64 0) := (blk_cell BK157.out 0).trans rfl; have hfz164_0 := blk_frozen BK157.out 0; have hcz165_0 : w162.cell? ⟨gb155, 0, none⟩ = some (.int .i64 x156000_1) := (blk_cell BK155.out 0).trans rfl; have hfz165_0 := blk_frozen BK155.out 0) | ((with_reducible refine gate_callee (f := 9) rfl ?_); refine goesL_ (some 35) rfl rfl Try.func9 (by kernel_rfl) rfl #[.agg #[.int .i64 x156000_1], .int .i64 (rd l0 x5_1)] rfl (by (try simp only [List.map_toArray, List.map_cons, List.map_nil]); first | done | rfl | (simp only [List.length_drop, List.length_take]; rfl)) ?_; (with_reducible refine (hold_Hold_Take.calls x156000_1 (rd l0 x5_1) t158 t159 _ A11.out).mono ?_); rintro e w166 ⟨rfl, hb⟩; refine ⟨_, rfl, ?_⟩; have n0_ := Aside0.mk (blk_below (g := gb155) (o := .cells #[.int .i64 x156000_1] 25 (0, 0)) (by (with_reducible repeat (first | refine blk_drewN ?_ _ | refine blk_drew ?_ | refine blk_alloc ?_ _)); refine blk_far ?_ NB155_157.out _; (with_reducible repeat (first | refine blk_drewN ?_ _ | refine blk_drew ?_ | refine blk_alloc ?_ _)); exact BK155.out) hb); have n1_ := Aside0.mk (blk_below (g := gb157) (o := .cells #[.int .i64 x156000_1] 25 (0, 0)) (by (with_reducible repeat (first | refine blk_drewN ?_ _ | refine blk_drew ?_ | refine blk_alloc ?_ _)); refine blk_put (cs := #[.int .i64 0]) ?_ 0 _ rfl; (with_reducible repeat (first | refine blk_drewN ?_ _ | refine blk_drew ?_ | refine blk_alloc ?_ _)); exact BK157.out) hb); have n2_ := Aside0.mk (below_step (by repeat (first | (with_reducible first | exact HB.out | apply below_alloc | apply pw_below_drewN | apply below_drew1 | refine below_set ?_ GE155.out | refine below_set ?_ GE157.out) | exact HB.out)) hb); clear BK155; clear BK157; clear HB; have BK155 := n0_; have BK157 := n1_; have HB := n2_; clear n0_ n1_ n2_; (try clear hb); (try clear hb2); (try clear hk); (try clear hi)) | ((with_reducible refine gate_dst (N := 8) rfl ?_); refine box_event ?hg (N := 8) ?hd (cs := #[.int .i64 0]) (t := 25) ?hr ?_; (case hd => rfl); (case hg => rfl); (case hr => first | (go_simp; done) | (go_simp; rfl)); intro gb160 hg w167 hbox hb; have n0_ := Aside0.mk (blk_below (g := gb155) (o := .cells #[.int .i64 x156000_1] 25 (0, 0)) (by (with_reducible repeat (first | refine blk_drewN ?_ _ | refine blk_drew ?_ | refine blk_alloc ?_ _)); exact BK155.out) hb); have n1_ := Aside0.mk (blk_below (g := gb157) (o := .cells #[.int .i64 x156000_1] 25 (0, 0)) (by (with_reducible repeat (first | refine blk_drewN ?_ _ | refine blk_drew ?_ | refine blk_alloc ?_ _)); exact BK157.out) hb); have n2_ := Aside0.mk (below_step (by repeat (first | (with_reducible first | exact HB.out | apply below_alloc | apply pw_below_drewN | apply below_drew1 | refine below_set ?_ GE155.out | refine below_set ?_ GE157.out) | exact HB.out)) hb); have n3_ := Aside0.mk (hbox); have n4_ := Aside0.mk ((by rw [hg]; exact (below_size (by repeat (first | (with_reducible first | exact HB.out | apply below_alloc | apply pw_below_drewN | apply below_drew1 | refine below_set ?_ GE155.out | refine below_set ?_ GE157.out) | exact HB.out))) : w.heap.size ≤ gb160)); have n5_ := Aside0.mk ((by rw [hg]; exact (below_size (by repeat (first | (with_reducible first | exact HB.out | apply below_alloc | apply pw_below_drewN | apply below_drew1 | refine below_set ?_ GE155.out | refine below_set ?_ GE157.out) | exact HB.out))) : w.heap.size ≤ gb160)); have n6_ := Aside0.mk ((by rw [hg]; exact Nat.ne_of_lt (blk_lt (g := gb155) (o := .cells #[.int .i64 x156000_1] 25 (0, 0)) (by (with_reducible repeat (first | refine blk_drewN ?_ _ | refine blk_drew ?_ | refine blk_alloc ?_ _)); exact BK155.out)) : gb155 ≠ gb160)); have n7_ := Aside0.mk ((by rw [hg]; exact Nat.ne_of_gt (blk_lt (g := gb155) (o := .cells #[.int .i64 x156000_1] 25 (0, 0)) (by (with_reducible repeat (first | refine blk_drewN ?_ _ | refine blk_drew ?_ | refine blk_alloc ?_ _)); exact BK155.out)) : gb160 ≠ gb155)); have n8_ := Aside0.mk ((by rw [hg]; exact Nat.ne_of_lt (blk_lt (g := gb157) (o := .cells #[.int .i64 x156000_1] 25 (0, 0)) (by (with_reducible repeat (first | refine blk_drewN ?_ _ | refine blk_drew ?_ | refine blk_alloc ?_ _)); exact BK157.out)) : gb157 ≠ gb160)); have n9_ := Aside0.mk ((by rw [hg]; exact Nat.ne_of_gt (blk_lt (g := gb157) (o := .cells #[.int .i64 x156000_1] 25 (0, 0)) (by (with_reducible repeat (first | refine blk_drewN ?_ _ | refine blk_drew ?_ | refine blk_alloc ?_ _)); exact BK157.out)) : gb160 ≠ gb157)); clear BK155; clear BK157; clear HB; have BK155 := n0_; have BK157 := n1_; have HB := n2_; have BK160 := n3_; have GW160 := n4_; have GE160 := n5_; have NB155_160 := n6_; have NB160_155 := n7_; have NB157_160 := n8_; have NB160_157 := n9_; clear n0_ n1_ n2_ n3_ n4_ n5_ n6_ n7_ n8_ n9_; clear hb hbox hg; have hnb168 := NB160_155.out; have hnc168 := NB155_160.out; have hnb169 := NB160_157.out; have hnc169 := NB157_160.out; have hcz170_0 : w167.cell? ⟨gb160, 0, none⟩ = some (.int .i64 0) := (blk_cell BK160.out 0).trans rfl; have hfz170_0 := blk_frozen BK160.out 0; have hcz171_0 : w167.cell? ⟨gb157, 0, none⟩ = some (.int .i64 x156000_1) := (blk_cell BK157.out 0).trans rfl; have hfz171_0 := blk_frozen BK157.out 0))
                    go_roundg k1
                    case measure => have := HK1.out; omega
                    case rel => exact ⟨(wrap64 (x5_1 + 1)), (x156000_1), (by first | rfl | (simp; done) | (simp [*]; done)), H', ⟨by have := HK1.out; omega⟩, ⟨by (with_reducible repeat (first | refine blk_drewN ?_ _ | refine blk_drew ?_ | refine blk_alloc ?_ _)); refine blk_far ?_ NB155_160.out _; (with_reducible repeat (first | refine blk_drewN ?_ _ | refine blk_drew ?_ | refine blk_alloc ?_ _)); exact BK155.out⟩, ⟨by repeat (first | (with_reducible first | exact HB.out | apply below_alloc | apply pw_below_drewN | apply below_drew1 | refine below_set ?_ GE155.out | refine below_set ?_ GE157.out | refine below_set ?_ GE160.out) | exact HB.out)⟩⟩
            · rw [if_neg c10] at H
              exact absurd H (by simp)
          · rw [if_neg c9] at H
            have c9b0 : decide (x5_1 < (l0.length : Int)) = false := decide_eq_false c9
            clear c9
            obtain rfl := Option.some.inj H
            go_wp2
            go_ret
            exact ⟨by first | rfl | (simp [errW_none, errW_some] <;> rfl) | (simp [*, errW_none, errW_some] <;> rfl), by repeat (first | (with_reducible first | exact HB.out | apply below_alloc | apply pw_below_drewN | apply below_drew1 | refine below_set ?_ GE155.out) | exact HB.out)⟩
  · replace c3 := Bool.eq_false_iff.mpr c3
    subst c3
    have H1 : (some false) = some r := by rw [if_neg (show ¬ (false = true) by decide)] at H; exact H
    clear H
    have H := H1
    clear H1
    obtain rfl := Option.some.inj H
    go_enter Try.func5, Try.ntmps5
    go_wp2_with (first | ((with_reducible refine gate_callee (f := 6) rfl ?_); refine goesL_ (some 14) rfl rfl Try.func6 (by kernel_rfl) rfl #[] rfl (by (try simp only [List.map_toArray, List.map_cons, List.map_nil]); first | done | rfl | (simp only [List.length_drop, List.length_take]; rfl)) ?_; (with_reducible refine (tollbarlaw29_awake.calls k  false _ A2.out).mono ?_); rintro e w172 ⟨rfl, hb⟩; refine ⟨_, rfl, ?_⟩; have n0_ := Aside0.mk (below_step (by repeat (first | (with_reducible first | exact HB.out | apply below_alloc | apply pw_below_drewN | apply below_drew1) | exact HB.out)) hb); clear HB; have HB := n0_; clear n0_; (try clear hb); (try clear hb2); (try clear hk); (try clear hi)))
    go_ret
    exact ⟨by first | rfl | (simp [errW_none, errW_some] <;> rfl) | (simp [*, errW_none, errW_some] <;> rfl), by repeat (first | (with_reducible first | exact HB.out | apply below_alloc | apply pw_below_drewN | apply below_drew1) | exact HB.out)⟩

/-- THE ONE PURE STATEMENT of tollbarlaw29_HoldTurns: yours. -/
def tollbarlaw29_HoldTurns.Pure : Prop := ∀ (l0 : List Int), l0.length ≤ maxLen → l0.length * 8 ≤ 140737488351232 → (∀ x ∈ l0, (Lit.int .i64 x).wf = true) → ∃ k, tollbarlaw29_HoldTurns.f k l0 = some true
theorem tollbarlaw29_HoldTurns.walk (P : tollbarlaw29_HoldTurns.Pure) (a0 : Option Addr) (len0 cap0 : Nat) (z0 : List Int) (w : World) (w0 : (a0 = none ∧ len0 = 0 ∧ cap0 = 0 ∧ z0 = []) ∨ ∃ x, a0 = some x ∧ len0 ≤ cap0 ∧ cap0 ≤ maxLen ∧ z0.length = cap0 ∧ (∀ i, i < z0.length → w.cell? (x.add i) = some (.int .i64 (z0.getD i 0))) ∧ ∀ n ∈ z0, (Lit.int .i64 n).wf = true) (y0 : len0 * 8 ≤ 140737488351232) :
    Calls Try.prog 5 #[.slice a0 len0 cap0] w fun e w' => e = .returned (.bool true) ∧ Below w.heap.size w w' := by
  obtain ⟨l0, rfl, hr0, hm0, hw0, hc0⟩ := ReadsInt.ofRowC w0
  obtain ⟨k, h⟩ := P l0 hm0 y0 hw0
  refine (tollbarlaw29_HoldTurns.calls k _ _ l0 true w (Kd.C_of_reads (d := (0 : Int)) (h1 := fun _ => rfl) hr0) hc0 h).mono ?_
  rintro e w' ⟨rfl, hd⟩
  exact ⟨rfl, hd⟩

end Go.Proofs.Ytlbmiphdipohlaa.QHold
