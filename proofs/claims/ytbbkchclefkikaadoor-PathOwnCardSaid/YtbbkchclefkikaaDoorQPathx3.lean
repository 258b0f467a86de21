-- laid by a program of this session (pp.sh) out of the translation
import Derived.Test.YtbbkchclefkikaaDoorQPathx0
import Derived.Test.YtbbkchclefkikaaDoorQPathx2
namespace Go.Proofs.YtbbkchclefkikaaDoor.QPath
open Go.RowKit Go.Proofs.YtbbkchclefkikaaDoorW.PrintWords Go.Proofs.YtbbkchclefkikaaDoorW.PrintLast Go.Proofs.YtbbkchclefkikaaDoorW.PrintMore
attribute [local go_sem] max2_int min2_int max_two min_two max_three min_three max_four min_four   -- for this text's walks alone
set_option linter.unusedVariables false
set_option linter.unusedSimpArgs false

/-! ### path_reader_step: function 20 -/
mutual
def path_reader_step.j0 : Nat → Bool → ByteArray → Int → Int → Int → Option (ByteArray × ByteArray × ByteArray × Int × Int × Int)
  | 0, _, _, _, _, _ => none
  | k + 1, x14, x1000, x1001, x1002, x1003 => if x14 = true then ((path_reader_fail.f x1000 x1001 x1002 x1003 13).bind fun bt121 => (path_reader_step.j1 k bt121.1 bt121.2.1 bt121.2.2.1 bt121.2.2.2)) else (path_reader_step.j1 k x1000 x1001 x1002 x1003)
def path_reader_step.j1 : Nat → ByteArray → Int → Int → Int → Option (ByteArray × ByteArray × ByteArray × Int × Int × Int)
  | 0, _, _, _, _ => none
  | k + 1, x1000, x1001, x1002, x1003 => (path_reader_sign.f x1000 x1001 x1002 x1003 (⟨#[47]⟩ : ByteArray)).bind fun bt125 => ((path_reader_name.f bt125.1 bt125.2.1 bt125.2.2.1 bt125.2.2.2).bind fun bt129 => ((strings_HasPrefix.f bt129.2.1 (⟨#[91]⟩ : ByteArray)).bind fun t135 => (if t135 = true then ((path_reader_sign.f bt129.2.1 bt129.2.2.1 bt129.2.2.2.1 bt129.2.2.2.2 (⟨#[91]⟩ : ByteArray)).bind fun bt136 => ((path_reader_name.f bt136.1 bt136.2.1 bt136.2.2.1 bt136.2.2.2).bind fun bt140 => ((path_reader_sign.f bt140.2.1 bt140.2.2.1 bt140.2.2.2.1 bt140.2.2.2.2 (⟨#[93]⟩ : ByteArray)).bind fun bt145 => (some (bt129.1, bt140.1, bt145.1, bt145.2.1, bt145.2.2.1, bt145.2.2.2))))) else (some (bt129.1, (⟨#[]⟩ : ByteArray), bt129.2.1, bt129.2.2.1, bt129.2.2.2.1, bt129.2.2.2.2)))))
end
def path_reader_step.f (k : Nat) (s0_0 : ByteArray) (s0_1 : Int) (s0_2 : Int) (s0_3 : Int) (a1 : Int) : Option (ByteArray × ByteArray × ByteArray × Int × Int × Int) := if a1 ≥ 6 then ((strings_HasPrefix.f s0_0 (⟨#[47]⟩ : ByteArray)).bind fun t120 => (path_reader_step.j0 k t120 s0_0 s0_1 s0_2 s0_3)) else (path_reader_step.j0 k false s0_0 s0_1 s0_2 s0_3)
theorem path_reader_step.mono_l : ∀ k, (∀ y0 y1 y2 y3 y4, LeO (path_reader_step.j0 k y0 y1 y2 y3 y4) (path_reader_step.j0 (k + 1) y0 y1 y2 y3 y4)) ∧ (∀ y0 y1 y2 y3, LeO (path_reader_step.j1 k y0 y1 y2 y3) (path_reader_step.j1 (k + 1) y0 y1 y2 y3))
  | 0 => ⟨fun _ _ _ _ _ r h => by simp [path_reader_step.j0] at h, fun _ _ _ _ r h => by simp [path_reader_step.j1] at h⟩
  | k + 1 => by
    obtain ⟨ih0, ih1⟩ := path_reader_step.mono_l k
    refine ⟨?_, ?_⟩
    · intro y0 y1 y2 y3 y4
      unfold path_reader_step.j0
      repeat' first
      | (with_reducible exact ih0 _ _ _ _ _)
      | (with_reducible exact ih1 _ _ _ _)
      | (with_reducible exact LeO.refl _)
      | (with_reducible exact LeO.none _)
      | (with_reducible refine LeO.ite ?_ ?_)
      | (with_reducible refine LeO.bind ?_ (fun _ => ?_))
      | exact ih0 _ _ _ _ _
      | exact ih1 _ _ _ _
      | exact LeO.none _
      | refine LeO.ite ?_ ?_
      | refine LeO.bind ?_ (fun _ => ?_)
    · intro y0 y1 y2 y3
      unfold path_reader_step.j1
      repeat' first
      | (with_reducible exact ih0 _ _ _ _ _)
      | (with_reducible exact ih1 _ _ _ _)
      | (with_reducible exact LeO.refl _)
      | (with_reducible exact LeO.none _)
      | (with_reducible refine LeO.ite ?_ ?_)
      | (with_reducible refine LeO.bind ?_ (fun _ => ?_))
      | exact ih0 _ _ _ _ _
      | exact ih1 _ _ _ _
      | exact LeO.none _
      | refine LeO.ite ?_ ?_
      | refine LeO.bind ?_ (fun _ => ?_)
theorem path_reader_step.mono : ∀ a0 a1 a2 a3 a4 k, LeO (path_reader_step.f k a0 a1 a2 a3 a4) (path_reader_step.f (k + 1) a0 a1 a2 a3 a4) := by
  intro a0 a1 a2 a3 a4 k
  obtain ⟨ih0, ih1⟩ := path_reader_step.mono_l k
  unfold path_reader_step.f
  repeat' first
      | (with_reducible exact ih0 _ _ _ _ _)
      | (with_reducible exact ih1 _ _ _ _)
      | (with_reducible exact LeO.refl _)
      | (with_reducible exact LeO.none _)
      | (with_reducible refine LeO.ite ?_ ?_)
      | (with_reducible refine LeO.bind ?_ (fun _ => ?_))
      | exact ih0 _ _ _ _ _
      | exact ih1 _ _ _ _
      | exact LeO.none _
      | refine LeO.ite ?_ ?_
      | refine LeO.bind ?_ (fun _ => ?_)
set_option maxHeartbeats 8000000 in
set_option maxRecDepth 100000 in
theorem path_reader_step.calls (k : Nat) (g : Nat) (s0_0 : ByteArray) (s0_1 : Int) (s0_2 : Int) (s0_3 : Int) (a1 : Int) (r1 : ByteArray) (r2 : ByteArray) (r3 : ByteArray) (r4 : Int) (r5 : Int) (r6 : Int) (w0 w : World) (hI : IsS52 w0 w g s0_0 s0_1 s0_2 s0_3) (hB : Below w0.heap.size w0 w) (h : path_reader_step.f k s0_0 s0_1 s0_2 s0_3 a1 = some (r1, r2, r3, r4, r5, r6)) :
    Calls Tryd.prog 20 #[.pointer (some ⟨g, 0, none⟩), .int .i64 a1] w fun e w' => e = .returned (.agg #[.string r1, .string r2]) ∧ IsS52 w0 w' g r3 r4 r5 r6 ∧ Below w0.heap.size w0 w' ∧ KeepBut w w' g none := by
  have hu46 := Tryd.underlying46
  have HI0 := Aside0.mk hI
  have HK := Aside0.mk (KeepBut.refl w g none)
  have HL := Aside0.mk hB.size
  clear hI
  have HW0 := Aside0.mk hB.size
  have HB := Aside0.mk hB
  clear hB
  have H : (if a1 ≥ 6 then ((strings_HasPrefix.f s0_0 (⟨#[47]⟩ : ByteArray)).bind fun t120 => (path_reader_step.j0 k t120 s0_0 s0_1 s0_2 s0_3)) else (path_reader_step.j0 k false s0_0 s0_1 s0_2 s0_3)) = some (r1, r2, r3, r4, r5, r6) := h
  clear h
  have HC3 := Aside0.mk H
  clear H
  go_enter Tryd.func20, Tryd.ntmps20
  go_upto_region 1 with (first | ((with_reducible refine gate_dst (N := 4) rfl ?_); refine box_event ?hg (N := 4) ?hd (cs := #[.string (⟨#[]⟩ : ByteArray), .string (⟨#[]⟩ : ByteArray)]) (t := 46) ?hr ?_; (case hd => rfl); (case hg => rfl); (case hr => first | (go_simp; done) | (go_simp; rfl)); intro gb119 hg w4 hbox hb; have n0_ := Aside0.mk (IsS52.below (by repeat (first | (with_reducible first | exact HI0.out | apply IsS52.alloc | apply IsS52.drewN | apply IsS52.drew | apply IsS52.set_0 | apply IsS52.set_1 | apply IsS52.set_2 | apply IsS52.set_3) | exact HI0.out)) hb); have n1_ := Aside0.mk (KeepBut.trans (by repeat (first | (with_reducible first | exact HK.out | apply KeepBut.set_ | apply keep_drewN | apply keep_drew | apply keep_alloc) | exact HK.out)) (KeepBut.of_below hb g none) (.inl rfl)); have n2_ := Aside0.mk (below_step (by repeat (first | (with_reducible first | exact HB.out | apply below_alloc | apply pw_below_drewN | apply below_drew1 | refine below_set ?_ (IsS52.ge HI0.out)) | exact HB.out)) hb); have n3_ := Aside0.mk (hbox); have n4_ := Aside0.mk ((by rw [hg]; exact (keep_size (w := w) (g := g) (row := none) (by repeat (first | (with_reducible first | exact HK.out | apply KeepBut.set_ | apply keep_drewN | apply keep_drew | apply keep_alloc) | exact HK.out))) : w.heap.size ≤ gb119)); have n5_ := Aside0.mk ((Nat.le_trans HW0.out (by rw [hg]; exact (keep_size (w := w) (g := g) (row := none) (by repeat (first | (with_reducible first | exact HK.out | apply KeepBut.set_ | apply keep_drewN | apply keep_drew | apply keep_alloc) | exact HK.out))) : w.heap.size ≤ gb119) : w0.heap.size ≤ gb119)); have n6_ := Aside0.mk ((by rw [hg]; exact Nat.ne_of_lt (IsS52.lt (show IsS52 w0 _ g s0_0 s0_1 s0_2 s0_3 from by repeat (first | (with_reducible first | exact HI0.out | apply IsS52.alloc | apply IsS52.drewN | apply IsS52.drew | apply IsS52.set_0 | apply IsS52.set_1 | apply IsS52.set_2 | apply IsS52.set_3) | exact HI0.out))) : g ≠ gb119)); have n7_ := Aside0.mk ((by rw [hg]; exact Nat.ne_of_gt (IsS52.lt (show IsS52 w0 _ g s0_0 s0_1 s0_2 s0_3 from by repeat (first | (with_reducible first | exact HI0.out | apply IsS52.alloc | apply IsS52.drewN | apply IsS52.drew | apply IsS52.set_0 | apply IsS52.set_1 | apply IsS52.set_2 | apply IsS52.set_3) | exact HI0.out))) : gb119 ≠ g)); clear HI0; clear HK; clear HB; have HI0 := n0_; have HK := n1_; have HB := n2_; have BK119 := n3_; have GW119 := n4_; have GE119 := n5_; have NB0_119 := n6_; have NB119_0 := n7_; clear n0_ n1_ n2_ n3_ n4_ n5_ n6_ n7_; clear hb hbox hg))
  (try simp only [Act.put, List.setIfInBounds_toArray, List.set_cons_zero, List.set_cons_succ])
  go_cut [14] (fun v14 wc => ∃ (kq : Nat) (x14_2 : Bool), v14 = .bool x14_2 ∧ Aside0 (path_reader_step.j0 kq x14_2 s0_0 s0_1 s0_2 s0_3 = some (r1, r2, r3, r4, r5, r6)) ∧ Aside0 (kq ≤ k) ∧ Aside0 (wc.heap[gb119]? = some (.cells #[.string (⟨#[]⟩ : ByteArray), .string (⟨#[]⟩ : ByteArray)] 46 (0, 0))) ∧ Aside0 (IsS52 w0 wc g s0_0 s0_1 s0_2 s0_3) ∧ Aside0 (KeepBut w wc g none) ∧ Aside0 (Below w0.heap.size w0 wc))
  case first =>
    have H := HC3.out
    clear HC3
    by_cases c5 : a1 ≥ 6
    · rw [if_pos c5] at H
      have c5b0 : decide (6 ≤ a1) = true := decide_eq_true c5
      clear c5
      (first | rw [c5b0] | (simp only [i64_w, i32_w]; rw [c5b0]) | skip)
      replace H := Option.bind_eq_some_iff.mp H
      obtain ⟨t120, A60, H⟩ := H
      replace H : (path_reader_step.j0 k t120 s0_0 s0_1 s0_2 s0_3) = some (r1, r2, r3, r4, r5, r6) := H
      have A6 := Aside0.mk A60
      clear A60
      have H' := Aside0.mk H
      clear H
      obtain ⟨HGz7, hgz7⟩ := HI0.out
      have hcz7_0 := cellS52_0 HGz7
      have hcz7_1 := cellS52_1 HGz7
      have hcz7_2 := cellS52_2 HGz7
      have hcz7_3 := cellS52_3 HGz7
      have hfz7_0 := blk_frozen HGz7 0
      have hfz7_1 := blk_frozen HGz7 1
      have hfz7_2 := blk_frozen HGz7 2
      have hfz7_3 := blk_frozen HGz7 3
      clear HGz7 hgz7
      go_wp2_with (first | (go_at_call 31; (with_reducible refine (strings_HasPrefix.calls s0_0 (⟨#[47]⟩ : ByteArray) t120 _ A6.out).mono ?_); rintro e w' ⟨rfl, ⟨nd, rfl⟩⟩))
      go_meet
      case rel => exact ⟨_, (t120), (by first | rfl | (simp; done) | (simp [*]; done) | exact congrArg Value.bool (isEmpty_ne _) | exact congrArg Value.bool (notEmpty_ne _)), H', ⟨by first | omega | exact Nat.le_refl _⟩, ⟨by (with_reducible repeat (first | refine blk_drewN ?_ _ | refine blk_drew ?_ | refine blk_alloc ?_ _)); exact BK119.out⟩, ⟨by repeat (first | (with_reducible first | exact HI0.out | apply IsS52.alloc | apply IsS52.drewN | apply IsS52.drew | apply IsS52.set_0 | apply IsS52.set_1 | apply IsS52.set_2 | apply IsS52.set_3 | refine IsS52.far ?_ NB0_119.out _) | exact HI0.out)⟩, ⟨by repeat (first | (with_reducible first | exact HK.out | apply KeepBut.set_ | apply keep_drewN | apply keep_drew | apply keep_alloc | refine keep_far ?_ GW119.out _) | exact HK.out)⟩, ⟨by repeat (first | (with_reducible first | exact HB.out | apply below_alloc | apply pw_below_drewN | apply below_drew1 | refine below_set ?_ (IsS52.ge HI0.out) | refine below_set ?_ GE119.out) | exact HB.out)⟩⟩
    · rw [if_neg c5] at H
      have c5b0 : decide (6 ≤ a1) = false := decide_eq_false c5
      clear c5
      (first | rw [c5b0] | (simp only [i64_w, i32_w]; rw [c5b0]) | skip)
      have H' := Aside0.mk H
      clear H
      go_wp2
      go_meet
      case rel => exact ⟨_, (false), (by first | rfl | (simp; done) | (simp [*]; done) | exact congrArg Value.bool (isEmpty_ne _) | exact congrArg Value.bool (notEmpty_ne _)), H', ⟨by first | omega | exact Nat.le_refl _⟩, ⟨by (with_reducible repeat (first | refine blk_drewN ?_ _ | refine blk_drew ?_ | refine blk_alloc ?_ _)); exact BK119.out⟩, ⟨by repeat (first | (with_reducible first | exact HI0.out | apply IsS52.alloc | apply IsS52.drewN | apply IsS52.drew | apply IsS52.set_0 | apply IsS52.set_1 | apply IsS52.set_2 | apply IsS52.set_3 | refine IsS52.far ?_ NB0_119.out _) | exact HI0.out)⟩, ⟨by repeat (first | (with_reducible first | exact HK.out | apply KeepBut.set_ | apply keep_drewN | apply keep_drew | apply keep_alloc | refine keep_far ?_ GW119.out _) | exact HK.out)⟩, ⟨by repeat (first | (with_reducible first | exact HB.out | apply below_alloc | apply pw_below_drewN | apply below_drew1 | refine below_set ?_ (IsS52.ge HI0.out) | refine below_set ?_ GE119.out) | exact HB.out)⟩⟩
  case rest =>
    clear HC3
    try clear c2
    try clear p2
    try clear c5
    try clear c5b0
    try clear hcz7_0
    try clear hcz7_1
    try clear hcz7_2
    try clear hcz7_3
    try clear hfz7_0
    try clear hfz7_1
    try clear hfz7_2
    try clear hfz7_3
    obtain ⟨kq, x14_2, rfl, HA, HJ2, BK119, HI0, HK, HB⟩ := hcut
    cases kq with
    | zero => exact absurd HA.out (by simp [path_reader_step.j0])
    | succ kj2 =>
      have H := HA.out
      clear HA
      simp only [path_reader_step.j0] at H
      have HC8 := Aside0.mk H
      clear H
      go_upto_if 14 with (fail)
      go_cut [] (fun wc => ∃ (kq : Nat) (x1000_7 : ByteArray) (x1001_7 : Int) (x1002_7 : Int) (x1003_7 : Int), Aside0 (path_reader_step.j1 kq x1000_7 x1001_7 x1002_7 x1003_7 = some (r1, r2, r3, r4, r5, r6)) ∧ Aside0 (kq ≤ kj2) ∧ Aside0 (wc.heap[gb119]? = some (.cells #[.string (⟨#[]⟩ : ByteArray), .string (⟨#[]⟩ : ByteArray)] 46 (0, 0))) ∧ Aside0 (IsS52 w0 wc g x1000_7 x1001_7 x1002_7 x1003_7) ∧ Aside0 (KeepBut w wc g none) ∧ Aside0 (Below w0.heap.size w0 wc))
      case first =>
        have H := HC8.out
        clear HC8
        by_cases c9 : x14_2 = true
        · subst c9
          have H1 : ((path_reader_fail.f s0_0 s0_1 s0_2 s0_3 13).bind fun bt121 => (path_reader_step.j1 kj2 bt121.1 bt121.2.1 bt121.2.2.1 bt121.2.2.2)) = some (r1, r2, r3, r4, r5, r6) := by rw [if_pos rfl] at H; exact H
          clear H
          have H := H1
          clear H1
          replace H := Option.bind_eq_some_iff.mp H
          obtain ⟨⟨t121, t122, t123, t124⟩, A100, H⟩ := H
          replace H : (path_reader_step.j1 kj2 t121 t122 t123 t124) = some (r1, r2, r3, r4, r5, r6) := H
          have A10 := Aside0.mk A100
          clear A100
          have H' := Aside0.mk H
          clear H
          go_wp2_with (first | ((with_reducible refine gate_callee (f := 32) rfl ?_); refine goesL_ (some 16) rfl rfl Tryd.func32 (by kernel_rfl) rfl #[.pointer (some ⟨g, 0, none⟩), .int .i64 13] rfl (by (try simp only [List.map_toArray, List.map_cons, List.map_nil]); first | done | rfl | (simp only [List.length_drop, List.length_take]; rfl)) ?_; (with_reducible refine (path_reader_fail.calls g s0_0 s0_1 s0_2 s0_3 13 t121 t122 t123 t124 w0 _ ?side1 ?side2 A10.out).mono ?_); (case side1 => repeat (first | (with_reducible first | exact HI0.out | apply IsS52.alloc | apply IsS52.drewN | apply IsS52.drew | apply IsS52.set_0 | apply IsS52.set_1 | apply IsS52.set_2 | apply IsS52.set_3 | refine IsS52.far ?_ NB0_119.out _) | exact HI0.out)); (case side2 => repeat (first | (with_reducible first | exact HB.out | apply below_alloc | apply pw_below_drewN | apply below_drew1 | refine below_set ?_ (IsS52.ge HI0.out) | refine below_set ?_ GE119.out) | exact HB.out)); rintro e w11 ⟨rfl, hi, hb, hk⟩; refine ⟨_, rfl, ?_⟩; have n0_ := Aside0.mk (KeepBut.blk hk (g' := gb119) (o := .cells #[.string (⟨#[]⟩ : ByteArray), .string (⟨#[]⟩ : ByteArray)] 46 (0, 0)) (by (with_reducible repeat (first | refine blk_drewN ?_ _ | refine blk_drew ?_ | refine blk_alloc ?_ _)); exact BK119.out) NB119_0.out (by simp)); have n1_ := Aside0.mk (KeepBut.trans (by repeat (first | (with_reducible first | exact HK.out | apply KeepBut.set_ | apply keep_drewN | apply keep_drew | apply keep_alloc | refine keep_far ?_ GW119.out _) | exact HK.out)) hk (.inl rfl)); have n2_ := Aside0.mk (hb); have n3_ := Aside0.mk (hi); clear BK119; clear HK; clear HB; clear HI0; have BK119 := n0_; have HK := n1_; have HB := n2_; have HI0 := n3_; clear n0_ n1_ n2_ n3_; (try clear hb); (try clear hb2); (try clear hk); (try clear hi)))
          go_meet
          case rel => exact ⟨_, (t121), (t122), (t123), (t124), H', ⟨by have := HJ2.out; first | omega | exact Nat.le_refl _⟩, ⟨by (with_reducible repeat (first | refine blk_drewN ?_ _ | refine blk_drew ?_ | refine blk_alloc ?_ _)); exact BK119.out⟩, ⟨by repeat (first | (with_reducible first | exact HI0.out | apply IsS52.alloc | apply IsS52.drewN | apply IsS52.drew | apply IsS52.set_0 | apply IsS52.set_1 | apply IsS52.set_2 | apply IsS52.set_3 | refine IsS52.far ?_ NB0_119.out _) | exact HI0.out)⟩, ⟨by repeat (first | (with_reducible first | exact HK.out | apply KeepBut.set_ | apply keep_drewN | apply keep_drew | apply keep_alloc | refine keep_far ?_ GW119.out _) | exact HK.out)⟩, ⟨by repeat (first | (with_reducible first | exact HB.out | apply below_alloc | apply pw_below_drewN | apply below_drew1 | refine below_set ?_ (IsS52.ge HI0.out) | refine below_set ?_ GE119.out) | exact HB.out)⟩⟩
        · replace c9 := Bool.eq_false_iff.mpr c9
          subst c9
          have H1 : (path_reader_step.j1 kj2 s0_0 s0_1 s0_2 s0_3) = some (r1, r2, r3, r4, r5, r6) := by rw [if_neg (show ¬ (false = true) by decide)] at H; exact H
          clear H
          have H := H1
          clear H1
          have H' := Aside0.mk H
          clear H
          go_wp2
          go_meet
          case rel => exact ⟨_, (s0_0), (s0_1), (s0_2), (s0_3), H', ⟨by have := HJ2.out; first | omega | exact Nat.le_refl _⟩, ⟨by (with_reducible repeat (first | refine blk_drewN ?_ _ | refine blk_drew ?_ | refine blk_alloc ?_ _)); exact BK119.out⟩, ⟨by repeat (first | (with_reducible first | exact HI0.out | apply IsS52.alloc | apply IsS52.drewN | apply IsS52.drew | apply IsS52.set_0 | apply IsS52.set_1 | apply IsS52.set_2 | apply IsS52.set_3 | refine IsS52.far ?_ NB0_119.out _) | exact HI0.out)⟩, ⟨by repeat (first | (with_reducible first | exact HK.out | apply KeepBut.set_ | apply keep_drewN | apply keep_drew | apply keep_alloc | refine keep_far ?_ GW119.out _) | exact HK.out)⟩, ⟨by repeat (first | (with_reducible first | exact HB.out | apply below_alloc | apply pw_below_drewN | apply below_drew1 | refine below_set ?_ (IsS52.ge HI0.out) | refine below_set ?_ GE119.out) | exact HB.out)⟩⟩
      case rest =>
        clear HC8
        try clear c2
        try clear p2
        try clear c3
        try clear c5
        try clear c5b0
        try clear c9
        try clear hcz7_0
        try clear hcz7_1
        try clear hcz7_2
        try clear hcz7_3
        try clear hfz7_0
        try clear hfz7_1
        try clear hfz7_2
        try clear hfz7_3
        try clear p2
        obtain ⟨kq, x1000_7, x1001_7, x1002_7, x1003_7, HA, HJ7, BK119, HI0, HK, HB⟩ := hcut
        cases kq with
        | zero => exact absurd HA.out (by simp [path_reader_step.j1])
        | succ kj7 =>
          have H := HA.out
          clear HA
          simp only [path_reader_step.j1] at H
          replace H := Option.bind_eq_some_iff.mp H
          obtain ⟨⟨t125, t126, t127, t128⟩, A120, H⟩ := H
          replace H : ((path_reader_name.f t125 t126 t127 t128).bind fun bt129 => ((strings_HasPrefix.f bt129.2.1 (⟨#[91]⟩ : ByteArray)).bind fun t135 => (if t135 = true then ((path_reader_sign.f bt129.2.1 bt129.2.2.1 bt129.2.2.2.1 bt129.2.2.2.2 (⟨#[91]⟩ : ByteArray)).bind fun bt136 => ((path_reader_name.f bt136.1 bt136.2.1 bt136.2.2.1 bt136.2.2.2).bind fun bt140 => ((path_reader_sign.f bt140.2.1 bt140.2.2.1 bt140.2.2.2.1 bt140.2.2.2.2 (⟨#[93]⟩ : ByteArray)).bind fun bt145 => (some (bt129.1, bt140.1, bt145.1, bt145.2.1, bt145.2.2.1, bt145.2.2.2))))) else (some (bt129.1, (⟨#[]⟩ : ByteArray), bt129.2.1, bt129.2.2.1, bt129.2.2.2.1, bt129.2.2.2.2))))) = some (r1, r2, r3, r4, r5, r6) := H
          have A12 := Aside0.mk A120
          clear A120
          replace H := Option.bind_eq_some_iff.mp H
          obtain ⟨⟨t129, t130, t131, t132, t133⟩, A130, H⟩ := H
          replace H : ((strings_HasPrefix.f t130 (⟨#[91]⟩ : ByteArray)).bind fun t135 => (if t135 = true then ((path_reader_sign.f t130 t131 t132 t133 (⟨#[91]⟩ : ByteArray)).bind fun bt136 => ((path_reader_name.f bt136.1 bt136.2.1 bt136.2.2.1 bt136.2.2.2).bind fun bt140 => ((path_reader_sign.f bt140.2.1 bt140.2.2.1 bt140.2.2.2.1 bt140.2.2.2.2 (⟨#[93]⟩ : ByteArray)).bind fun bt145 => (some (t129, bt140.1, bt145.1, bt145.2.1, bt145.2.2.1, bt145.2.2.2))))) else (some (t129, (⟨#[]⟩ : ByteArray), t130, t131, t132, t133)))) = some (r1, r2, r3, r4, r5, r6) := H
          have A13 := Aside0.mk A130
          clear A130
          replace H := Option.bind_eq_some_iff.mp H
          obtain ⟨t135, A140, H⟩ := H
          replace H : (if t135 = true then ((path_reader_sign.f t130 t131 t132 t133 (⟨#[91]⟩ : ByteArray)).bind fun bt136 => ((path_reader_name.f bt136.1 bt136.2.1 bt136.2.2.1 bt136.2.2.2).bind fun bt140 => ((path_reader_sign.f bt140.2.1 bt140.2.2.1 bt140.2.2.2.1 bt140.2.2.2.2 (⟨#[93]⟩ : ByteArray)).bind fun bt145 => (some (t129, bt140.1, bt145.1, bt145.2.1, bt145.2.2.1, bt145.2.2.2))))) else (some (t129, (⟨#[]⟩ : ByteArray), t130, t131, t132, t133))) = some (r1, r2, r3, r4, r5, r6) := H
          have A14 := Aside0.mk A140
          clear A140
          by_cases c15 : t135 = true
          · subst c15
            have H1 : ((path_reader_sign.f t130 t131 t132 t133 (⟨#[91]⟩ : ByteArray)).bind fun bt136 => ((path_reader_name.f bt136.1 bt136.2.1 bt136.2.2.1 bt136.2.2.2).bind fun bt140 => ((path_reader_sign.f bt140.2.1 bt140.2.2.1 bt140.2.2.2.1 bt140.2.2.2.2 (⟨#[93]⟩ : ByteArray)).bind fun bt145 => (some (t129, bt140.1, bt145.1, bt145.2.1, bt145.2.2.1, bt145.2.2.2))))) = some (r1, r2, r3, r4, r5, r6) := by rw [if_pos rfl] at H; exact H
            clear H
            have H := H1
            clear H1
            replace H := Option.bind_eq_some_iff.mp H
            obtain ⟨⟨t136, t137, t138, t139⟩, A160, H⟩ := H
            replace H : ((path_reader_name.f t136 t137 t138 t139).bind fun bt140 => ((path_reader_sign.f bt140.2.1 bt140.2.2.1 bt140.2.2.2.1 bt140.2.2.2.2 (⟨#[93]⟩ : ByteArray)).bind fun bt145 => (some (t129, bt140.1, bt145.1, bt145.2.1, bt145.2.2.1, bt145.2.2.2)))) = some (r1, r2, r3, r4, r5, r6) := H
            have A16 := Aside0.mk A160
            clear A160
            replace H := Option.bind_eq_some_iff.mp H
            obtain ⟨⟨t140, t141, t142, t143, t144⟩, A170, H⟩ := H
            replace H : ((path_reader_sign.f t141 t142 t143 t144 (⟨#[93]⟩ : ByteArray)).bind fun bt145 => (some (t129, t140, bt145.1, bt145.2.1, bt145.2.2.1, bt145.2.2.2))) = some (r1, r2, r3, r4, r5, r6) := H
            have A17 := Aside0.mk A170
            clear A170
            replace H := Option.bind_eq_some_iff.mp H
            obtain ⟨⟨t145, t146, t147, t148⟩, A180, H⟩ := H
            replace H : (some (t129, t140, t145, t146, t147, t148)) = some (r1, r2, r3, r4, r5, r6) := H
            have A18 := Aside0.mk A180
            clear A180
            simp only [Option.some.injEq, Prod.mk.injEq] at H
            obtain ⟨rfl, rfl, rfl, rfl, rfl, rfl⟩ := H
            go_wp2_with (first | ((with_reducible refine gate_callee (f := 33) rfl ?_); refine goesL_ (some 18) rfl rfl Tryd.func33 (by kernel_rfl) rfl #[.pointer (some ⟨g, 0, none⟩), .string (⟨#[47]⟩ : ByteArray)] rfl (by (try simp only [List.map_toArray, List.map_cons, List.map_nil]); first | done | rfl | (simp only [List.length_drop, List.length_take]; rfl)) ?_; (with_reducible refine (path_reader_sign.calls g x1000_7 x1001_7 x1002_7 x1003_7 (⟨#[47]⟩ : ByteArray) t125 t126 t127 t128 w0 _ ?side1 ?side2 A12.out).mono ?_); (case side1 => repeat (first | (with_reducible first | exact HI0.out | apply IsS52.alloc | apply IsS52.drewN | apply IsS52.drew | apply IsS52.set_0 | apply IsS52.set_1 | apply IsS52.set_2 | apply IsS52.set_3 | refine IsS52.far ?_ NB0_119.out _) | exact HI0.out)); (case side2 => repeat (first | (with_reducible first | exact HB.out | apply below_alloc | apply pw_below_drewN | apply below_drew1 | refine below_set ?_ (IsS52.ge HI0.out) | refine below_set ?_ GE119.out) | exact HB.out)); rintro e w19 ⟨rfl, hi, hb, hk⟩; refine ⟨_, rfl, ?_⟩; have n0_ := Aside0.mk (KeepBut.blk hk (g' := gb119) (o := .cells #[.string (⟨#[]⟩ : ByteArray), .string (⟨#[]⟩ : ByteArray)] 46 (0, 0)) (by (with_reducible repeat (first | refine blk_drewN ?_ _ | refine blk_drew ?_ | refine blk_alloc ?_ _)); exact BK119.out) NB119_0.out (by simp)); have n1_ := Aside0.mk (KeepBut.trans (by repeat (first | (with_reducible first | exact HK.out | apply KeepBut.set_ | apply keep_drewN | apply keep_drew | apply keep_alloc | refine keep_far ?_ GW119.out _) | exact HK.out)) hk (.inl rfl)); have n2_ := Aside0.mk (hb); have n3_ := Aside0.mk (hi); clear BK119; clear HK; clear HB; clear HI0; have BK119 := n0_; have HK := n1_; have HB := n2_; have HI0 := n3_; clear n0_ n1_ n2_ n3_; (try clear hb); (try clear hb2); (try clear hk); (try clear hi)) | ((with_reducible refine gate_callee (f := 34) rfl ?_); refine goesL_ (some 20) rfl rfl Tryd.func34 (by kernel_rfl) rfl #[.pointer (some ⟨g, 0, none⟩)] rfl (by (try simp only [List.map_toArray, List.map_cons, List.map_nil]); first | done | rfl | (simp only [List.length_drop, List.length_take]; rfl)) ?_; (with_reducible refine (path_reader_name.calls g t125 t126 t127 t128 t129 t130 t131 t132 t133 w0 _ ?side1 ?side2 A13.out).mono ?_); (case side1 => repeat (first | (with_reducible first | exact HI0.out | apply IsS52.alloc | apply IsS52.drewN | apply IsS52.drew | apply IsS52.set_0 | apply IsS52.set_1 | apply IsS52.set_2 | apply IsS52.set_3 | refine IsS52.far ?_ NB0_119.out _) | exact HI0.out)); (case side2 => repeat (first | (with_reducible first | exact HB.out | apply below_alloc | apply pw_below_drewN | apply below_drew1 | refine below_set ?_ (IsS52.ge HI0.out) | refine below_set ?_ GE119.out) | exact HB.out)); rintro e w20 ⟨rfl, hi, hb, hk⟩; refine ⟨_, rfl, ?_⟩; have n0_ := Aside0.mk (KeepBut.blk hk (g' := gb119) (o := .cells #[.string (⟨#[]⟩ : ByteArray), .string (⟨#[]⟩ : ByteArray)] 46 (0, 0)) (by (with_reducible repeat (first | refine blk_drewN ?_ _ | refine blk_drew ?_ | refine blk_alloc ?_ _)); exact BK119.out) NB119_0.out (by simp)); have n1_ := Aside0.mk (KeepBut.trans (by repeat (first | (with_reducible first | exact HK.out | apply KeepBut.set_ | apply keep_drewN | apply keep_drew | apply keep_alloc | refine keep_far ?_ GW119.out _) | exact HK.out)) hk (.inl rfl)); have n2_ := Aside0.mk (hb); have n3_ := Aside0.mk (hi); clear BK119; clear HK; clear HB; clear HI0; have BK119 := n0_; have HK := n1_; have HB := n2_; have HI0 := n3_; clear n0_ n1_ n2_ n3_; (try clear hb); (try clear hb2); (try clear hk); (try clear hi)) | ((with_reducible refine gate_dst (N := 5) rfl ?_); refine box_event ?hg (N := 5) ?hd (cs := #[.string (⟨#[]⟩ : ByteArray), .string (⟨#[]⟩ : ByteArray)]) (t := 46) ?hr ?_; (case hd => rfl); (case hg => rfl); (case hr => first | (go_simp; done) | (go_simp; rfl)); intro gb134 hg w21 hbox hb; have n0_ := Aside0.mk (blk_below (g := gb119) (o := .cells #[.string (⟨#[]⟩ : ByteArray), .string (⟨#[]⟩ : ByteArray)] 46 (0, 0)) (by (with_reducible repeat (first | refine blk_drewN ?_ _ | refine blk_drew ?_ | refine blk_alloc ?_ _)); exact BK119.out) hb); have n1_ := Aside0.mk (IsS52.below (by repeat (first | (with_reducible first | exact HI0.out | apply IsS52.alloc | apply IsS52.drewN | apply IsS52.drew | apply IsS52.set_0 | apply IsS52.set_1 | apply IsS52.set_2 | apply IsS52.set_3 | refine IsS52.far ?_ NB0_119.out _) | exact HI0.out)) hb); have n2_ := Aside0.mk (KeepBut.trans (by repeat (first | (with_reducible first | exact HK.out | apply KeepBut.set_ | apply keep_drewN | apply keep_drew | apply keep_alloc | refine keep_far ?_ GW119.out _) | exact HK.out)) (KeepBut.of_below hb g none) (.inl rfl)); have n3_ := Aside0.mk (below_step (by repeat (first | (with_reducible first | exact HB.out | apply below_alloc | apply pw_below_drewN | apply below_drew1 | refine below_set ?_ (IsS52.ge HI0.out) | refine below_set ?_ GE119.out) | exact HB.out)) hb); have n4_ := Aside0.mk (hbox); have n5_ := Aside0.mk ((by rw [hg]; exact (keep_size (w := w) (g := g) (row := none) (by repeat (first | (with_reducible first | exact HK.out | apply KeepBut.set_ | apply keep_drewN | apply keep_drew | apply keep_alloc | refine keep_far ?_ GW119.out _) | exact HK.out))) : w.heap.size ≤ gb134)); have n6_ := Aside0.mk ((Nat.le_trans HW0.out (by rw [hg]; exact (keep_size (w := w) (g := g) (row := none) (by repeat (first | (with_reducible first | exact HK.out | apply KeepBut.set_ | apply keep_drewN | apply keep_drew | apply keep_alloc | refine keep_far ?_ GW119.out _) | exact HK.out))) : w.heap.size ≤ gb134) : w0.heap.size ≤ gb134)); have n7_ := Aside0.mk ((by rw [hg]; exact Nat.ne_of_lt (blk_lt (g := gb119) (o := .cells #[.string (⟨#[]⟩ : ByteArray), .string (⟨#[]⟩ : ByteArray)] 46 (0, 0)) (by (with_reducible repeat (first | refine blk_drewN ?_ _ | refine blk_drew ?_ | refine blk_alloc ?_ _)); exact BK119.out)) : gb119 ≠ gb134)); have n8_ := Aside0.mk ((by rw [hg]; exact Nat.ne_of_gt (blk_lt (g := gb119) (o := .cells #[.string (⟨#[]⟩ : ByteArray), .string (⟨#[]⟩ : ByteArray)] 46 (0, 0)) (by (with_reducible repeat (first | refine blk_drewN ?_ _ | refine blk_drew ?_ | refine blk_alloc ?_ _)); exact BK119.out)) : gb134 ≠ gb119)); have n9_ := Aside0.mk ((by rw [hg]; exact Nat.ne_of_lt (IsS52.lt (show IsS52 w0 _ g t130 t131 t132 t133 from by repeat (first | (with_reducible first | exact HI0.out | apply IsS52.alloc | apply IsS52.drewN | apply IsS52.drew | apply IsS52.set_0 | apply IsS52.set_1 | apply IsS52.set_2 | apply IsS52.set_3 | refine IsS52.far ?_ NB0_119.out _) | exact HI0.out))) : g ≠ gb134)); have n10_ := Aside0.mk ((by rw [hg]; exact Nat.ne_of_gt (IsS52.lt (show IsS52 w0 _ g t130 t131 t132 t133 from by repeat (first | (with_reducible first | exact HI0.out | apply IsS52.alloc | apply IsS52.drewN | apply IsS52.drew | apply IsS52.set_0 | apply IsS52.set_1 | apply IsS52.set_2 | apply IsS52.set_3 | refine IsS52.far ?_ NB0_119.out _) | exact HI0.out))) : gb134 ≠ g)); clear BK119; clear HI0; clear HK; clear HB; have BK119 := n0_; have HI0 := n1_; have HK := n2_; have HB := n3_; have BK134 := n4_; have GW134 := n5_; have GE134 := n6_; have NB119_134 := n7_; have NB134_119 := n8_; have NB0_134 := n9_; have NB134_0 := n10_; clear n0_ n1_ n2_ n3_ n4_ n5_ n6_ n7_ n8_ n9_ n10_; clear hb hbox hg; have hnb22 := NB134_119.out; have hnc22 := NB119_134.out; have hnb23 := NB134_0.out; have hnc23 := NB0_134.out; have hcz24_0 : w21.cell? ⟨gb134, 0, none⟩ = some (.string (⟨#[]⟩ : ByteArray)) := (blk_cell BK134.out 0).trans rfl; have hcz24_1 : w21.cell? ⟨gb134, 1, none⟩ = some (.string (⟨#[]⟩ : ByteArray)) := (blk_cell BK134.out 1).trans rfl; have hfz24_0 := blk_frozen BK134.out 0; have hfz24_1 := blk_frozen BK134.out 1; obtain ⟨HGz25, hgz25⟩ := HI0.out; have hcz25_0 := cellS52_0 HGz25; have hcz25_1 := cellS52_1 HGz25; have hcz25_2 := cellS52_2 HGz25; have hcz25_3 := cellS52_3 HGz25; have hfz25_0 := blk_frozen HGz25 0; have hfz25_1 := blk_frozen HGz25 1; have hfz25_2 := blk_frozen HGz25 2; have hfz25_3 := blk_frozen HGz25 3; clear HGz25 hgz25) | ((with_reducible refine gate_callee (f := 31) rfl ?_); refine goesL_ (some 26) rfl rfl Tryd.func31 (by kernel_rfl) rfl #[.string t130, .string (⟨#[91]⟩ : ByteArray)] rfl (by (try simp only [List.map_toArray, List.map_cons, List.map_nil]); first | done | rfl | (simp only [List.length_drop, List.length_take]; rfl)) ?_; (with_reducible refine (strings_HasPrefix.calls t130 (⟨#[91]⟩ : ByteArray) true _ A14.out).mono ?_); rintro e w' ⟨rfl, ⟨nd, rfl⟩⟩; refine ⟨_, rfl, ?_⟩) | ((with_reducible refine gate_callee (f := 33) rfl ?_); refine goesL_ (some 28) rfl rfl Tryd.func33 (by kernel_rfl) rfl #[.pointer (some ⟨g, 0, none⟩), .string (⟨#[91]⟩ : ByteArray)] rfl (by (try simp only [List.map_toArray, List.map_cons, List.map_nil]); first | done | rfl | (simp only [List.length_drop, List.length_take]; rfl)) ?_; (with_reducible refine (path_reader_sign.calls g t130 t131 t132 t133 (⟨#[91]⟩ : ByteArray) t136 t137 t138 t139 w0 _ ?side1 ?side2 A16.out).mono ?_); (case side1 => repeat (first | (with_reducible first | exact HI0.out | apply IsS52.alloc | apply IsS52.drewN | apply IsS52.drew | apply IsS52.set_0 | apply IsS52.set_1 | apply IsS52.set_2 | apply IsS52.set_3 | refine IsS52.far ?_ NB0_119.out _ | refine IsS52.far ?_ NB0_134.out _) | exact HI0.out)); (case side2 => repeat (first | (with_reducible first | exact HB.out | apply below_alloc | apply pw_below_drewN | apply below_drew1 | refine below_set ?_ (IsS52.ge HI0.out) | refine below_set ?_ GE119.out | refine below_set ?_ GE134.out) | exact HB.out)); rintro e w26 ⟨rfl, hi, hb, hk⟩; refine ⟨_, rfl, ?_⟩; have n0_ := Aside0.mk (KeepBut.blk hk (g' := gb119) (o := .cells #[.string (⟨#[]⟩ : ByteArray), .string (⟨#[]⟩ : ByteArray)] 46 (0, 0)) (by (with_reducible repeat (first | refine blk_drewN ?_ _ | refine blk_drew ?_ | refine blk_alloc ?_ _)); refine blk_far ?_ NB119_134.out _; (with_reducible repeat (first | refine blk_drewN ?_ _ | refine blk_drew ?_ | refine blk_alloc ?_ _)); refine blk_far ?_ NB119_134.out _; (with_reducible repeat (first | refine blk_drewN ?_ _ | refine blk_drew ?_ | refine blk_alloc ?_ _)); exact BK119.out) NB119_0.out (by simp)); have n1_ := Aside0.mk (KeepBut.blk hk (g' := gb134) (o := .cells #[.string t129, .string (⟨#[]⟩ : ByteArray)] 46 (0, 0)) (by (with_reducible repeat (first | refine blk_drewN ?_ _ | refine blk_drew ?_ | refine blk_alloc ?_ _)); refine blk_put (cs := #[.string t129, .string (⟨#[]⟩ : ByteArray)]) ?_ 1 _ rfl; (with_reducible repeat (first | refine blk_drewN ?_ _ | refine blk_drew ?_ | refine blk_alloc ?_ _)); refine blk_put (cs := #[.string (⟨#[]⟩ : ByteArray), .string (⟨#[]⟩ : ByteArray)]) ?_ 0 _ rfl; (with_reducible repeat (first | refine blk_drewN ?_ _ | refine blk_drew ?_ | refine blk_alloc ?_ _)); exact BK134.out) NB134_0.out (by simp)); have n2_ := Aside0.mk (KeepBut.trans (by repeat (first | (with_reducible first | exact HK.out | apply KeepBut.set_ | apply keep_drewN | apply keep_drew | apply keep_alloc | refine keep_far ?_ GW119.out _ | refine keep_far ?_ GW134.out _) | exact HK.out)) hk (.inl rfl)); have n3_ := Aside0.mk (hb); have n4_ := Aside0.mk (hi); clear BK119; clear BK134; clear HK; clear HB; clear HI0; have BK119 := n0_; have BK134 := n1_; have HK := n2_; have HB := n3_; have HI0 := n4_; clear n0_ n1_ n2_ n3_ n4_; (try clear hb); (try clear hb2); (try clear hk); (try clear hi)) | ((with_reducible refine gate_callee (f := 34) rfl ?_); refine goesL_ (some 30) rfl rfl Tryd.func34 (by kernel_rfl) rfl #[.pointer (some ⟨g, 0, none⟩)] rfl (by (try simp only [List.map_toArray, List.map_cons, List.map_nil]); first | done | rfl | (simp only [List.length_drop, List.length_take]; rfl)) ?_; (with_reducible refine (path_reader_name.calls g t136 t137 t138 t139 t140 t141 t142 t143 t144 w0 _ ?side1 ?side2 A17.out).mono ?_); (case side1 => repeat (first | (with_reducible first | exact HI0.out | apply IsS52.alloc | apply IsS52.drewN | apply IsS52.drew | apply IsS52.set_0 | apply IsS52.set_1 | apply IsS52.set_2 | apply IsS52.set_3 | refine IsS52.far ?_ NB0_119.out _ | refine IsS52.far ?_ NB0_134.out _) | exact HI0.out)); (case side2 => repeat (first | (with_reducible first | exact HB.out | apply below_alloc | apply pw_below_drewN | apply below_drew1 | refine below_set ?_ (IsS52.ge HI0.out) | refine below_set ?_ GE119.out | refine below_set ?_ GE134.out) | exact HB.out)); rintro e w27 ⟨rfl, hi, hb, hk⟩; refine ⟨_, rfl, ?_⟩; have n0_ := Aside0.mk (KeepBut.blk hk (g' := gb119) (o := .cells #[.string (⟨#[]⟩ : ByteArray), .string (⟨#[]⟩ : ByteArray)] 46 (0, 0)) (by (with_reducible repeat (first | refine blk_drewN ?_ _ | refine blk_drew ?_ | refine blk_alloc ?_ _)); exact BK119.out) NB119_0.out (by simp)); have n1_ := Aside0.mk (KeepBut.blk hk (g' := gb134) (o := .cells #[.string t129, .string (⟨#[]⟩ : ByteArray)] 46 (0, 0)) (by (with_reducible repeat (first | refine blk_drewN ?_ _ | refine blk_drew ?_ | refine blk_alloc ?_ _)); exact BK134.out) NB134_0.out (by simp)); have n2_ := Aside0.mk (KeepBut.trans (by repeat (first | (with_reducible first | exact HK.out | apply KeepBut.set_ | apply keep_drewN | apply keep_drew | apply keep_alloc | refine keep_far ?_ GW119.out _ | refine keep_far ?_ GW134.out _) | exact HK.out)) hk (.inl rfl)); have n3_ := Aside0.mk (hb); have n4_ := Aside0.mk (hi); clear BK119; clear BK134; clear HK; clear HB; clear HI0; have BK119 := n0_; have BK134 := n1_; have HK := n2_; have HB := n3_; have HI0 := n4_; clear n0_ n1_ n2_ n3_ n4_; (try clear hb); (try clear hb2); (try clear hk); (try clear hi); have hcz28_0 : w27.cell? ⟨gb134, 0, none⟩ = some (.string t129) := (blk_cell BK134.out 0).trans rfl; have hcz28_1 : w27.cell? ⟨gb134, 1, none⟩ = some (.string (⟨#[]⟩ : ByteArray)) := (blk_cell BK134.out 1).trans rfl; have hfz28_0 := blk_frozen BK134.out 0; have hfz28_1 := blk_frozen BK134.out 1) | ((with_reducible refine gate_callee (f := 33) rfl ?_); refine goesL_ (some 33) rfl rfl Tryd.func33 (by kernel_rfl) rfl #[.pointer (some ⟨g, 0, none⟩), .string (⟨#[93]⟩ : ByteArray)] rfl (by (try simp only [List.map_toArray, List.map_cons, List.map_nil]); first | done | rfl | (simp only [List.length_drop, List.length_take]; rfl)) ?_; (with_reducible refine (path_reader_sign.calls g t141 t142 t143 t144 (⟨#[93]⟩ : ByteArray) t145 t146 t147 t148 w0 _ ?side1 ?side2 A18.out).mono ?_); (case side1 => repeat (first | (with_reducible first | exact HI0.out | apply IsS52.alloc | apply IsS52.drewN | apply IsS52.drew | apply IsS52.set_0 | apply IsS52.set_1 | apply IsS52.set_2 | apply IsS52.set_3 | refine IsS52.far ?_ NB0_119.out _ | refine IsS52.far ?_ NB0_134.out _) | exact HI0.out)); (case side2 => repeat (first | (with_reducible first | exact HB.out | apply below_alloc | apply pw_below_drewN | apply below_drew1 | refine below_set ?_ (IsS52.ge HI0.out) | refine below_set ?_ GE119.out | refine below_set ?_ GE134.out) | exact HB.out)); rintro e w29 ⟨rfl, hi, hb, hk⟩; refine ⟨_, rfl, ?_⟩; have n0_ := Aside0.mk (KeepBut.blk hk (g' := gb119) (o := .cells #[.string (⟨#[]⟩ : ByteArray), .string (⟨#[]⟩ : ByteArray)] 46 (0, 0)) (by (with_reducible repeat (first | refine blk_drewN ?_ _ | refine blk_drew ?_ | refine blk_alloc ?_ _)); refine blk_far ?_ NB119_134.out _; (with_reducible repeat (first | refine blk_drewN ?_ _ | refine blk_drew ?_ | refine blk_alloc ?_ _)); exact BK119.out) NB119_0.out (by simp)); have n1_ := Aside0.mk (KeepBut.blk hk (g' := gb134) (o := .cells #[.string t129, .string t140] 46 (0, 0)) (by (with_reducible repeat (first | refine blk_drewN ?_ _ | refine blk_drew ?_ | refine blk_alloc ?_ _)); refine blk_put (cs := #[.string t129, .string (⟨#[]⟩ : ByteArray)]) ?_ 1 _ rfl; (with_reducible repeat (first | refine blk_drewN ?_ _ | refine blk_drew ?_ | refine blk_alloc ?_ _)); exact BK134.out) NB134_0.out (by simp)); have n2_ := Aside0.mk (KeepBut.trans (by repeat (first | (with_reducible first | exact HK.out | apply KeepBut.set_ | apply keep_drewN | apply keep_drew | apply keep_alloc | refine keep_far ?_ GW119.out _ | refine keep_far ?_ GW134.out _) | exact HK.out)) hk (.inl rfl)); have n3_ := Aside0.mk (hb); have n4_ := Aside0.mk (hi); clear BK119; clear BK134; clear HK; clear HB; clear HI0; have BK119 := n0_; have BK134 := n1_; have HK := n2_; have HB := n3_; have HI0 := n4_; clear n0_ n1_ n2_ n3_ n4_; (try clear hb); (try clear hb2); (try clear hk); (try clear hi); have hcz30_0 : w29.cell? ⟨gb134, 0, none⟩ = some (.string t129) := (blk_cell BK134.out 0).trans rfl; have hcz30_1 : w29.cell? ⟨gb134, 1, none⟩ = some (.string t140) := (blk_cell BK134.out 1).trans rfl; have hfz30_0 := blk_frozen BK134.out 0; have hfz30_1 := blk_frozen BK134.out 1; have hnb31 := NB119_0.out; have hnc31 := NB0_119.out; have hcz32_0 : w29.cell? ⟨gb119, 0, none⟩ = some (.string (⟨#[]⟩ : ByteArray)) := (blk_cell BK119.out 0).trans rfl; have hcz32_1 : w29.cell? ⟨gb119, 1, none⟩ = some (.string (⟨#[]⟩ : ByteArray)) := (blk_cell BK119.out 1).trans rfl; have hfz32_0 := blk_frozen BK119.out 0; have hfz32_1 := blk_frozen BK119.out 1))
            refine bodyPost_ret (results_cell_row rfl _ _ gb119 46 #[.string t129, .string t140] (0, 0) _ rfl (by (with_reducible repeat (first | refine blk_drewN ?_ _ | refine blk_drew ?_ | refine blk_alloc ?_ _)); refine blk_put (cs := #[.string t129, .string (⟨#[]⟩ : ByteArray)]) ?_ 1 _ rfl; (with_reducible repeat (first | refine blk_drewN ?_ _ | refine blk_drew ?_ | refine blk_alloc ?_ _)); refine blk_put (cs := #[.string (⟨#[]⟩ : ByteArray), .string (⟨#[]⟩ : ByteArray)]) ?_ 0 _ rfl; (with_reducible repeat (first | refine blk_drewN ?_ _ | refine blk_drew ?_ | refine blk_alloc ?_ _)); exact BK119.out) Tryd.underlying46 rfl (by kernel_rfl)) rfl ?_
            exact ⟨by first | rfl | (simp [errW_none, errW_some] <;> rfl) | (simp [*, errW_none, errW_some] <;> rfl), by repeat (first | (with_reducible first | exact HI0.out | apply IsS52.alloc | apply IsS52.drewN | apply IsS52.drew | apply IsS52.set_0 | apply IsS52.set_1 | apply IsS52.set_2 | apply IsS52.set_3 | refine IsS52.far ?_ NB0_119.out _ | refine IsS52.far ?_ NB0_134.out _) | exact HI0.out), by repeat (first | (with_reducible first | exact HB.out | apply below_alloc | apply pw_below_drewN | apply below_drew1 | refine below_set ?_ (IsS52.ge HI0.out) | refine below_set ?_ GE119.out | refine below_set ?_ GE134.out) | exact HB.out), by repeat (first | (with_reducible first | exact HK.out | apply KeepBut.set_ | apply keep_drewN | apply keep_drew | apply keep_alloc | refine keep_far ?_ GW119.out _ | refine keep_far ?_ GW134.out _) | exact HK.out)⟩
          · replace c15 := Bool.eq_false_iff.mpr c15
            subst c15
            have H1 : (some (t129, (⟨#[]⟩ : ByteArray), t130, t131, t132, t133)) = some (r1, r2, r3, r4, r5, r6) := by rw [if_neg (show ¬ (false = true) by decide)] at H; exact H
            clear H
            have H := H1
            clear H1
            simp only [Option.some.injEq, Prod.mk.injEq] at H
            obtain ⟨rfl, rfl, rfl, rfl, rfl, rfl⟩ := H
            go_wp2_with (first | ((with_reducible refine gate_callee (f := 33) rfl ?_); refine goesL_ (some 18) rfl rfl Tryd.func33 (by kernel_rfl) rfl #[.pointer (some ⟨g, 0, none⟩), .string (⟨#[47]⟩ : ByteArray)] rfl (by (try simp only [List.map_toArray, List.map_cons, List.map_nil]); first | done | rfl | (simp only [List.length_drop, List.length_take]; rfl)) ?_; (with_reducible refine (path_reader_sign.calls g x1000_7 x1001_7 x1002_7 x1003_7 (⟨#[47]⟩ : ByteArray) t125 t126 t127 t128 w0 _ ?side1 ?side2 A12.out).mono ?_); (case side1 => repeat (first | (with_reducible first | exact HI0.out | apply IsS52.alloc | apply IsS52.drewN | apply IsS52.drew | apply IsS52.set_0 | apply IsS52.set_1 | apply IsS52.set_2 | apply IsS52.set_3 | refine IsS52.far ?_ NB0_119.out _) | exact HI0.out)); (case side2 => repeat (first | (with_reducible first | exact HB.out | apply below_alloc | apply pw_below_drewN | apply below_drew1 | refine below_set ?_ (IsS52.ge HI0.out) | refine below_set ?_ GE119.out) | exact HB.out)); rintro e w33 ⟨rfl, hi, hb, hk⟩; refine ⟨_, rfl, ?_⟩; have n0_ := Aside0.mk (KeepBut.blk hk (g' := gb119) (o := .cells #[.string (⟨#[]⟩ : ByteArray), .string (⟨#[]⟩ : ByteArray)] 46 (0, 0)) (by (with_reducible repeat (first | refine blk_drewN ?_ _ | refine blk_drew ?_ | refine blk_alloc ?_ _)); exact BK119.out) NB119_0.out (by simp)); have n1_ := Aside0.mk (KeepBut.trans (by repeat (first | (with_reducible first | exact HK.out | apply KeepBut.set_ | apply keep_drewN | apply keep_drew | apply keep_alloc | refine keep_far ?_ GW119.out _) | exact HK.out)) hk (.inl rfl)); have n2_ := Aside0.mk (hb); have n3_ := Aside0.mk (hi); clear BK119; clear HK; clear HB; clear HI0; have BK119 := n0_; have HK := n1_; have HB := n2_; have HI0 := n3_; clear n0_ n1_ n2_ n3_; (try clear hb); (try clear hb2); (try clear hk); (try clear hi)) | ((with_reducible refine gate_callee (f := 34) rfl ?_); refine goesL_ (some 20) rfl rfl Tryd.func34 (by kernel_rfl) rfl #[.pointer (some ⟨g, 0, none⟩)] rfl (by (try simp only [List.map_toArray, List.map_cons, List.map_nil]); first | done | rfl | (simp only [List.length_drop, List.length_take]; rfl)) ?_; (with_reducible refine (path_reader_name.calls g t125 t126 t127 t128 t129 t130 t131 t132 t133 w0 _ ?side1 ?side2 A13.out).mono ?_); (case side1 => repeat (first | (with_reducible first | exact HI0.out | apply IsS52.alloc | apply IsS52.drewN | apply IsS52.drew | apply IsS52.set_0 | apply IsS52.set_1 | apply IsS52.set_2 | apply IsS52.set_3 | refine IsS52.far ?_ NB0_119.out _) | exact HI0.out)); (case side2 => repeat (first | (with_reducible first | exact HB.out | apply below_alloc | apply pw_below_drewN | apply below_drew1 | refine below_set ?_ (IsS52.ge HI0.out) | refine below_set ?_ GE119.out) | exact HB.out)); rintro e w34 ⟨rfl, hi, hb, hk⟩; refine ⟨_, rfl, ?_⟩; have n0_ := Aside0.mk (KeepBut.blk hk (g' := gb119) (o := .cells #[.string (⟨#[]⟩ : ByteArray), .string (⟨#[]⟩ : ByteArray)] 46 (0, 0)) (by (with_reducible repeat (first | refine blk_drewN ?_ _ | refine blk_drew ?_ | refine blk_alloc ?_ _)); exact BK119.out) NB119_0.out (by simp)); have n1_ := Aside0.mk (KeepBut.trans (by repeat (first | (with_reducible first | exact HK.out | apply KeepBut.set_ | apply keep_drewN | apply keep_drew | apply keep_alloc | refine keep_far ?_ GW119.out _) | exact HK.out)) hk (.inl rfl)); have n2_ := Aside0.mk (hb); have n3_ := Aside0.mk (hi); clear BK119; clear HK; clear HB; clear HI0; have BK119 := n0_; have HK := n1_; have HB := n2_; have HI0 := n3_; clear n0_ n1_ n2_ n3_; (try clear hb); (try clear hb2); (try clear hk); (try clear hi)) | ((with_reducible refine gate_dst (N := 5) rfl ?_); refine box_event ?hg (N := 5) ?hd (cs := #[.string (⟨#[]⟩ : ByteArray), .string (⟨#[]⟩ : ByteArray)]) (t := 46) ?hr ?_; (case hd => rfl); (case hg => rfl); (case hr => first | (go_simp; done) | (go_simp; rfl)); intro gb134 hg w35 hbox hb; have n0_ := Aside0.mk (blk_below (g := gb119) (o := .cells #[.string (⟨#[]⟩ : ByteArray), .string (⟨#[]⟩ : ByteArray)] 46 (0, 0)) (by (with_reducible repeat (first | refine blk_drewN ?_ _ | refine blk_drew ?_ | refine blk_alloc ?_ _)); exact BK119.out) hb); have n1_ := Aside0.mk (IsS52.below (by repeat (first | (with_reducible first | exact HI0.out | apply IsS52.alloc | apply IsS52.drewN | apply IsS52.drew | apply IsS52.set_0 | apply IsS52.set_1 | apply IsS52.set_2 | apply IsS52.set_3 | refine IsS52.far ?_ NB0_119.out _) | exact HI0.out)) hb); have n2_ := Aside0.mk (KeepBut.trans (by repeat (first | (with_reducible first | exact HK.out | apply KeepBut.set_ | apply keep_drewN | apply keep_drew | apply keep_alloc | refine keep_far ?_ GW119.out _) | exact HK.out)) (KeepBut.of_below hb g none) (.inl rfl)); have n3_ := Aside0.mk (below_step (by repeat (first | (with_reducible first | exact HB.out | apply below_alloc | apply pw_below_drewN | apply below_drew1 | refine below_set ?_ (IsS52.ge HI0.out) | refine below_set ?_ GE119.out) | exact HB.out)) hb); have n4_ := Aside0.mk (hbox); have n5_ := Aside0.mk ((by rw [hg]; exact (keep_size (w := w) (g := g) (row := none) (by repeat (first | (with_reducible first | exact HK.out | apply KeepBut.set_ | apply keep_drewN | apply keep_drew | apply keep_alloc | refine keep_far ?_ GW119.out _) | exact HK.out))) : w.heap.size ≤ gb134)); have n6_ := Aside0.mk ((Nat.le_trans HW0.out (by rw [hg]; exact (keep_size (w := w) (g := g) (row := none) (by repeat (first | (with_reducible first | exact HK.out | apply KeepBut.set_ | apply keep_drewN | apply keep_drew | apply keep_alloc | refine keep_far ?_ GW119.out _) | exact HK.out))) : w.heap.size ≤ gb134) : w0.heap.size ≤ gb134)); have n7_ := Aside0.mk ((by rw [hg]; exact Nat.ne_of_lt (blk_lt (g := gb119) (o := .cells #[.string (⟨#[]⟩ : ByteArray), .string (⟨#[]⟩ : ByteArray)] 46 (0, 0)) (by (with_reducible repeat (first | refine blk_drewN ?_ _ | refine blk_drew ?_ | refine blk_alloc ?_ _)); exact BK119.out)) : gb119 ≠ gb134)); have n8_ := Aside0.mk ((by rw [hg]; exact Nat.ne_of_gt (blk_lt (g := gb119) (o := .cells #[.string (⟨#[]⟩ : ByteArray), .string (⟨#[]⟩ : ByteArray)] 46 (0, 0)) (by (with_reducible repeat (first | refine blk_drewN ?_ _ | refine blk_drew ?_ | refine blk_alloc ?_ _)); exact BK119.out)) : gb134 ≠ gb119)); have n9_ := Aside0.mk ((by rw [hg]; exact Nat.ne_of_lt (IsS52.lt (show IsS52 w0 _ g t130 t131 t132 t133 from by repeat (first | (with_reducible first | exact HI0.out | apply IsS52.alloc | apply IsS52.drewN | apply IsS52.drew | apply IsS52.set_0 | apply IsS52.set_1 | apply IsS52.set_2 | apply IsS52.set_3 | refine IsS52.far ?_ NB0_119.out _) | exact HI0.out))) : g ≠ gb134)); have n10_ := Aside0.mk ((by rw [hg]; exact Nat.ne_of_gt (IsS52.lt (show IsS52 w0 _ g t130 t131 t132 t133 from by repeat (first | (with_reducible first | exact HI0.out | apply IsS52.alloc | apply IsS52.drewN | apply IsS52.drew | apply IsS52.set_0 | apply IsS52.set_1 | apply IsS52.set_2 | apply IsS52.set_3 | refine IsS52.far ?_ NB0_119.out _) | exact HI0.out))) : gb134 ≠ g)); clear BK119; clear HI0; clear HK; clear HB; have BK119 := n0_; have HI0 := n1_; have HK := n2_; have HB := n3_; have BK134 := n4_; have GW134 := n5_; have GE134 := n6_; have NB119_134 := n7_; have NB134_119 := n8_; have NB0_134 := n9_; have NB134_0 := n10_; clear n0_ n1_ n2_ n3_ n4_ n5_ n6_ n7_ n8_ n9_ n10_; clear hb hbox hg; have hnb36 := NB134_119.out; have hnc36 := NB119_134.out; have hnb37 := NB134_0.out; have hnc37 := NB0_134.out; have hcz38_0 : w35.cell? ⟨gb134, 0, none⟩ = some (.string (⟨#[]⟩ : ByteArray)) := (blk_cell BK134.out 0).trans rfl; have hcz38_1 : w35.cell? ⟨gb134, 1, none⟩ = some (.string (⟨#[]⟩ : ByteArray)) := (blk_cell BK134.out 1).trans rfl; have hfz38_0 := blk_frozen BK134.out 0; have hfz38_1 := blk_frozen BK134.out 1; obtain ⟨HGz39, hgz39⟩ := HI0.out; have hcz39_0 := cellS52_0 HGz39; have hcz39_1 := cellS52_1 HGz39; have hcz39_2 := cellS52_2 HGz39; have hcz39_3 := cellS52_3 HGz39; have hfz39_0 := blk_frozen HGz39 0; have hfz39_1 := blk_frozen HGz39 1; have hfz39_2 := blk_frozen HGz39 2; have hfz39_3 := blk_frozen HGz39 3; clear HGz39 hgz39) | ((with_reducible refine gate_callee (f := 31) rfl ?_); refine goesL_ (some 26) rfl rfl Tryd.func31 (by kernel_rfl) rfl #[.string t130, .string (⟨#[91]⟩ : ByteArray)] rfl (by (try simp only [List.map_toArray, List.map_cons, List.map_nil]); first | done | rfl | (simp only [List.length_drop, List.length_take]; rfl)) ?_; (with_reducible refine (strings_HasPrefix.calls t130 (⟨#[91]⟩ : ByteArray) false _ A14.out).mono ?_); rintro e w' ⟨rfl, ⟨nd, rfl⟩⟩; refine ⟨_, rfl, ?_⟩; have hnb40 := NB119_0.out; have hnc40 := NB0_119.out; have hcz41_0 : w35.cell? ⟨gb119, 0, none⟩ = some (.string (⟨#[]⟩ : ByteArray)) := (blk_cell BK119.out 0).trans rfl; have hcz41_1 : w35.cell? ⟨gb119, 1, none⟩ = some (.string (⟨#[]⟩ : ByteArray)) := (blk_cell BK119.out 1).trans rfl; have hfz41_0 := blk_frozen BK119.out 0; have hfz41_1 := blk_frozen BK119.out 1))
            refine bodyPost_ret (results_cell_row rfl _ _ gb119 46 #[.string t129, .string (⟨#[]⟩ : ByteArray)] (0, 0) _ rfl (by (with_reducible repeat (first | refine blk_drewN ?_ _ | refine blk_drew ?_ | refine blk_alloc ?_ _)); refine blk_put (cs := #[.string t129, .string (⟨#[]⟩ : ByteArray)]) ?_ 1 _ rfl; (with_reducible repeat (first | refine blk_drewN ?_ _ | refine blk_drew ?_ | refine blk_alloc ?_ _)); refine blk_put (cs := #[.string (⟨#[]⟩ : ByteArray), .string (⟨#[]⟩ : ByteArray)]) ?_ 0 _ rfl; (with_reducible repeat (first | refine blk_drewN ?_ _ | refine blk_drew ?_ | refine blk_alloc ?_ _)); refine blk_far ?_ NB119_134.out _; (with_reducible repeat (first | refine blk_drewN ?_ _ | refine blk_drew ?_ | refine blk_alloc ?_ _)); refine blk_far ?_ NB119_134.out _; (with_reducible repeat (first | refine blk_drewN ?_ _ | refine blk_drew ?_ | refine blk_alloc ?_ _)); exact BK119.out) Tryd.underlying46 rfl (by kernel_rfl)) rfl ?_
            exact ⟨by first | rfl | (simp [errW_none, errW_some] <;> rfl) | (simp [*, errW_none, errW_some] <;> rfl), by repeat (first | (with_reducible first | exact HI0.out | apply IsS52.alloc | apply IsS52.drewN | apply IsS52.drew | apply IsS52.set_0 | apply IsS52.set_1 | apply IsS52.set_2 | apply IsS52.set_3 | refine IsS52.far ?_ NB0_119.out _ | refine IsS52.far ?_ NB0_134.out _) | exact HI0.out), by repeat (first | (with_reducible first | exact HB.out | apply below_alloc | apply pw_below_drewN | apply below_drew1 | refine below_set ?_ (IsS52.ge HI0.out) | refine below_set ?_ GE119.out | refine below_set ?_ GE134.out) | exact HB.out), by repeat (first | (with_reducible first | exact HK.out | apply KeepBut.set_ | apply keep_drewN | apply keep_drew | apply keep_alloc | refine keep_far ?_ GW119.out _ | refine keep_far ?_ GW134.out _) | exact HK.out)⟩

/-! ### path_Parse: function 8 -/
def path_Parse.l0 : Nat → List (S46) → ByteArray → Int → Int → Int → Option ((List (S46)) × Int × Int)
  | 0, _, _, _, _, _ => none
  | k + 1, x6, x150000, x150001, x150002, x150003 => if x150000.toList = ([] : List UInt8) then (if x150002 = 0 then (some (x6, 0, 0)) else (some (([] : List (S46)), x150002, x150003))) else (if x150002 = 0 then ((path_reader_step.f k x150000 x150001 x150002 x150003 (x6.length : Int)).bind fun bt159 => (if x6.length < 4398046511104 then (path_Parse.l0 k (x6 ++ [(⟨bt159.1, bt159.2.1⟩ : S46)]) bt159.2.2.1 bt159.2.2.2.1 bt159.2.2.2.2.1 bt159.2.2.2.2.2) else (none))) else (some (([] : List (S46)), x150002, x150003)))
def path_Parse.f (k : Nat) (a0 : ByteArray) : Option ((List (S46)) × Int × Int) := if a0.toList = ([47] : List UInt8) then (some (([] : List (S46)), 0, 0)) else ((path_reader_step.f k a0 (a0.size : Int) 0 0 0).bind fun bt150 => (path_Parse.l0 k (([(⟨bt150.1, bt150.2.1⟩ : S46)] : List (S46))) bt150.2.2.1 bt150.2.2.2.1 bt150.2.2.2.2.1 bt150.2.2.2.2.2))
theorem path_Parse.mono_l : ∀ k, (∀ y0 y1 y2 y3 y4, LeO (path_Parse.l0 k y0 y1 y2 y3 y4) (path_Parse.l0 (k + 1) y0 y1 y2 y3 y4))
  | 0 => fun _ _ _ _ _ r h => by simp [path_Parse.l0] at h
  | k + 1 => by
    have ih0 := path_Parse.mono_l k
    · intro y0 y1 y2 y3 y4
      unfold path_Parse.l0
      repeat' first
      | (with_reducible exact ih0 _ _ _ _ _)
      | (with_reducible exact path_reader_step.mono _ _ _ _ _ _)
      | (with_reducible exact LeO.refl _)
      | (with_reducible exact LeO.none _)
      | (with_reducible refine LeO.ite ?_ ?_)
      | (with_reducible refine LeO.bind ?_ (fun _ => ?_))
      | exact ih0 _ _ _ _ _
      | exact path_reader_step.mono _ _ _ _ _ _
      | exact LeO.none _
      | refine LeO.ite ?_ ?_
      | refine LeO.bind ?_ (fun _ => ?_)
theorem path_Parse.mono : ∀ a0 k, LeO (path_Parse.f k a0) (path_Parse.f (k + 1) a0) := by
  intro a0 k
  have ih0 := path_Parse.mono_l k
  unfold path_Parse.f
  repeat' first
      | (with_reducible exact ih0 _ _ _ _ _)
      | (with_reducible exact path_reader_step.mono _ _ _ _ _ _)
      | (with_reducible exact LeO.refl _)
      | (with_reducible exact LeO.none _)
      | (with_reducible refine LeO.ite ?_ ?_)
      | (with_reducible refine LeO.bind ?_ (fun _ => ?_))
      | exact ih0 _ _ _ _ _
      | exact path_reader_step.mono _ _ _ _ _ _
      | exact LeO.none _
      | refine LeO.ite ?_ ?_
      | refine LeO.bind ?_ (fun _ => ?_)
set_option maxHeartbeats 8000000 in
set_option maxRecDepth 100000 in
theorem path_Parse.calls (k : Nat) (a0 : ByteArray) (r1 : List (S46)) (r2 : Int) (r3 : Int) (w : World) (h : path_Parse.f k a0 = some (r1, r2, r3)) :
    Calls Tryd.prog 8 #[.string a0] w fun e w' => ∃ v0_ : Value, e = .returned (.tuple #[v0_, .int .i64 r2, .int .i64 r3]) ∧ Kd.R k46 46 w' w.heap.size (fun _ => True) v0_ r1 ∧ Below w.heap.size w w' := by
  have hu52 := Tryd.underlying52
  have HB := Aside0.mk (Below.refl w.heap.size w)
  have H : (if a0.toList = ([47] : List UInt8) then (some (([] : List (S46)), 0, 0)) else ((path_reader_step.f k a0 (a0.size : Int) 0 0 0).bind fun bt150 => (path_Parse.l0 k (([(⟨bt150.1, bt150.2.1⟩ : S46)] : List (S46))) bt150.2.2.1 bt150.2.2.2.1 bt150.2.2.2.2.1 bt150.2.2.2.2.2))) = some (r1, r2, r3) := h
  clear h
  by_cases c2 : a0.toList = ([47] : List UInt8)
  · rw [if_pos c2] at H
    have c2b0 : (a0.toList == ([47] : List UInt8)) = true := beq_iff_eq.mpr c2
    have c2b1 : (a0.toList != ([47] : List UInt8)) = false := bne_eq_false_iff_eq.mpr c2
    clear c2
    simp only [Option.some.injEq, Prod.mk.injEq] at H
    obtain ⟨rfl, rfl, rfl⟩ := H
    go_enter Tryd.func8, Tryd.ntmps8
    go_wp2
    repeat (go_quiet (fail); try go_wp2)
    go_ret3
    exact ⟨_, by first | rfl | (simp [errW_none, errW_some] <;> rfl) | (simp [*, errW_none, errW_some] <;> rfl), by first | exact Kd.R_nil _ _ _ _ _ | exact Kd.R_nil _ _ _ 0 _ | exact Kd.N_nil _ _ _ _ _ | exact Kd.N_nil _ _ _ 0 _ | exact Kd.V_nil _ _ _ _ _ | exact Kd.Q_nil _ _ _ _ _ | exact Kd.S_nil _ _ _ _ _, by repeat (first | (with_reducible first | exact HB.out | apply below_alloc | apply pw_below_drewN | apply below_drew1) | exact HB.out)⟩
  · rw [if_neg c2] at H
    have c2b0 : (a0.toList == ([47] : List UInt8)) = false := beq_eq_false_iff_ne.mpr c2
    have c2b1 : (a0.toList != ([47] : List UInt8)) = true := bne_iff_ne.mpr c2
    replace H := Option.bind_eq_some_iff.mp H
    obtain ⟨⟨t150, t151, t152, t153, t154, t155⟩, A30, H⟩ := H
    replace H : (path_Parse.l0 k (([(⟨t150, t151⟩ : S46)] : List (S46))) t152 t153 t154 t155) = some (r1, r2, r3) := H
    have A3 := Aside0.mk A30
    clear A30
    obtain ⟨y156, hy156⟩ : ∃ y_ : List (S46), y_ = (([(⟨t150, t151⟩ : S46)] : List (S46))) := ⟨_, rfl⟩
    replace H : (path_Parse.l0 k y156 t152 t153 t154 t155) = some (r1, r2, r3) := by first | (rw [hy156]; with_reducible exact H) | (have H2_ := (Option.bind_some _ _).symm.trans H; rw [hy156]; with_reducible exact H2_) | (have H2_ := (Option.bind_some _ _).symm.trans H; with_reducible exact H2_) | with_reducible exact H | (rw [hy156]; exact H) | exact H
    have Ny156 := Aside0.mk hy156
    clear hy156
    have H' := Aside0.mk H
    clear H
    go_enter Tryd.func8, Tryd.ntmps8
    go_wp2_with (first | ((with_reducible refine gate_dst (N := 13) rfl ?_); refine box_event ?hg (N := 13) ?hd (cs := #[.string a0, .int .i64 (a0.size : Int), .int .i64 0, .int .i64 0]) (t := 52) ?hr ?_; (case hd => rfl); (case hg => rfl); (case hr => first | (go_simp; done) | (go_simp; rfl)); intro gb149 hg w4 hbox hb; have n0_ := Aside0.mk (below_step (by repeat (first | (with_reducible first | exact HB.out | apply below_alloc | apply pw_below_drewN | apply below_drew1) | exact HB.out)) hb); have n1_ := Aside0.mk ((⟨hbox, (by rw [hg]; exact (below_size (by repeat (first | (with_reducible first | exact HB.out | apply below_alloc | apply pw_below_drewN | apply below_drew1) | exact HB.out))) : w.heap.size ≤ gb149)⟩ : IsS52 w w4 gb149 a0 (a0.size : Int) 0 0)); clear HB; have HB := n0_; have HI149 := n1_; clear n0_ n1_; clear hb hbox hg) | (go_at_call 20; (with_reducible refine (path_reader_step.calls k gb149 a0 (a0.size : Int) 0 0 0 t150 t151 t152 t153 t154 t155 w _ ?side1 ?side2 A3.out).mono ?_); (case side1 => repeat (first | (with_reducible first | exact HI149.out | apply IsS52.alloc | apply IsS52.drewN | apply IsS52.drew | apply IsS52.set_0 | apply IsS52.set_1 | apply IsS52.set_2 | apply IsS52.set_3) | exact HI149.out)); (case side2 => repeat (first | (with_reducible first | exact HB.out | apply below_alloc | apply pw_below_drewN | apply below_drew1 | refine below_set ?_ (IsS52.ge HI149.out)) | exact HB.out)); rintro e w5 ⟨rfl, hi, hb, hk⟩; have n0_ := Aside0.mk (hb); have n1_ := Aside0.mk (hi); clear HB; clear HI149; have HB := n0_; have HI149 := n1_; clear n0_ n1_; (try clear hb); (try clear hb2); (try clear hk); (try clear hi)) | ((with_reducible refine gate_dst (N := 16) rfl ?_); refine Kd.R_lit k46 _ 46 ?hg (N := 16) ?hd (xs := ([(⟨t150, t151⟩ : S46)] : List (S46))) (inner := [.string t150, .string t151]) (ok := fun _ => True) (okp := fun _ => True) ?hr ?hp (fun _ hk => hk) trivial (Below.refl _ _) (Nat.le_refl _) (by simp) ?_; (case hd => rfl); (case hg => rfl); (case hr => first | (go_simp; done) | (go_simp; rfl)); (case hp => exact (Reps.c2 (show Kd.M k46 _ _ _ (⟨t150, t151⟩ : S46) [.string t150, .string t151] from (k46_mkM _ _ _ (⟨t150, t151⟩ : S46) )) (Reps.none _ _))); intro v157 w6 ho7 hb hg_ hnew_; clear hg_ hnew_; (first | rw [← Ny156.out] at ho7 | (simp only [Int.reduceToNat] at ho7; rw [← Ny156.out] at ho7)); have n0_ := Aside0.mk (Kd.R_lower ho7 (below_size (by repeat (first | (with_reducible first | exact HB.out | apply below_alloc | apply pw_below_drewN | apply below_drew1 | refine below_set ?_ (IsS52.ge HI149.out)) | exact HB.out)))); have n1_ := Aside0.mk (IsS52.below (by repeat (first | (with_reducible first | exact HI149.out | apply IsS52.alloc | apply IsS52.drewN | apply IsS52.drew | apply IsS52.set_0 | apply IsS52.set_1 | apply IsS52.set_2 | apply IsS52.set_3) | exact HI149.out)) hb); have n2_ := Aside0.mk (below_step (by repeat (first | (with_reducible first | exact HB.out | apply below_alloc | apply pw_below_drewN | apply below_drew1 | refine below_set ?_ (IsS52.ge HI149.out)) | exact HB.out)) hb); clear HI149; clear HB; have HO158 := n0_; have HI149 := n1_; have HB := n2_; clear n0_ n1_ n2_; clear hb ho7))
    repeat (go_quiet (first | ((with_reducible refine gate_dst (N := 13) rfl ?_); refine box_event ?hg (N := 13) ?hd (cs := #[.string a0, .int .i64 (a0.size : Int), .int .i64 0, .int .i64 0]) (t := 52) ?hr ?_; (case hd => rfl); (case hg => rfl); (case hr => first | (go_simp; done) | (go_simp; rfl)); intro gb149 hg w4 hbox hb; have n0_ := Aside0.mk (below_step (by repeat (first | (with_reducible first | exact HB.out | apply below_alloc | apply pw_below_drewN | apply below_drew1) | exact HB.out)) hb); have n1_ := Aside0.mk ((⟨hbox, (by rw [hg]; exact (below_size (by repeat (first | (with_reducible first | exact HB.out | apply below_alloc | apply pw_below_drewN | apply below_drew1) | exact HB.out))) : w.heap.size ≤ gb149)⟩ : IsS52 w w4 gb149 a0 (a0.size : Int) 0 0)); clear HB; have HB := n0_; have HI149 := n1_; clear n0_ n1_; clear hb hbox hg) | (go_at_call 20; (with_reducible refine (path_reader_step.calls k gb149 a0 (a0.size : Int) 0 0 0 t150 t151 t152 t153 t154 t155 w _ ?side1 ?side2 A3.out).mono ?_); (case side1 => repeat (first | (with_reducible first | exact HI149.out | apply IsS52.alloc | apply IsS52.drewN | apply IsS52.drew | apply IsS52.set_0 | apply IsS52.set_1 | apply IsS52.set_2 | apply IsS52.set_3) | exact HI149.out)); (case side2 => repeat (first | (with_reducible first | exact HB.out | apply below_alloc | apply pw_below_drewN | apply below_drew1 | refine below_set ?_ (IsS52.ge HI149.out)) | exact HB.out)); rintro e w5 ⟨rfl, hi, hb, hk⟩; have n0_ := Aside0.mk (hb); have n1_ := Aside0.mk (hi); clear HB; clear HI149; have HB := n0_; have HI149 := n1_; clear n0_ n1_; (try clear hb); (try clear hb2); (try clear hk); (try clear hi)) | ((with_reducible refine gate_dst (N := 16) rfl ?_); refine Kd.R_lit k46 _ 46 ?hg (N := 16) ?hd (xs := ([(⟨t150, t151⟩ : S46)] : List (S46))) (inner := [.string t150, .string t151]) (ok := fun _ => True) (okp := fun _ => True) ?hr ?hp (fun _ hk => hk) trivial (Below.refl _ _) (Nat.le_refl _) (by simp) ?_; (case hd => rfl); (case hg => rfl); (case hr => first | (go_simp; done) | (go_simp; rfl)); (case hp => exact (Reps.c2 (show Kd.M k46 _ _ _ (⟨t150, t151⟩ : S46) [.string t150, .string t151] from (k46_mkM _ _ _ (⟨t150, t151⟩ : S46) )) (Reps.none _ _))); intro v157 w6 ho7 hb hg_ hnew_; clear hg_ hnew_; (first | rw [← Ny156.out] at ho7 | (simp only [Int.reduceToNat] at ho7; rw [← Ny156.out] at ho7)); have n0_ := Aside0.mk (Kd.R_lower ho7 (below_size (by repeat (first | (with_reducible first | exact HB.out | apply below_alloc | apply pw_below_drewN | apply below_drew1 | refine below_set ?_ (IsS52.ge HI149.out)) | exact HB.out)))); have n1_ := Aside0.mk (IsS52.below (by repeat (first | (with_reducible first | exact HI149.out | apply IsS52.alloc | apply IsS52.drewN | apply IsS52.drew | apply IsS52.set_0 | apply IsS52.set_1 | apply IsS52.set_2 | apply IsS52.set_3) | exact HI149.out)) hb); have n2_ := Aside0.mk (below_step (by repeat (first | (with_reducible first | exact HB.out | apply below_alloc | apply pw_below_drewN | apply below_drew1 | refine below_set ?_ (IsS52.ge HI149.out)) | exact HB.out)) hb); clear HI149; clear HB; have HO158 := n0_; have HI149 := n1_; have HB := n2_; clear n0_ n1_ n2_; clear hb ho7)); try go_wp2_with (first | ((with_reducible refine gate_dst (N := 13) rfl ?_); refine box_event ?hg (N := 13) ?hd (cs := #[.string a0, .int .i64 (a0.size : Int), .int .i64 0, .int .i64 0]) (t := 52) ?hr ?_; (case hd => rfl); (case hg => rfl); (case hr => first | (go_simp; done) | (go_simp; rfl)); intro gb149 hg w4 hbox hb; have n0_ := Aside0.mk (below_step (by repeat (first | (with_reducible first | exact HB.out | apply below_alloc | apply pw_below_drewN | apply below_drew1) | exact HB.out)) hb); have n1_ := Aside0.mk ((⟨hbox, (by rw [hg]; exact (below_size (by repeat (first | (with_reducible first | exact HB.out | apply below_alloc | apply pw_below_drewN | apply below_drew1) | exact HB.out))) : w.heap.size ≤ gb149)⟩ : IsS52 w w4 gb149 a0 (a0.size : Int) 0 0)); clear HB; have HB := n0_; have HI149 := n1_; clear n0_ n1_; clear hb hbox hg) | (go_at_call 20; (with_reducible refine (path_reader_step.calls k gb149 a0 (a0.size : Int) 0 0 0 t150 t151 t152 t153 t154 t155 w _ ?side1 ?side2 A3.out).mono ?_); (case side1 => repeat (first | (with_reducible first | exact HI149.out | apply IsS52.alloc | apply IsS52.drewN | apply IsS52.drew | apply IsS52.set_0 | apply IsS52.set_1 | apply IsS52.set_2 | apply IsS52.set_3) | exact HI149.out)); (case side2 => repeat (first | (with_reducible first | exact HB.out | apply below_alloc | apply pw_below_drewN | apply below_drew1 | refine below_set ?_ (IsS52.ge HI149.out)) | exact HB.out)); rintro e w5 ⟨rfl, hi, hb, hk⟩; have n0_ := Aside0.mk (hb); have n1_ := Aside0.mk (hi); clear HB; clear HI149; have HB := n0_; have HI149 := n1_; clear n0_ n1_; (try clear hb); (try clear hb2); (try clear hk); (try clear hi)) | ((with_reducible refine gate_dst (N := 16) rfl ?_); refine Kd.R_lit k46 _ 46 ?hg (N := 16) ?hd (xs := ([(⟨t150, t151⟩ : S46)] : List (S46))) (inner := [.string t150, .string t151]) (ok := fun _ => True) (okp := fun _ => True) ?hr ?hp (fun _ hk => hk) trivial (Below.refl _ _) (Nat.le_refl _) (by simp) ?_; (case hd => rfl); (case hg => rfl); (case hr => first | (go_simp; done) | (go_simp; rfl)); (case hp => exact (Reps.c2 (show Kd.M k46 _ _ _ (⟨t150, t151⟩ : S46) [.string t150, .string t151] from (k46_mkM _ _ _ (⟨t150, t151⟩ : S46) )) (Reps.none _ _))); intro v157 w6 ho7 hb hg_ hnew_; clear hg_ hnew_; (first | rw [← Ny156.out] at ho7 | (simp only [Int.reduceToNat] at ho7; rw [← Ny156.out] at ho7)); have n0_ := Aside0.mk (Kd.R_lower ho7 (below_size (by repeat (first | (with_reducible first | exact HB.out | apply below_alloc | apply pw_below_drewN | apply below_drew1 | refine below_set ?_ (IsS52.ge HI149.out)) | exact HB.out)))); have n1_ := Aside0.mk (IsS52.below (by repeat (first | (with_reducible first | exact HI149.out | apply IsS52.alloc | apply IsS52.drewN | apply IsS52.drew | apply IsS52.set_0 | apply IsS52.set_1 | apply IsS52.set_2 | apply IsS52.set_3) | exact HI149.out)) hb); have n2_ := Aside0.mk (below_step (by repeat (first | (with_reducible first | exact HB.out | apply below_alloc | apply pw_below_drewN | apply below_drew1 | refine below_set ?_ (IsS52.ge HI149.out)) | exact HB.out)) hb); clear HI149; clear HB; have HO158 := n0_; have HI149 := n1_; have HB := n2_; clear n0_ n1_ n2_; clear hb ho7)))
    go_loopg [6] k (fun kq v6 w' => ∃ (x6_1 : List (S46)) (x150000_1 : ByteArray) (x150001_1 : Int) (x150002_1 : Int) (x150003_1 : Int), Aside0 (path_Parse.l0 kq x6_1 x150000_1 x150001_1 x150002_1 x150003_1 = some (r1, r2, r3)) ∧ Aside0 (kq ≤ k) ∧ Aside0 (Kd.R k46 46 w' w.heap.size (fun _ => True) v6 x6_1) ∧ Aside0 (IsS52 w w' gb149 x150000_1 x150001_1 x150002_1 x150003_1) ∧ Aside0 (Below w.heap.size w w'))
    case atStart => exact ⟨(y156), (t152), (t153), (t154), (t155), H', ⟨Nat.le_refl _⟩, ⟨by (with_reducible repeat (first | apply Kd.R_alloc | apply Kd.R_drewN | apply Kd.R_drew)); exact HO158.out⟩, ⟨by repeat (first | (with_reducible first | exact HI149.out | apply IsS52.alloc | apply IsS52.drewN | apply IsS52.drew | apply IsS52.set_0 | apply IsS52.set_1 | apply IsS52.set_2 | apply IsS52.set_3) | exact HI149.out)⟩, ⟨by repeat (first | (with_reducible first | exact HB.out | apply below_alloc | apply pw_below_drewN | apply below_drew1 | refine below_set ?_ (IsS52.ge HI149.out)) | exact HB.out)⟩⟩
    case round =>
      clear H'
      try clear c2
      try clear c2b0
      try clear c2b1
      try clear p2
      obtain ⟨x6_1, x150000_1, x150001_1, x150002_1, x150003_1, HA, HK1, HO_6, HI149, HB⟩ := hrel
      cases gk with
      | zero => exact absurd HA.out (by simp [path_Parse.l0])
      | succ k1 =>
        have H := HA.out
        clear HA
        simp only [path_Parse.l0] at H
        by_cases c8 : x150000_1.toList = ([] : List UInt8)
        · rw [if_pos c8] at H
          have c8b0 : (x150000_1.toList == ([] : List UInt8)) = true := beq_iff_eq.mpr c8
          have c8b1 : (x150000_1.toList != ([] : List UInt8)) = false := bne_eq_false_iff_eq.mpr c8
          clear c8
          by_cases c9 : x150002_1 = 0
          · rw [if_pos c9] at H
            have c9b0 : (x150002_1 == 0) = true := beq_iff_eq.mpr c9
            have c9b1 : (x150002_1 != 0) = false := bne_eq_false_iff_eq.mpr c9
            clear c9
            simp only [Option.some.injEq, Prod.mk.injEq] at H
            obtain ⟨rfl, rfl, rfl⟩ := H
            obtain ⟨HGz10, hgz10⟩ := HI149.out
            have hcz10_0 := cellS52_0 HGz10
            have hcz10_1 := cellS52_1 HGz10
            have hcz10_2 := cellS52_2 HGz10
            have hcz10_3 := cellS52_3 HGz10
            have hfz10_0 := blk_frozen HGz10 0
            have hfz10_1 := blk_frozen HGz10 1
            have hfz10_2 := blk_frozen HGz10 2
            have hfz10_3 := blk_frozen HGz10 3
            clear HGz10 hgz10
            go_wp2
            repeat (go_quiet (fail); try go_wp2)
            go_ret3
            exact ⟨_, by first | rfl | (simp [errW_none, errW_some] <;> rfl) | (simp [*, errW_none, errW_some] <;> rfl), by (with_reducible repeat (first | apply Kd.R_alloc | apply Kd.R_drewN | apply Kd.R_drew)); exact HO_6.out, by repeat (first | (with_reducible first | exact HB.out | apply below_alloc | apply pw_below_drewN | apply below_drew1 | refine below_set ?_ (IsS52.ge HI149.out)) | exact HB.out)⟩
          · rw [if_neg c9] at H
            have c9b0 : (x150002_1 == 0) = false := beq_eq_false_iff_ne.mpr c9
            have c9b1 : (x150002_1 != 0) = true := bne_iff_ne.mpr c9
            simp only [Option.some.injEq, Prod.mk.injEq] at H
            obtain ⟨rfl, rfl, rfl⟩ := H
            obtain ⟨HGz11, hgz11⟩ := HI149.out
            have hcz11_0 := cellS52_0 HGz11
            have hcz11_1 := cellS52_1 HGz11
            have hcz11_2 := cellS52_2 HGz11
            have hcz11_3 := cellS52_3 HGz11
            have hfz11_0 := blk_frozen HGz11 0
            have hfz11_1 := blk_frozen HGz11 1
            have hfz11_2 := blk_frozen HGz11 2
            have hfz11_3 := blk_frozen HGz11 3
            clear HGz11 hgz11
            go_wp2
            repeat (go_quiet (fail); try go_wp2)
            go_ret3
            exact ⟨_, by first | rfl | (simp [errW_none, errW_some] <;> rfl) | (simp [*, errW_none, errW_some] <;> rfl), by first | exact Kd.R_nil _ _ _ _ _ | exact Kd.R_nil _ _ _ 0 _ | exact Kd.N_nil _ _ _ _ _ | exact Kd.N_nil _ _ _ 0 _ | exact Kd.V_nil _ _ _ _ _ | exact Kd.Q_nil _ _ _ _ _ | exact Kd.S_nil _ _ _ _ _, by repeat (first | (with_reducible first | exact HB.out | apply below_alloc | apply pw_below_drewN | apply below_drew1 | refine below_set ?_ (IsS52.ge HI149.out)) | exact HB.out)⟩
        · rw [if_neg c8] at H
          have c8b0 : (x150000_1.toList == ([] : List UInt8)) = false := beq_eq_false_iff_ne.mpr c8
          have c8b1 : (x150000_1.toList != ([] : List UInt8)) = true := bne_iff_ne.mpr c8
          by_cases c12 : x150002_1 = 0
          · rw [if_pos c12] at H
            have c12b0 : (x150002_1 == 0) = true := beq_iff_eq.mpr c12
            have c12b1 : (x150002_1 != 0) = false := bne_eq_false_iff_eq.mpr c12
            clear c12
            replace H := Option.bind_eq_some_iff.mp H
            obtain ⟨⟨t159, t160, t161, t162, t163, t164⟩, A130, H⟩ := H
            replace H : (if x6_1.length < 4398046511104 then (path_Parse.l0 k1 (x6_1 ++ [(⟨t159, t160⟩ : S46)]) t161 t162 t163 t164) else (none)) = some (r1, r2, r3) := H
            have A13 := Aside0.mk A130
            clear A130
            by_cases c14 : x6_1.length < 4398046511104
            · rw [if_pos c14] at H
              have LMc14 := Aside0.mk c14
              clear c14
              obtain ⟨y165, hy165⟩ : ∃ y_ : List (S46), y_ = (x6_1 ++ [(⟨t159, t160⟩ : S46)]) := ⟨_, rfl⟩
              replace H : (path_Parse.l0 k1 y165 t161 t162 t163 t164) = some (r1, r2, r3) := by first | (rw [hy165]; with_reducible exact H) | (have H2_ := (Option.bind_some _ _).symm.trans H; rw [hy165]; with_reducible exact H2_) | (have H2_ := (Option.bind_some _ _).symm.trans H; with_reducible exact H2_) | with_reducible exact H | (rw [hy165]; exact H) | exact H
              have Ny165 := Aside0.mk hy165
              clear hy165
              have H' := Aside0.mk H
              clear H
              obtain ⟨HGz15, hgz15⟩ := HI149.out
              have hcz15_0 := cellS52_0 HGz15
              have hcz15_1 := cellS52_1 HGz15
              have hcz15_2 := cellS52_2 HGz15
              have hcz15_3 := cellS52_3 HGz15
              have hfz15_0 := blk_frozen HGz15 0
              have hfz15_1 := blk_frozen HGz15 1
              have hfz15_2 := blk_frozen HGz15 2
              have hfz15_3 := blk_frozen HGz15 3
              clear HGz15 hgz15
              obtain ⟨Ao16, co16, eo16⟩ := Kd.R_slice HO_6.out
              subst eo16
              go_wp2_with (first | (go_at_call 20; (with_reducible refine (path_reader_step.calls k1 gb149 x150000_1 x150001_1 x150002_1 x150003_1 (x6_1.length : Int) t159 t160 t161 t162 t163 t164 w _ ?side1 ?side2 A13.out).mono ?_); (case side1 => repeat (first | (with_reducible first | exact HI149.out | apply IsS52.alloc | apply IsS52.drewN | apply IsS52.drew | apply IsS52.set_0 | apply IsS52.set_1 | apply IsS52.set_2 | apply IsS52.set_3) | exact HI149.out)); (case side2 => repeat (first | (with_reducible first | exact HB.out | apply below_alloc | apply pw_below_drewN | apply below_drew1 | refine below_set ?_ (IsS52.ge HI149.out)) | exact HB.out)); rintro e w17 ⟨rfl, hi, hb, hk⟩; have n0_ := Aside0.mk (Kd.R_mono (Kd.R_keep (IsS52.apart (show IsS52 w _ gb149 x150000_1 x150001_1 x150002_1 x150003_1 from by repeat (first | (with_reducible first | exact HI149.out | apply IsS52.alloc | apply IsS52.drewN | apply IsS52.drew | apply IsS52.set_0 | apply IsS52.set_1 | apply IsS52.set_2 | apply IsS52.set_3) | exact HI149.out)) (by (with_reducible repeat (first | apply Kd.R_alloc | apply Kd.R_drewN | apply Kd.R_drew)); exact HO_6.out) (by decide)) hk (fun _ h => h.2)) (fun _ h => h.1)); have n1_ := Aside0.mk (hb); have n2_ := Aside0.mk (hi); clear HO_6; clear HB; clear HI149; have HO_6 := n0_; have HB := n1_; have HI149 := n2_; clear n0_ n1_ n2_; (try clear hb); (try clear hb2); (try clear hk); (try clear hi)) | ((with_reducible refine gate_builtin (b := .append) (xs := #[.tmp 29, .tmp 34]) rfl ?_); at_builtin; refine Kd.R_append k46 (w0 := w) w.heap.size rfl (.tmp 29) (.tmp 34) 23 46 (.agg #[(.string ⟨#[]⟩), (.string ⟨#[]⟩)]) 32 rfl Tryd.underlying23 info46 rfl (by decide) (by omega) (.slice Ao16 x6_1.length co16) x6_1 (⟨t159, t160⟩ : S46) [.string t159, .string t160] (fun _ => True) (fun _ => False) rfl rfl ?aP (fun _ hk => hk.elim) ?aF ?aO ?aB ?aS ?aL ?_; (case aP => exact k46_mkM _ _ _ (⟨t159, t160⟩ : S46)); (case aB => exact (by repeat (first | (with_reducible first | exact HB.out | apply below_alloc | apply pw_below_drewN | apply below_drew1 | refine below_set ?_ (IsS52.ge HI149.out)) | exact HB.out))); (case aF => exact (fun _ _ => trivial)); (case aO => exact (by (with_reducible repeat (first | apply Kd.R_alloc | apply Kd.R_drewN | apply Kd.R_drew)); exact HO_6.out)); (case aS => exact (below_size (by repeat (first | (with_reducible first | exact HB.out | apply below_alloc | apply pw_below_drewN | apply below_drew1 | refine below_set ?_ (IsS52.ge HI149.out)) | exact HB.out)))); (case aL => have := LMc14.out; omega); intro v166 w18 ho hb hg hat; rw [← Ny165.out] at ho; have n0_ := Aside0.mk (IsS52.grown (by repeat (first | (with_reducible first | exact HI149.out | apply IsS52.alloc | apply IsS52.drewN | apply IsS52.drew | apply IsS52.set_0 | apply IsS52.set_1 | apply IsS52.set_2 | apply IsS52.set_3) | exact HI149.out)) hg (IsS52.own_ne HI149.out HO_6.out (by decide))); have n1_ := Aside0.mk (hb); have n2_ := Aside0.mk (ho); clear HI149; clear HB; clear HO_6; have HI149 := n0_; have HB := n1_; have HO167 := n2_; clear n0_ n1_ n2_; clear ho hb hg hat))
              repeat (go_quiet (first | (go_at_call 20; (with_reducible refine (path_reader_step.calls k1 gb149 x150000_1 x150001_1 x150002_1 x150003_1 (x6_1.length : Int) t159 t160 t161 t162 t163 t164 w _ ?side1 ?side2 A13.out).mono ?_); (case side1 => repeat (first | (with_reducible first | exact HI149.out | apply IsS52.alloc | apply IsS52.drewN | apply IsS52.drew | apply IsS52.set_0 | apply IsS52.set_1 | apply IsS52.set_2 | apply IsS52.set_3) | exact HI149.out)); (case side2 => repeat (first | (with_reducible first | exact HB.out | apply below_alloc | apply pw_below_drewN | apply below_drew1 | refine below_set ?_ (IsS52.ge HI149.out)) | exact HB.out)); rintro e w17 ⟨rfl, hi, hb, hk⟩; have n0_ := Aside0.mk (Kd.R_mono (Kd.R_keep (IsS52.apart (show IsS52 w _ gb149 x150000_1 x150001_1 x150002_1 x150003_1 from by repeat (first | (with_reducible first | exact HI149.out | apply IsS52.alloc | apply IsS52.drewN | apply IsS52.drew | apply IsS52.set_0 | apply IsS52.set_1 | apply IsS52.set_2 | apply IsS52.set_3) | exact HI149.out)) (by (with_reducible repeat (first | apply Kd.R_alloc | apply Kd.R_drewN | apply Kd.R_drew)); exact HO_6.out) (by decide)) hk (fun _ h => h.2)) (fun _ h => h.1)); have n1_ := Aside0.mk (hb); have n2_ := Aside0.mk (hi); clear HO_6; clear HB; clear HI149; have HO_6 := n0_; have HB := n1_; have HI149 := n2_; clear n0_ n1_ n2_; (try clear hb); (try clear hb2); (try clear hk); (try clear hi)) | ((with_reducible refine gate_builtin (b := .append) (xs := #[.tmp 29, .tmp 34]) rfl ?_); at_builtin; refine Kd.R_append k46 (w0 := w) w.heap.size rfl (.tmp 29) (.tmp 34) 23 46 (.agg #[(.string ⟨#[]⟩), (.string ⟨#[]⟩)]) 32 rfl Tryd.underlying23 info46 rfl (by decide) (by omega) (.slice Ao16 x6_1.length co16) x6_1 (⟨t159, t160⟩ : S46) [.string t159, .string t160] (fun _ => True) (fun _ => False) rfl rfl ?aP (fun _ hk => hk.elim) ?aF ?aO ?aB ?aS ?aL ?_; (case aP => exact k46_mkM _ _ _ (⟨t159, t160⟩ : S46)); (case aB => exact (by repeat (first | (with_reducible first | exact HB.out | apply below_alloc | apply pw_below_drewN | apply below_drew1 | refine below_set ?_ (IsS52.ge HI149.out)) | exact HB.out))); (case aF => exact (fun _ _ => trivial)); (case aO => exact (by (with_reducible repeat (first | apply Kd.R_alloc | apply Kd.R_drewN | apply Kd.R_drew)); exact HO_6.out)); (case aS => exact (below_size (by repeat (first | (with_reducible first | exact HB.out | apply below_alloc | apply pw_below_drewN | apply below_drew1 | refine below_set ?_ (IsS52.ge HI149.out)) | exact HB.out)))); (case aL => have := LMc14.out; omega); intro v166 w18 ho hb hg hat; rw [← Ny165.out] at ho; have n0_ := Aside0.mk (IsS52.grown (by repeat (first | (with_reducible first | exact HI149.out | apply IsS52.alloc | apply IsS52.drewN | apply IsS52.drew | apply IsS52.set_0 | apply IsS52.set_1 | apply IsS52.set_2 | apply IsS52.set_3) | exact HI149.out)) hg (IsS52.own_ne HI149.out HO_6.out (by decide))); have n1_ := Aside0.mk (hb); have n2_ := Aside0.mk (ho); clear HI149; clear HB; clear HO_6; have HI149 := n0_; have HB := n1_; have HO167 := n2_; clear n0_ n1_ n2_; clear ho hb hg hat)); try go_wp2_with (first | (go_at_call 20; (with_reducible refine (path_reader_step.calls k1 gb149 x150000_1 x150001_1 x150002_1 x150003_1 (x6_1.length : Int) t159 t160 t161 t162 t163 t164 w _ ?side1 ?side2 A13.out).mono ?_); (case side1 => repeat (first | (with_reducible first | exact HI149.out | apply IsS52.alloc | apply IsS52.drewN | apply IsS52.drew | apply IsS52.set_0 | apply IsS52.set_1 | apply IsS52.set_2 | apply IsS52.set_3) | exact HI149.out)); (case side2 => repeat (first | (with_reducible first | exact HB.out | apply below_alloc | apply pw_below_drewN | apply below_drew1 | refine below_set ?_ (IsS52.ge HI149.out)) | exact HB.out)); rintro e w17 ⟨rfl, hi, hb, hk⟩; have n0_ := Aside0.mk (Kd.R_mono (Kd.R_keep (IsS52.apart (show IsS52 w _ gb149 x150000_1 x150001_1 x150002_1 x150003_1 from by repeat (first | (with_reducible first | exact HI149.out | apply IsS52.alloc | apply IsS52.drewN | apply IsS52.drew | apply IsS52.set_0 | apply IsS52.set_1 | apply IsS52.set_2 | apply IsS52.set_3) | exact HI149.out)) (by (with_reducible repeat (first | apply Kd.R_alloc | apply Kd.R_drewN | apply Kd.R_drew)); exact HO_6.out) (by decide)) hk (fun _ h => h.2)) (fun _ h => h.1)); have n1_ := Aside0.mk (hb); have n2_ := Aside0.mk (hi); clear HO_6; clear HB; clear HI149; have HO_6 := n0_; have HB := n1_; have HI149 := n2_; clear n0_ n1_ n2_; (try clear hb); (try clear hb2); (try clear hk); (try clear hi)) | ((with_reducible refine gate_builtin (b := .append) (xs := #[.tmp 29, .tmp 34]) rfl ?_); at_builtin; refine Kd.R_append k46 (w0 := w) w.heap.size rfl (.tmp 29) (.tmp 34) 23 46 (.agg #[(.string ⟨#[]⟩), (.string ⟨#[]⟩)]) 32 rfl Tryd.underlying23 info46 rfl (by decide) (by omega) (.slice Ao16 x6_1.length co16) x6_1 (⟨t159, t160⟩ : S46) [.string t159, .string t160] (fun _ => True) (fun _ => False) rfl rfl ?aP (fun _ hk => hk.elim) ?aF ?aO ?aB ?aS ?aL ?_; (case aP => exact k46_mkM _ _ _ (⟨t159, t160⟩ : S46)); (case aB => exact (by repeat (first | (with_reducible first | exact HB.out | apply below_alloc | apply pw_below_drewN | apply below_drew1 | refine below_set ?_ (IsS52.ge HI149.out)) | exact HB.out))); (case aF => exact (fun _ _ => trivial)); (case aO => exact (by (with_reducible repeat (first | apply Kd.R_alloc | apply Kd.R_drewN | apply Kd.R_drew)); exact HO_6.out)); (case aS => exact (below_size (by repeat (first | (with_reducible first | exact HB.out | apply below_alloc | apply pw_below_drewN | apply below_drew1 | refine below_set ?_ (IsS52.ge HI149.out)) | exact HB.out)))); (case aL => have := LMc14.out; omega); intro v166 w18 ho hb hg hat; rw [← Ny165.out] at ho; have n0_ := Aside0.mk (IsS52.grown (by repeat (first | (with_reducible first | exact HI149.out | apply IsS52.alloc | apply IsS52.drewN | apply IsS52.drew | apply IsS52.set_0 | apply IsS52.set_1 | apply IsS52.set_2 | apply IsS52.set_3) | exact HI149.out)) hg (IsS52.own_ne HI149.out HO_6.out (by decide))); have n1_ := Aside0.mk (hb); have n2_ := Aside0.mk (ho); clear HI149; clear HB; clear HO_6; have HI149 := n0_; have HB := n1_; have HO167 := n2_; clear n0_ n1_ n2_; clear ho hb hg hat)))
              go_roundg k1
              case measure => have := HK1.out; omega
              case rel => exact ⟨(y165), (t161), (t162), (t163), (t164), H', ⟨by have := HK1.out; omega⟩, ⟨by (with_reducible repeat (first | apply Kd.R_alloc | apply Kd.R_drewN | apply Kd.R_drew)); exact HO167.out⟩, ⟨by repeat (first | (with_reducible first | exact HI149.out | apply IsS52.alloc | apply IsS52.drewN | apply IsS52.drew | apply IsS52.set_0 | apply IsS52.set_1 | apply IsS52.set_2 | apply IsS52.set_3) | exact HI149.out)⟩, ⟨by repeat (first | (with_reducible first | exact HB.out | apply below_alloc | apply pw_below_drewN | apply below_drew1 | refine below_set ?_ (IsS52.ge HI149.out)) | exact HB.out)⟩⟩
            · rw [if_neg c14] at H
              exact absurd H (by simp)
          · rw [if_neg c12] at H
            have c12b0 : (x150002_1 == 0) = false := beq_eq_false_iff_ne.mpr c12
            have c12b1 : (x150002_1 != 0) = true := bne_iff_ne.mpr c12
            simp only [Option.some.injEq, Prod.mk.injEq] at H
            obtain ⟨rfl, rfl, rfl⟩ := H
            obtain ⟨HGz19, hgz19⟩ := HI149.out
            have hcz19_0 := cellS52_0 HGz19
            have hcz19_1 := cellS52_1 HGz19
            have hcz19_2 := cellS52_2 HGz19
            have hcz19_3 := cellS52_3 HGz19
            have hfz19_0 := blk_frozen HGz19 0
            have hfz19_1 := blk_frozen HGz19 1
            have hfz19_2 := blk_frozen HGz19 2
            have hfz19_3 := blk_frozen HGz19 3
            clear HGz19 hgz19
            go_wp2
            repeat (go_quiet (fail); try go_wp2)
            go_ret3
            exact ⟨_, by first | rfl | (simp [errW_none, errW_some] <;> rfl) | (simp [*, errW_none, errW_some] <;> rfl), by first | exact Kd.R_nil _ _ _ _ _ | exact Kd.R_nil _ _ _ 0 _ | exact Kd.N_nil _ _ _ _ _ | exact Kd.N_nil _ _ _ 0 _ | exact Kd.V_nil _ _ _ _ _ | exact Kd.Q_nil _ _ _ _ _ | exact Kd.S_nil _ _ _ _ _, by repeat (first | (with_reducible first | exact HB.out | apply below_alloc | apply pw_below_drewN | apply below_drew1 | refine below_set ?_ (IsS52.ge HI149.out)) | exact HB.out)⟩

/-! ### path_Show: function 11 -/
theorem builder_below {T e B b : Nat} {bs : List Value} {W W' : World} (h : Lib.IsBuilderF T e B b bs W) (hb : Below W.heap.size W W') : Lib.IsBuilderF T e B b bs W' := by
  have step : ∀ p, Lib.BuilderAtF T e B b p bs W → Lib.BuilderAtF T e B b p bs W' := by
    rintro p ⟨hB, v, hv, ho, hne⟩
    exact ⟨hB, v, blk_below hv hb, ho.kept (row := none) ⟨hb.os, hb.tape, hb.output, hb.size, fun k hk _ => hb.block k hk⟩ (Classical.em _), hne⟩
  exact h.elim (fun x => .inl (step _ x)) (fun x => .inr (step _ x))
theorem bWriteK (B b : Nat) (out : List UInt8) (s : ByteArray) (w : World) (h : Lib.IsBuilderF 58 5 B b (Lib.byteCells out) w) (hlen : out.length + s.size ≤ 140737488355328) (hBw : B ≤ w.heap.size) :
    Calls Tryd.prog 24 #[.pointer (some ⟨b, 0, none⟩), .string s] w fun e w' => e = .returned (.tuple #[.int .i64 s.size, .nilIface]) ∧ Lib.IsBuilderF 58 5 B b (Lib.byteCells (out ++ s.data.toList)) w' ∧ Below B w w' ∧ Lib.OthersKept 5 (some b) w w' := by
  refine (Any.Builder_WriteString_k Tryd.lays166 Tryd.bExtra B b (Lib.byteCells out) s w h (by rw [Lib.byteCells_length]; exact hlen) hBw).mono ?_
  rintro e w' ⟨he, h1, h2, h3⟩
  refine ⟨he, .inr ?_, h2, h3⟩
  rw [Lib.byteCells_append]
  exact h1
theorem kept46 {b : Nat} {w w' : World} (h : Lib.OthersKept 5 (some b) w w') {g : Nat} {cs : Array Value} (hg : w.heap[g]? = some (.cells cs 46 (0, 0))) (hne : g ≠ b) : w'.heap[g]? = some (.cells cs 46 (0, 0)) :=
  h g _ hg (fun e => hne (Option.some.inj e)) (fun c fz e => by injection e with _ e; cases e)
/-- What a step is shown as. -/
def stepB (s : S46) : List UInt8 := 47 :: s.f0.data.toList ++ (if s.f1.toList = [] then [] else 91 :: s.f1.data.toList ++ [93])
def path_Show.go : List S46 → List UInt8 → Option ByteArray
  | [], out => some ⟨out.toArray⟩
  | s :: r, out => (scalar_Ident.f s.f0).bind fun b => if b = false then some ⟨#[]⟩ else if s.f1.toList = [] then path_Show.go r (out ++ stepB s) else (scalar_Ident.f s.f1).bind fun c => if c = false then some ⟨#[]⟩ else path_Show.go r (out ++ stepB s)
def path_Show.f (a0 : List S46) : Option ByteArray := if a0 = [] then some ⟨#[47]⟩ else if 6 < a0.length then some ⟨#[]⟩ else path_Show.go a0 []
theorem ident_small (s : ByteArray) (h : scalar_Ident.f s = some true) : s.size ≤ 12 := by
  unfold scalar_Ident.f at h
  split at h
  · cases h
  · split at h
    · rename_i h1; omega
    · cases h
theorem rd46 (l : List S46) (i : Nat) (hi : i < l.length) : rd_T46 l (i : Int) = l[i] := by
  simp [rd_T46, hi]
set_option maxHeartbeats 4000000 in
set_option maxRecDepth 100000 in
theorem path_Show.calls (A0 : Option Addr) (c0 : Nat) (l0 : List (S46)) (r : ByteArray) (w : World) (hr0 : Kd.C k46 w A0 l0.length l0) (hc0 : l0.length ≤ c0) (h : path_Show.f l0 = some r) :
    Calls Tryd.prog 11 #[.slice A0 l0.length c0] w fun e w' => e = .returned (.string r) ∧ Below w.heap.size w w' := by
  have HR := Aside0.mk hr0
  clear hr0
  unfold path_Show.f at h
  by_cases hn : l0 = []
  · rw [if_pos hn] at h
    subst hn
    obtain rfl := Option.some.inj h
    have d1 : ((0 : Int) == 0) = true := by decide
    go_enter Tryd.func11, Tryd.ntmps11
    go_wp2
    go_ret
    exact ⟨rfl, Below.refl _ _⟩
  · rw [if_neg hn] at h
    have hpos : 0 < l0.length := List.length_pos_iff.2 hn
    have d1 : ((l0.length : Int) == 0) = false := by simp; omega
    by_cases h6 : 6 < l0.length
    · rw [if_pos h6] at h
      obtain rfl := Option.some.inj h
      have d2 : decide ((l0.length : Int) > 6) = true := by simp; omega
      have d2' : decide (6 < (l0.length : Int)) = true := by simp; omega
      go_enter Tryd.func11, Tryd.ntmps11
      go_wp2
      go_ret
      exact ⟨rfl, Below.refl _ _⟩
    · rw [if_neg h6] at h
      have d2 : decide ((l0.length : Int) > 6) = false := by simp; omega
      have d2' : decide (6 < (l0.length : Int)) = false := by simp; omega
      have HB0 : Lib.IsBuilderF 58 5 w.heap.size w.heap.size (Lib.byteCells []) (w.alloc (.cells #[.pointer none, .slice none 0 0] 58)) := .of (Lib.fresh_isBuilder 58 5 w)
      go_enter Tryd.func11, Tryd.ntmps11
      go_wp2
      go_loopg [14] l0.length (fun gg s14 wr => ∃ (kk : Nat) (out : List UInt8), kk ≤ l0.length ∧ l0.length - kk ≤ gg ∧ s14 = .int .i64 kk ∧ out.length ≤ 28 * kk ∧ Aside0 (Below w.heap.size w wr) ∧ Aside0 (Lib.IsBuilderF 58 5 w.heap.size w.heap.size (Lib.byteCells out) wr) ∧ Aside0 (path_Show.go (l0.drop kk) out = some r))
      case atStart => exact ⟨0, [], Nat.zero_le _, by omega, rfl, Nat.zero_le _, ⟨below_alloc (Below.refl _ _) _⟩, ⟨HB0⟩, ⟨h⟩⟩
      case round =>
        obtain ⟨kk, out, hkk, hg, rfl, hout, HB, HI, HG⟩ := hrel
        by_cases hlt : kk < l0.length
        · have hltz : (kk : Int) < (l0.length : Int) := by omega
          obtain ⟨ad', e', h0, h1⟩ := at_T46 HR.out (kk : Int) (by omega) hltz
          cases e'
          rw [rd46 l0 kk hlt] at h0 h1
          simp only [Int.toNat_natCast] at h0 h1
          replace h0 := (HB.out.cell (World.block_lt_of_cell? w _ h0)).trans h0
          replace h1 := (HB.out.cell (World.block_lt_of_cell? w _ h1)).trans h1
          have hd : l0.drop kk = l0[kk] :: l0.drop (kk + 1) := List.drop_eq_getElem_cons hlt
          have hG := HG.out
          rw [hd] at hG
          unfold path_Show.go at hG
          generalize hs : l0[kk] = s at *
          obtain ⟨nm, ky⟩ := s
          obtain ⟨b, hb, hG⟩ := Option.bind_eq_some_iff.1 hG
          have dl : decide ((kk : Int) < (l0.length : Int)) = true := decide_eq_true hltz
          have d0 : decide ((0 : Int) ≤ (kk : Int)) = true := by simp
          simp only at hb hG h0 h1
          have hn1 : (wr.alloc (.cells #[.string nm, .string ky] 46)).heap[wr.heap.size]? = some (.cells #[.string nm, .string ky] 46 (0, 0)) := blk_new wr _
          have k0 : (wr.alloc (.cells #[.string nm, .string ky] 46)).cell? ⟨wr.heap.size, 0, none⟩ = some (.string nm) := (blk_cell hn1 0).trans rfl
          have k1 : (wr.alloc (.cells #[.string nm, .string ky] 46)).cell? ⟨wr.heap.size, 1, none⟩ = some (.string ky) := (blk_cell hn1 1).trans rfl
          have hc1 := scalar_Ident.calls nm b (wr.alloc (.cells #[.string nm, .string ky] 46)) hb
          go_wp2_with (fail)
          refine hc1.mono ?_
          rintro e w1 ⟨rfl, hb1⟩
          have hb1' := below_step (below_alloc (Below.refl wr.heap.size wr) (.cells #[.string nm, .string ky] 46)) hb1
          have HB1 : Below w.heap.size w w1 := below_step HB.out hb1'
          have HI1 := builder_below HI.out hb1'
          have hn2 := blk_below hn1 hb1
          have k0' : w1.cell? ⟨wr.heap.size, 0, none⟩ = some (.string nm) := (blk_cell hn2 0).trans rfl
          have k1' : w1.cell? ⟨wr.heap.size, 1, none⟩ = some (.string ky) := (blk_cell hn2 1).trans rfl
          have hgt : wr.heap.size ≠ w.heap.size := by
            have : w.heap.size < wr.heap.size := by
              rcases HI.out with ⟨_, v, hv, _⟩ | ⟨_, v, hv, _⟩ <;> exact blk_lt hv
            omega
          clear k0 k1 hc1 hn1 hb1
          cases b with
          | false =>
            rw [if_pos rfl] at hG
            obtain rfl := Option.some.inj hG
            go_wp2
            go_ret
            exact ⟨rfl, HB1⟩
          | true =>
            rw [if_neg (by simp)] at hG
            have hs1 : nm.size ≤ 12 := ident_small nm hb
            have z1 : (9223372036854775807 < 1 + nm.size) = False := eq_false (by omega)
            have z2 : (9223372036854775806 < nm.size) = False := eq_false (by omega)
            have z3 : decide (1 + nm.size ≤ 9223372036854775807) = true := by simp; omega
            have hl1 : out.length + ((⟨#[47]⟩ : ByteArray) ++ nm).size ≤ 140737488355328 := by
              rw [ByteArray.size_append]
              have : (⟨#[47]⟩ : ByteArray).size = 1 := rfl
              omega
            by_cases hk : ky.toList = []
            · rw [if_pos hk] at hG
              have e1 : (ky.toList == ([] : List UInt8)) = true := beq_iff_eq.mpr hk
              have e2 : (ky.toList != ([] : List UInt8)) = false := bne_eq_false_iff_eq.mpr hk
              go_wp2_with (fail)
              refine (bWriteK w.heap.size w.heap.size out _ _ HI1 hl1 HB1.size).mono ?_
              rintro e w2 ⟨rfl, hI2, hb2, hk2⟩
              have hn3 := kept46 hk2 hn2 hgt
              have k1 : w2.cell? ⟨wr.heap.size, 1, none⟩ = some (.string ky) := (blk_cell hn3 1).trans rfl
              have hlen2 : (out ++ stepB ⟨nm, ky⟩).length ≤ 28 * (kk + 1) := by
                have := data_length nm
                simp only [stepB, if_pos hk, List.length_append, List.length_cons, List.append_nil]; omega
              have hb3 : out ++ ((⟨#[47]⟩ : ByteArray) ++ nm).data.toList = out ++ stepB ⟨nm, ky⟩ := by
                simp only [stepB, if_pos hk, ByteArray.data_append, Array.toList_append, List.append_nil]; rfl
              rw [hb3] at hI2
              go_wp2_with (fail)
              go_roundg (l0.length - (kk + 1))
              case measure => omega
              case rel => exact ⟨kk + 1, _, by omega, by omega, by go_num, hlen2, ⟨HB1.trans hb2⟩, ⟨hI2⟩, ⟨hG⟩⟩
            · rw [if_neg hk] at hG
              obtain ⟨c, hc, hG⟩ := Option.bind_eq_some_iff.1 hG
              have e1 : (ky.toList == ([] : List UInt8)) = false := beq_eq_false_iff_ne.mpr hk
              have e2 : (ky.toList != ([] : List UInt8)) = true := bne_iff_ne.mpr hk
              go_wp2_with (fail)
              refine (scalar_Ident.calls ky c _ hc).mono ?_
              rintro e w2 ⟨rfl, hb2⟩
              have HB2 : Below w.heap.size w w2 := below_step HB1 hb2
              have HI2 := builder_below HI1 hb2
              have hn3 := blk_below hn2 hb2
              have k0 : w2.cell? ⟨wr.heap.size, 0, none⟩ = some (.string nm) := (blk_cell hn3 0).trans rfl
              have k1 : w2.cell? ⟨wr.heap.size, 1, none⟩ = some (.string ky) := (blk_cell hn3 1).trans rfl
              cases c with
              | false =>
                rw [if_pos rfl] at hG
                obtain rfl := Option.some.inj hG
                go_wp2
                go_ret
                exact ⟨rfl, HB2⟩
              | true =>
                rw [if_neg (by simp)] at hG
                have hs2 : ky.size ≤ 12 := ident_small ky hc
                go_wp2_with (fail)
                refine (bWriteK w.heap.size w.heap.size out _ _ HI2 hl1 HB2.size).mono ?_
                rintro e w3 ⟨rfl, hI3, hb3, hk3⟩
                have hn4 := kept46 hk3 hn3 hgt
                have k1 : w3.cell? ⟨wr.heap.size, 1, none⟩ = some (.string ky) := (blk_cell hn4 1).trans rfl
                have y1 : (9223372036854775807 < 1 + ky.size) = False := eq_false (by omega)
                have y2 : (9223372036854775806 < ky.size) = False := eq_false (by omega)
                have y3 : (9223372036854775806 < ((⟨#[91]⟩ : ByteArray) ++ ky).size) = False := eq_false (by rw [ByteArray.size_append]; have : (⟨#[91]⟩ : ByteArray).size = 1 := rfl; omega)
                have y4 : (9223372036854775806 < 1 + ky.size) = False := eq_false (by omega)
                have y5 : (9223372036854775805 < ky.size) = False := eq_false (by omega)
                go_wp2_with (fail)
                refine (bWriteK w.heap.size w.heap.size (out ++ ((⟨#[47]⟩ : ByteArray) ++ nm).data.toList) _ _ hI3 (by
                  have e1 := data_length ((⟨#[47]⟩ : ByteArray) ++ nm)
                  rw [ByteArray.size_append] at e1 hl1
                  have e2 : (⟨#[47]⟩ : ByteArray).size = 1 := rfl
                  have e3 : (⟨#[91]⟩ : ByteArray).size = 1 := rfl
                  have e4 : (⟨#[93]⟩ : ByteArray).size = 1 := rfl
                  rw [ByteArray.size_append, ByteArray.size_append, List.length_append]; omega) (HB2.trans hb3).size).mono ?_
                rintro e w4 ⟨rfl, hI4, hb4, -⟩
                have hlen2 : (out ++ stepB ⟨nm, ky⟩).length ≤ 28 * (kk + 1) := by
                  have := data_length nm
                  have := data_length ky
                  simp only [stepB, if_neg hk, List.length_append, List.length_cons, List.length_nil]; omega
                have hb5 : (out ++ ((⟨#[47]⟩ : ByteArray) ++ nm).data.toList) ++ (((⟨#[91]⟩ : ByteArray) ++ ky) ++ (⟨#[93]⟩ : ByteArray)).data.toList = out ++ stepB ⟨nm, ky⟩ := by
                  simp only [stepB, if_neg hk, ByteArray.data_append, Array.toList_append, List.append_assoc]; rfl
                rw [hb5] at hI4
                go_wp2_with (fail)
                go_roundg (l0.length - (kk + 1))
                case measure => omega
                case rel => exact ⟨kk + 1, _, by omega, by omega, by go_num, hlen2, ⟨(HB2.trans hb3).trans hb4⟩, ⟨hI4⟩, ⟨hG⟩⟩
        · have hltz : ¬ (kk : Int) < (l0.length : Int) := by omega
          have : kk = l0.length := by omega
          subst this
          have hG := HG.out
          rw [List.drop_length] at hG
          obtain rfl := Option.some.inj hG
          have HI' := HI.out
          go_wp2_with (fail)
          refine (Tryd.Builder_String_any_k w.heap.size w.heap.size out _ HI.out HB.out.size).mono ?_
          rintro e w' ⟨rfl, -, hb', -⟩
          go_wp2
          go_ret
          exact ⟨rfl, HB.out.trans hb'⟩

/-! ### spec_Find: function 19 -/
theorem find1_calls (gx : Nat) (nm s : ByteArray) (x1 x2 x3 x4 : Int) (A5 : Option Addr) (n5 c5 : Nat) (x6 : Bool) (x7 : Int) (A8 : Option Addr) (n8 c8 : Nat) (W : World) (hx : W.heap[gx]? = some (.cells #[.string nm] 9 (0, 0))) :
    Calls Tryd.prog 30 #[.agg #[.string s, .int .i64 x1, .int .i64 x2, .int .u64 x3, .int .u64 x4, .slice A5 n5 c5, .bool x6, .int .i64 x7, .slice A8 n8 c8], .pointer (some ⟨gx, 0, none⟩)] W fun e w' => e = .returned (.bool (s.toList == nm.toList)) ∧ Below W.heap.size W w' := by
  have hx1 : (W.alloc (.cells #[.string s, .int .i64 x1, .int .i64 x2, .int .u64 x3, .int .u64 x4, .slice A5 n5 c5, .bool x6, .int .i64 x7, .slice A8 n8 c8] 34)).cell? ⟨gx, 0, none⟩ = some (.string nm) := (blk_cell (blk_alloc hx _) 0).trans rfl
  go_enter Tryd.func30, Tryd.ntmps30
  go_wp2
  go_ret
  exact ⟨rfl, below_alloc (Below.refl _ _) _⟩
def findIx (l : List S34) (nm : ByteArray) : Int := match l.findIdx? (fun x => x.f0.toList == nm.toList) with | some i => (i : Int) | none => -1
theorem findIx_hit (l : List S34) (nm : ByteArray) (i : Nat) (hi : i < l.length) (h : (l[i].f0.toList == nm.toList) = true) (hb : ∀ j (hj : j < l.length), j < i → (l[j].f0.toList == nm.toList) = false) : findIx l nm = i := by
  unfold findIx
  rw [List.findIdx?_eq_some_iff_getElem.2 ⟨hi, h, fun j hj => by simpa using hb j (by omega) hj⟩]
theorem findIx_miss (l : List S34) (nm : ByteArray) (hb : ∀ j (hj : j < l.length), (l[j].f0.toList == nm.toList) = false) : findIx l nm = -1 := by
  unfold findIx
  rw [List.findIdx?_eq_none_iff.2]
  intro x hx
  obtain ⟨j, hj, rfl⟩ := List.mem_iff_getElem.1 hx
  exact hb j hj
theorem rd_at (l : List S34) (i : Nat) (hi : i < l.length) : rd_T34 l (i : Int) = l[i] := by
  simp [rd_T34, hi]
set_option maxHeartbeats 4000000 in
set_option maxRecDepth 100000 in
theorem indexFunc_calls (gx : Nat) (nm : ByteArray) (A : Option Addr) (c : Nat) (l : List S34) (w : World) (hx : w.heap[gx]? = some (.cells #[.string nm] 9 (0, 0))) (hC : Kd.C k34 w A l.length l) :
    Calls Tryd.prog 29 #[.slice A l.length c, .func (.func 30) #[] #[.pointer (some ⟨gx, 0, none⟩)]] w fun e w' => e = .returned (.int .i64 (findIx l nm)) ∧ Below w.heap.size w w' := by
  have hC' := Aside0.mk hC
  clear hC
  have hmax : l.length ≤ 9223372036854775807 := hC'.out.2.1
  go_enter Tryd.func29, Tryd.ntmps29
  go_wp2
  go_loopg [5, 8] l.length (fun gg _ s8 wr => ∃ kk : Nat, kk ≤ l.length ∧ l.length - kk ≤ gg ∧ s8 = .int .i64 kk ∧ Aside0 (Below w.heap.size w wr) ∧ Aside0 (∀ j (hj : j < l.length), j < kk → (l[j].f0.toList == nm.toList) = false))
  case atStart => exact ⟨0, Nat.zero_le _, by omega, rfl, ⟨Below.refl _ w⟩, ⟨fun j hj h => absurd h (Nat.not_lt_zero _)⟩⟩
  case round =>
    obtain ⟨kk, hkk, hg, rfl, HB, HA⟩ := hrel
    by_cases hlt : kk < l.length
    · have hltz : (kk : Int) < (l.length : Int) := by omega
      obtain ⟨ad', A5, c5, A8, c8, e', h0, h1, h2, h3, h4, h5, h6, h7, h8, -, -, -, -⟩ := at_T34 hC'.out (kk : Int) (by omega) hltz
      cases e'
      rw [rd_at l kk hlt] at h0 h1 h2 h3 h4 h5 h6 h7 h8
      simp only [Int.toNat_natCast] at h0 h1 h2 h3 h4 h5 h6 h7 h8
      replace h0 := (HB.out.cell (World.block_lt_of_cell? w _ h0)).trans h0
      replace h1 := (HB.out.cell (World.block_lt_of_cell? w _ h1)).trans h1
      replace h2 := (HB.out.cell (World.block_lt_of_cell? w _ h2)).trans h2
      replace h3 := (HB.out.cell (World.block_lt_of_cell? w _ h3)).trans h3
      replace h4 := (HB.out.cell (World.block_lt_of_cell? w _ h4)).trans h4
      replace h5 := (HB.out.cell (World.block_lt_of_cell? w _ h5)).trans h5
      replace h6 := (HB.out.cell (World.block_lt_of_cell? w _ h6)).trans h6
      replace h7 := (HB.out.cell (World.block_lt_of_cell? w _ h7)).trans h7
      replace h8 := (HB.out.cell (World.block_lt_of_cell? w _ h8)).trans h8
      have hcall := find1_calls gx nm l[kk].f0 l[kk].f1 l[kk].f2 l[kk].f3 l[kk].f4 A5 l[kk].f5.length c5 l[kk].f6 l[kk].f7 A8 l[kk].f8.length c8 wr (blk_below hx HB.out)
      have dl : decide ((kk : Int) < (l.length : Int)) = true := decide_eq_true hltz
      have d0 : decide ((0 : Int) ≤ (kk : Int)) = true := by simp
      have HQ := Aside0.mk hcall
      clear hcall
      cases hq : (l[kk].f0.toList == nm.toList) with
      | true =>
        have hcall := HQ.out
        rw [hq] at hcall
        go_wp2_with ((with_reducible refine hcall.mono ?_); rintro e w' ⟨rfl, hb'⟩)
        go_ret
        exact ⟨by rw [findIx_hit l nm kk hlt hq (fun j hj hjk => HA.out j hj hjk)]; rfl, below_step HB.out hb'⟩
      | false =>
        have hcall := HQ.out
        rw [hq] at hcall
        go_wp2_with ((with_reducible refine hcall.mono ?_); rintro e w' ⟨rfl, hb'⟩)
        go_roundg (l.length - (kk + 1))
        case measure => omega
        case rel =>
          refine ⟨kk + 1, by omega, by omega, by go_num, ⟨below_step HB.out hb'⟩, ⟨fun j hj hjk => ?_⟩⟩
          by_cases e : j = kk
          · subst e
            exact hq
          · exact HA.out j hj (by omega)
    · have hltz : ¬ (kk : Int) < (l.length : Int) := by omega
      have : kk = l.length := by omega
      subst this
      go_wp2
      go_ret
      refine ⟨?_, HB.out⟩
      rw [findIx_miss l nm (fun j hj => HA.out j hj hj)]
      rfl
def spec_Find.f (a0_0 : ByteArray) (a0_1 a0_2 a0_3 a0_4 : Int) (l0_5 : List ByteArray) (a0_6 : Bool) (a0_7 : Int) (l0_8 : List S34) (a1 : ByteArray) : Option Int := some (findIx l0_8 a1)
set_option maxHeartbeats 4000000 in
set_option maxRecDepth 100000 in
theorem spec_Find.calls (a0_0 : ByteArray) (a0_1 : Int) (a0_2 : Int) (a0_3 : Int) (a0_4 : Int) (A0_5 : Option Addr) (c0_5 : Nat) (l0_5 : List ByteArray) (a0_6 : Bool) (a0_7 : Int) (A0_8 : Option Addr) (c0_8 : Nat) (l0_8 : List (S34)) (a1 : ByteArray) (r : Int) (w : World) (hr0_5 : Kd.C Kd.string w A0_5 l0_5.length l0_5) (hc0_5 : l0_5.length ≤ c0_5) (hr0_8 : Kd.C k34 w A0_8 l0_8.length l0_8) (hc0_8 : l0_8.length ≤ c0_8) (h : spec_Find.f a0_0 a0_1 a0_2 a0_3 a0_4 l0_5 a0_6 a0_7 l0_8 a1 = some r) :
    Calls Tryd.prog 19 #[.agg #[.string a0_0, .int .i64 a0_1, .int .i64 a0_2, .int .u64 a0_3, .int .u64 a0_4, .slice A0_5 l0_5.length c0_5, .bool a0_6, .int .i64 a0_7, .slice A0_8 l0_8.length c0_8], .string a1] w fun e w' => e = .returned (.int .i64 r) ∧ Below w.heap.size w w' := by
  obtain rfl := Option.some.inj h
  have hB : Below w.heap.size w ((w.alloc (.cells #[.string a0_0, .int .i64 a0_1, .int .i64 a0_2, .int .u64 a0_3, .int .u64 a0_4, .slice A0_5 l0_5.length c0_5, .bool a0_6, .int .i64 a0_7, .slice A0_8 l0_8.length c0_8] 34)).alloc (.cells #[.string a1] 9)) := below_alloc (below_alloc (Below.refl _ _) _) _
  have hC : Kd.C k34 ((w.alloc (.cells #[.string a0_0, .int .i64 a0_1, .int .i64 a0_2, .int .u64 a0_3, .int .u64 a0_4, .slice A0_5 l0_5.length c0_5, .bool a0_6, .int .i64 a0_7, .slice A0_8 l0_8.length c0_8] 34)).alloc (.cells #[.string a1] 9)) A0_8 l0_8.length l0_8 := Kd.C_below hr0_8 hB
  have hbx : ((w.alloc (.cells #[.string a0_0, .int .i64 a0_1, .int .i64 a0_2, .int .u64 a0_3, .int .u64 a0_4, .slice A0_5 l0_5.length c0_5, .bool a0_6, .int .i64 a0_7, .slice A0_8 l0_8.length c0_8] 34)).alloc (.cells #[.string a1] 9)).heap[w.heap.size + 1]? = some (.cells #[.string a1] 9 (0, 0)) := by
    have := blk_new (w.alloc (.cells #[.string a0_0, .int .i64 a0_1, .int .i64 a0_2, .int .u64 a0_3, .int .u64 a0_4, .slice A0_5 l0_5.length c0_5, .bool a0_6, .int .i64 a0_7, .slice A0_8 l0_8.length c0_8] 34)) (.cells #[.string a1] 9)
    simpa using this
  have k8 : ((w.alloc (.cells #[.string a0_0, .int .i64 a0_1, .int .i64 a0_2, .int .u64 a0_3, .int .u64 a0_4, .slice A0_5 l0_5.length c0_5, .bool a0_6, .int .i64 a0_7, .slice A0_8 l0_8.length c0_8] 34)).alloc (.cells #[.string a1] 9)).cell? ⟨w.heap.size, 8, none⟩ = some (.slice A0_8 l0_8.length c0_8) := (blk_cell (blk_alloc (blk_new w _) _) 8).trans rfl
  go_enter Tryd.func19, Tryd.ntmps19
  go_wp2_with (fail)
  refine (indexFunc_calls _ a1 A0_8 c0_8 l0_8 _ hbx hC).mono ?_
  rintro e w' ⟨rfl, hb⟩
  go_wp2
  go_ret
  exact ⟨rfl, below_step hB hb⟩

/-! ### spec_Root: function 26 -/
/-- The table of version 1. -/
def classK : List S34 := [(⟨⟨#[113, 117, 97, 110, 116, 117, 109]⟩, 1, 1, 1500, 100000, [], true, 0, []⟩ : S34), (⟨⟨#[114, 97, 116, 101]⟩, 1, 2, 0, 1000000, [], true, 0, []⟩ : S34), (⟨⟨#[98, 117, 114, 115, 116]⟩, 1, 1, 1500, 1000000, [], true, 0, []⟩ : S34), (⟨⟨#[108, 105, 109, 105, 116]⟩, 1, 1, 1, 64, [], true, 0, []⟩ : S34)]
def ruleK : List S34 := [(⟨⟨#[108, 111, 119]⟩, 1, 1, 0, 65535, [], true, 0, []⟩ : S34), (⟨⟨#[104, 105, 103, 104]⟩, 1, 1, 0, 65535, [], true, 0, []⟩ : S34), (⟨⟨#[99, 108, 97, 115, 115]⟩, 1, 6, 0, 0, [], true, 0, []⟩ : S34)]
def classS (kids : List S34) : S34 := (⟨⟨#[99, 108, 97, 115, 115]⟩, 3, 0, 0, 0, [], false, 8, kids⟩ : S34)
def ruleS : S34 := (⟨⟨#[114, 117, 108, 101]⟩, 3, 0, 0, 0, [], false, 16, ruleK⟩ : S34)
def upS : S34 := (⟨⟨#[117, 112]⟩, 1, 3, 0, 0, [], false, 0, []⟩ : S34)
def defS : S34 := (⟨⟨#[100, 101, 102, 97, 117, 108, 116]⟩, 1, 6, 0, 0, [], true, 0, []⟩ : S34)
def sysS : S34 := (⟨⟨#[115, 121, 115, 116, 101, 109]⟩, 1, 5, 0, 0, [], false, 0, []⟩ : S34)
def portS (kids : List S34) : S34 := (⟨⟨#[112, 111, 114, 116]⟩, 3, 0, 0, 0, [], false, 4, kids⟩ : S34)
def portK : List S34 := [upS, classS classK, ruleS, defS]
def rootK : List S34 := [sysS, portS portK]
theorem F_blk {α : Type} (d : Kd α) {W : World} {ok : Nat → Prop} {g t : Nat} {cs : Array Value} {xs : List α} (hb : W.heap[g]? = some (.cells cs t (0, 0))) (hok : ok g) (hm : xs.length ≤ 9223372036854775807) (hr : Reps (fun x c => Kd.FK d W ok x c ∧ c.length = d.sz) d.sz xs cs.toList) : Kd.F d W ok (some ⟨g, 0, none⟩) xs.length xs := fun W' hW => by
  have hb' : W'.heap[g]? = some (.cells cs t (0, 0)) := (hW g hok (blk_lt hb)).trans hb
  refine ⟨rfl, hm, fun _ => ⟨_, rfl, fun j p hj => ⟨_, (hr.2 j p hj).2, (hr.2 j p hj).1 W' hW, fun i u hu => ?_⟩⟩⟩
  rw [add_plain, blk_cell hb']
  rw [List.getElem?_take] at hu
  split at hu
  · rw [List.getElem?_drop, Array.getElem?_toList] at hu
    exact hu
  · cases hu
theorem Reps_cons {α : Type} {R : α → List Value → Prop} {size : Nat} {ps : List α} {cs c : List Value} {p : α} (hp : R p c) (hc : c.length = size) (h : Reps R size ps cs) : Reps R size (p :: ps) (c ++ cs) := by
  refine ⟨by rw [List.length_append, h.1, hc, List.length_cons, Nat.succ_mul, Nat.add_comm], fun j q hq => ?_⟩
  cases j with
  | zero =>
    have : p = q := by simpa using hq
    subst this
    rw [Nat.zero_mul, List.drop_zero, ← hc, List.take_left]
    exact hp
  | succ j =>
    have hq' : ps[j]? = some q := by simpa using hq
    have e : (j + 1) * size = c.length + j * size := by rw [hc, Nat.succ_mul, Nat.add_comm]
    rw [e, List.drop_append, List.drop_eq_nil_of_le (by omega), List.nil_append, Nat.add_sub_cancel_left]
    exact h.2 j q hq'
theorem leafFK (W : World) (ok : Nat → Prop) (f0 : ByteArray) (f1 f2 f3 f4 : Int) (f6 : Bool) (f7 : Int) : Kd.FK k34 W ok ⟨f0, f1, f2, f3, f4, [], f6, f7, []⟩ [.string f0, .int .i64 f1, .int .i64 f2, .int .u64 f3, .int .u64 f4, .slice none 0 0, .bool f6, .int .i64 f7, .slice none 0 0] ∧ [Value.string f0, .int .i64 f1, .int .i64 f2, .int .u64 f3, .int .u64 f4, .slice none 0 0, .bool f6, .int .i64 f7, .slice none 0 0].length = 9 :=
  ⟨k34_mkF W ok ⟨f0, f1, f2, f3, f4, [], f6, f7, []⟩ (Nat.le_refl 0) (Kd.F_nil _ _ _) (Nat.le_refl 0) (Kd.F_nil _ _ _), rfl⟩
theorem boxFK {W : World} {ok : Nat → Prop} (f0 : ByteArray) (f1 f2 f3 f4 : Int) (f6 : Bool) (f7 : Int) {g n : Nat} {kids : List S34} (hn : kids.length = n) (h : Kd.F k34 W ok (some ⟨g, 0, none⟩) kids.length kids) : Kd.FK k34 W ok ⟨f0, f1, f2, f3, f4, [], f6, f7, kids⟩ [.string f0, .int .i64 f1, .int .i64 f2, .int .u64 f3, .int .u64 f4, .slice none 0 0, .bool f6, .int .i64 f7, .slice (some ⟨g, 0, none⟩) n n] ∧ [Value.string f0, .int .i64 f1, .int .i64 f2, .int .u64 f3, .int .u64 f4, .slice none 0 0, .bool f6, .int .i64 f7, .slice (some ⟨g, 0, none⟩) n n].length = 9 := by
  subst hn
  exact ⟨k34_mkF W ok ⟨f0, f1, f2, f3, f4, [], f6, f7, kids⟩ (Nat.le_refl 0) (Kd.F_nil _ _ _) (Nat.le_refl _) h, rfl⟩
theorem k34_size : k34.sz = 9 := rfl
theorem root1_V {w : World} {B gR gP gC gU : Nat} (hR : Spec.Blk w gR (Spec.RK gP)) (hP : Spec.Blk w gP (Spec.PK gC gU)) (hC : Spec.Blk w gC Spec.CK) (hU : Spec.Blk w gU Spec.UK) (lR : B ≤ gR) (lP : B ≤ gP) (lC : B ≤ gC) (lU : B ≤ gU) : Kd.V k34 34 w B (fun k_ => B ≤ k_) (.slice (some ⟨gR, 0, none⟩) 2 2) rootK := by
  have rC : Reps (fun x c => Kd.FK k34 w (fun k_ => B ≤ k_) x c ∧ c.length = 9) 9 classK ([.string ⟨#[113, 117, 97, 110, 116, 117, 109]⟩, .int .i64 1, .int .i64 1, .int .u64 1500, .int .u64 100000, .slice none 0 0, .bool true, .int .i64 0, .slice none 0 0] ++ ([.string ⟨#[114, 97, 116, 101]⟩, .int .i64 1, .int .i64 2, .int .u64 0, .int .u64 1000000, .slice none 0 0, .bool true, .int .i64 0, .slice none 0 0] ++ ([.string ⟨#[98, 117, 114, 115, 116]⟩, .int .i64 1, .int .i64 1, .int .u64 1500, .int .u64 1000000, .slice none 0 0, .bool true, .int .i64 0, .slice none 0 0] ++ ([.string ⟨#[108, 105, 109, 105, 116]⟩, .int .i64 1, .int .i64 1, .int .u64 1, .int .u64 64, .slice none 0 0, .bool true, .int .i64 0, .slice none 0 0] ++ ([]))))) := (Reps_cons (leafFK _ _ _ _ _ _ _ _ _) rfl (Reps_cons (leafFK _ _ _ _ _ _ _ _ _) rfl (Reps_cons (leafFK _ _ _ _ _ _ _ _ _) rfl (Reps_cons (leafFK _ _ _ _ _ _ _ _ _) rfl (Reps.none _ _)))))
  have fC : Kd.F k34 w (fun k_ => B ≤ k_) (some ⟨gC, 0, none⟩) classK.length classK := F_blk k34 hC lC (by decide) rC
  have rU : Reps (fun x c => Kd.FK k34 w (fun k_ => B ≤ k_) x c ∧ c.length = 9) 9 ruleK ([.string ⟨#[108, 111, 119]⟩, .int .i64 1, .int .i64 1, .int .u64 0, .int .u64 65535, .slice none 0 0, .bool true, .int .i64 0, .slice none 0 0] ++ ([.string ⟨#[104, 105, 103, 104]⟩, .int .i64 1, .int .i64 1, .int .u64 0, .int .u64 65535, .slice none 0 0, .bool true, .int .i64 0, .slice none 0 0] ++ ([.string ⟨#[99, 108, 97, 115, 115]⟩, .int .i64 1, .int .i64 6, .int .u64 0, .int .u64 0, .slice none 0 0, .bool true, .int .i64 0, .slice none 0 0] ++ ([])))) := (Reps_cons (leafFK _ _ _ _ _ _ _ _ _) rfl (Reps_cons (leafFK _ _ _ _ _ _ _ _ _) rfl (Reps_cons (leafFK _ _ _ _ _ _ _ _ _) rfl (Reps.none _ _))))
  have fU : Kd.F k34 w (fun k_ => B ≤ k_) (some ⟨gU, 0, none⟩) ruleK.length ruleK := F_blk k34 hU lU (by decide) rU
  have rP : Reps (fun x c => Kd.FK k34 w (fun k_ => B ≤ k_) x c ∧ c.length = 9) 9 portK ([.string ⟨#[117, 112]⟩, .int .i64 1, .int .i64 3, .int .u64 0, .int .u64 0, .slice none 0 0, .bool false, .int .i64 0, .slice none 0 0] ++ ([.string ⟨#[99, 108, 97, 115, 115]⟩, .int .i64 3, .int .i64 0, .int .u64 0, .int .u64 0, .slice none 0 0, .bool false, .int .i64 8, .slice (some ⟨gC, 0, none⟩) 4 4] ++ ([.string ⟨#[114, 117, 108, 101]⟩, .int .i64 3, .int .i64 0, .int .u64 0, .int .u64 0, .slice none 0 0, .bool false, .int .i64 16, .slice (some ⟨gU, 0, none⟩) 3 3] ++ ([.string ⟨#[100, 101, 102, 97, 117, 108, 116]⟩, .int .i64 1, .int .i64 6, .int .u64 0, .int .u64 0, .slice none 0 0, .bool true, .int .i64 0, .slice none 0 0] ++ ([]))))) := (Reps_cons (leafFK _ _ _ _ _ _ _ _ _) rfl (Reps_cons (boxFK _ _ _ _ _ _ _ (n := 4) rfl fC) rfl (Reps_cons (boxFK _ _ _ _ _ _ _ (n := 3) rfl fU) rfl (Reps_cons (leafFK _ _ _ _ _ _ _ _ _) rfl (Reps.none _ _)))))
  have fP : Kd.F k34 w (fun k_ => B ≤ k_) (some ⟨gP, 0, none⟩) portK.length portK := F_blk k34 hP lP (by decide) rP
  have rR : Reps (fun x c => Kd.FK k34 w (fun k_ => B ≤ k_) x c ∧ c.length = 9) 9 rootK ([.string ⟨#[115, 121, 115, 116, 101, 109]⟩, .int .i64 1, .int .i64 5, .int .u64 0, .int .u64 0, .slice none 0 0, .bool false, .int .i64 0, .slice none 0 0] ++ ([.string ⟨#[112, 111, 114, 116]⟩, .int .i64 3, .int .i64 0, .int .u64 0, .int .u64 0, .slice none 0 0, .bool false, .int .i64 4, .slice (some ⟨gP, 0, none⟩) 4 4] ++ ([]))) := (Reps_cons (leafFK _ _ _ _ _ _ _ _ _) rfl (Reps_cons (boxFK _ _ _ _ _ _ _ (n := 4) rfl fP) rfl (Reps.none _ _)))
  have fR : Kd.F k34 w (fun k_ => B ≤ k_) (some ⟨gR, 0, none⟩) rootK.length rootK := F_blk k34 hR lR (by decide) rR
  exact ⟨_, _, rfl, Nat.le_refl 2, fR⟩
/-- Root, told for version 1 and for what is no version. -/
def spec_Root.f (v : Int) : Option (ByteArray × Int × Int × Int × Int × List ByteArray × Bool × Int × List S34 × Int) :=
  if v = 1 then some (⟨#[]⟩, 2, 0, 0, 0, [], false, 0, rootK, 0) else if v < 1 ∨ 3 < v then some (⟨#[]⟩, 0, 0, 0, 0, [], false, 0, [], 28) else none
theorem spec_Root.calls (a0 : Int) (r1 : ByteArray) (r2 : Int) (r3 : Int) (r4 : Int) (r5 : Int) (r6 : List ByteArray) (r7 : Bool) (r8 : Int) (r9 : List (S34)) (r10 : Int) (w : World) (h : spec_Root.f a0 = some (r1, r2, r3, r4, r5, r6, r7, r8, r9, r10)) :
    Calls Tryd.prog 26 #[.int .i64 a0] w fun e w' => ∃ v5_ v8_ : Value, e = .returned (.tuple #[.agg #[.string r1, .int .i64 r2, .int .i64 r3, .int .u64 r4, .int .u64 r5, v5_, .bool r7, .int .i64 r8, v8_], .int .i64 r10]) ∧ Kd.V Kd.string 9 w' w.heap.size (fun k_ => (w.heap.size ≤ k_)) v5_ r6 ∧ Kd.V k34 34 w' w.heap.size (fun k_ => (w.heap.size ≤ k_)) v8_ r9 ∧ Below w.heap.size w w' := by
  unfold spec_Root.f at h
  split at h
  · rename_i h1
    subst h1
    cases h
    refine (Spec.root1 w).mono ?_
    rintro e w' ⟨⟨gR, gP, gC, gU, rfl, hR, hP, hC, hU, lR, lP, lC, lU⟩, hb⟩
    exact ⟨_, _, rfl, Kd.V_nil _ _ _ _ _, root1_V hR hP hC hU lR lP lC lU, hb⟩
  · split at h
    · rename_i h1
      cases h
      refine (Spec.root_bad a0 h1 w).mono ?_
      rintro e w' ⟨rfl, hb⟩
      exact ⟨_, _, rfl, Kd.V_nil _ _ _ _ _, Kd.V_nil _ _ _ _ _, hb⟩
    · cases h

end Go.Proofs.YtbbkchclefkikaaDoor.QPath
