import Derived.Test.YtbbkchclefkikaaDoorSpecFirst
namespace Go.Proofs.YtbbkchclefkikaaDoor.Spec
open Go.RowKit Go.Proofs.YtbbkchclefkikaaDoorW.PrintWords Go.Proofs.YtbbkchclefkikaaDoorW.PrintLast Go.Proofs.YtbbkchclefkikaaDoorW.PrintMore
set_option linter.unusedVariables false
set_option linter.unusedSimpArgs false
set_option maxHeartbeats 4000000
set_option maxRecDepth 100000
theorem root_bad (v : Int) (hv : v < 1 ∨ 3 < v) (w : World) :
    Calls Tryd.prog 26 #[.int .i64 v] w fun e w' => e = .returned (.tuple #[.agg #[.string ⟨#[]⟩, .int .i64 0, .int .i64 0, .int .u64 0, .int .u64 0, .slice none 0 0, .bool false, .int .i64 0, .slice none 0 0], .int .i64 28]) ∧ Below w.heap.size w w' := by
  by_cases h1 : v < 1
  · have d1 : decide (v < 1) = true := by simp [h1]
    go_enter Tryd.func26, Tryd.ntmps26
    go_wp2
    refine bodyPost_ret (results_ct rfl _ _ w.heap.size 34 #[.string ⟨#[]⟩, .int .i64 0, .int .i64 0, .int .u64 0, .int .u64 0, .slice none 0 0, .bool false, .int .i64 0, .slice none 0 0] (0, 0) _ rfl ?_ Tryd.underlying34 rfl (by kernel_rfl)) rfl ?_
    · exact blk_new w _
    exact ⟨rfl, below_alloc (Below.refl _ _) _⟩
  · have d1 : decide (v < 1) = false := by simp [h1]
    have d3 : decide (v > 3) = true := by simp; omega
    have d3' : decide (3 < v) = true := by simp; omega
    go_enter Tryd.func26, Tryd.ntmps26
    go_wp2
    refine bodyPost_ret (results_ct rfl _ _ w.heap.size 34 #[.string ⟨#[]⟩, .int .i64 0, .int .i64 0, .int .u64 0, .int .u64 0, .slice none 0 0, .bool false, .int .i64 0, .slice none 0 0] (0, 0) _ rfl ?_ Tryd.underlying34 rfl (by kernel_rfl)) rfl ?_
    · exact blk_new w _
    exact ⟨rfl, below_alloc (Below.refl _ _) _⟩
theorem later_calls (w : World) :
    Calls Tryd.prog 39 #[] w fun e w' => e = .returned (.slice (some ⟨w.heap.size, 0, none⟩) 2 2) ∧ w' = w.alloc (.cells #[.func (.func 58) #[] #[], .func (.func 62) #[] #[]] 77) := by
  go_enter Tryd.func39, Tryd.ntmps39
  go_wp2
  go_ret
  exact ⟨rfl, rfl⟩
theorem root1 (w : World) :
    Calls Tryd.prog 26 #[.int .i64 1] w fun e w' => (∃ gR gP gC gU : Nat, e = .returned (.tuple #[.agg #[.string ⟨#[]⟩, .int .i64 2, .int .i64 0, .int .u64 0, .int .u64 0, .slice none 0 0, .bool false, .int .i64 0, .slice (some ⟨gR, 0, none⟩) 2 2], .int .i64 0]) ∧ Blk w' gR (RK gP) ∧ Blk w' gP (PK gC gU) ∧ Blk w' gC CK ∧ Blk w' gU UK ∧ w.heap.size ≤ gR ∧ w.heap.size ≤ gP ∧ w.heap.size ≤ gC ∧ w.heap.size ≤ gU) ∧ Below w.heap.size w w' := by
  have d1 : decide ((1 : Int) < 1) = false := by decide
  have d3 : decide ((1 : Int) > 3) = false := by decide
  have d4 : decide ((3 : Int) < 1) = false := by decide
  have d5 : decide ((0 : Int) < 0) = false := by decide
  have d6 : decide ((0 : Nat) < 0) = false := by decide
  go_enter Tryd.func26, Tryd.ntmps26
  go_wp2_with (fail)
  refine (first_calls _).mono ?_
  rintro e w1 ⟨⟨gR, gP, gC, gU, rfl, hR, hP, hC, hU, lR, lP, lC, lU⟩, hb⟩
  have hz1 : Blk w1 w.heap.size ZB := blk_below (blk_new w (.cells ZB 34)) hb
  have hB1 : Below w.heap.size w w1 := below_step (below_alloc (Below.refl _ _) _) hb
  have la : (w.alloc (.cells ZB 34)).heap.size = w.heap.size + 1 := by simp
  have kR : w.heap.size < gR := by have : (w.alloc (.cells ZB 34)).heap.size ≤ gR := lR; omega
  have kP : w.heap.size < gP := by have : (w.alloc (.cells ZB 34)).heap.size ≤ gP := lP; omega
  have kC : w.heap.size < gC := by have : (w.alloc (.cells ZB 34)).heap.size ≤ gC := lC; omega
  have kU : w.heap.size < gU := by have : (w.alloc (.cells ZB 34)).heap.size ≤ gU := lU; omega
  clear lR lP lC lU hb la
  go_wp2_with (fail)
  refine (later_calls _).mono ?_
  rintro e w2 ⟨rfl, rfl⟩
  have hs : ((w1.alloc (.cells #[.string ⟨#[]⟩, .int .i64 2, .int .i64 0, .int .u64 0, .int .u64 0, .slice none 0 0, .bool false, .int .i64 0, .slice (some ⟨gR, 0, none⟩) 2 2] 34)).alloc (.cells #[.func (.func 58) #[] #[], .func (.func 62) #[] #[]] 77)).heap[w1.heap.size]? = some (.cells #[.string ⟨#[]⟩, .int .i64 2, .int .i64 0, .int .u64 0, .int .u64 0, .slice none 0 0, .bool false, .int .i64 0, .slice (some ⟨gR, 0, none⟩) 2 2] 34 (0, 0)) := blk_alloc (blk_new w1 _) _
  have hz : Blk ((w1.alloc (.cells #[.string ⟨#[]⟩, .int .i64 2, .int .i64 0, .int .u64 0, .int .u64 0, .slice none 0 0, .bool false, .int .i64 0, .slice (some ⟨gR, 0, none⟩) 2 2] 34)).alloc (.cells #[.func (.func 58) #[] #[], .func (.func 62) #[] #[]] 77)) w.heap.size ZB := blk_alloc (blk_alloc hz1 _) _
  have hB : Below w.heap.size w ((w1.alloc (.cells #[.string ⟨#[]⟩, .int .i64 2, .int .i64 0, .int .u64 0, .int .u64 0, .slice none 0 0, .bool false, .int .i64 0, .slice (some ⟨gR, 0, none⟩) 2 2] 34)).alloc (.cells #[.func (.func 58) #[] #[], .func (.func 62) #[] #[]] 77)) := below_alloc (below_alloc hB1 _) _
  have hR2 := blk_alloc (blk_alloc hR (.cells #[.string ⟨#[]⟩, .int .i64 2, .int .i64 0, .int .u64 0, .int .u64 0, .slice none 0 0, .bool false, .int .i64 0, .slice (some ⟨gR, 0, none⟩) 2 2] 34)) (.cells #[.func (.func 58) #[] #[], .func (.func 62) #[] #[]] 77)
  have hP2 := blk_alloc (blk_alloc hP (.cells #[.string ⟨#[]⟩, .int .i64 2, .int .i64 0, .int .u64 0, .int .u64 0, .slice none 0 0, .bool false, .int .i64 0, .slice (some ⟨gR, 0, none⟩) 2 2] 34)) (.cells #[.func (.func 58) #[] #[], .func (.func 62) #[] #[]] 77)
  have hC2 := blk_alloc (blk_alloc hC (.cells #[.string ⟨#[]⟩, .int .i64 2, .int .i64 0, .int .u64 0, .int .u64 0, .slice none 0 0, .bool false, .int .i64 0, .slice (some ⟨gR, 0, none⟩) 2 2] 34)) (.cells #[.func (.func 58) #[] #[], .func (.func 62) #[] #[]] 77)
  have hU2 := blk_alloc (blk_alloc hU (.cells #[.string ⟨#[]⟩, .int .i64 2, .int .i64 0, .int .u64 0, .int .u64 0, .slice none 0 0, .bool false, .int .i64 0, .slice (some ⟨gR, 0, none⟩) 2 2] 34)) (.cells #[.func (.func 58) #[] #[], .func (.func 62) #[] #[]] 77)
  generalize ((w1.alloc (.cells #[.string ⟨#[]⟩, .int .i64 2, .int .i64 0, .int .u64 0, .int .u64 0, .slice none 0 0, .bool false, .int .i64 0, .slice (some ⟨gR, 0, none⟩) 2 2] 34)).alloc (.cells #[.func (.func 58) #[] #[], .func (.func 62) #[] #[]] 77)) = W at *
  unfold ZB Blk at hz
  have kc0 : (W).cell? ⟨w.heap.size, 0, none⟩ = some (.string ⟨#[]⟩) := (blk_cell hz 0).trans rfl
  have kf0 := blk_frozen hz 0
  have kb0 : ((W).setCell ⟨w.heap.size, 0, none⟩ (.string ⟨#[]⟩)).heap[w.heap.size]? = some (.cells #[.string ⟨#[]⟩, .int .i64 0, .int .i64 0, .int .u64 0, .int .u64 0, .slice none 0 0, .bool false, .int .i64 0, .slice none 0 0] 34 (0, 0)) := blk_set_ hz _ rfl
  have kc1 : ((W).setCell ⟨w.heap.size, 0, none⟩ (.string ⟨#[]⟩)).cell? ⟨w.heap.size, 1, none⟩ = some (.int .i64 0) := (blk_cell kb0 1).trans rfl
  have kf1 := blk_frozen kb0 1
  have kb1 : (((W).setCell ⟨w.heap.size, 0, none⟩ (.string ⟨#[]⟩)).setCell ⟨w.heap.size, 1, none⟩ (.int .i64 2)).heap[w.heap.size]? = some (.cells #[.string ⟨#[]⟩, .int .i64 2, .int .i64 0, .int .u64 0, .int .u64 0, .slice none 0 0, .bool false, .int .i64 0, .slice none 0 0] 34 (0, 0)) := blk_set_ kb0 _ rfl
  have kc2 : (((W).setCell ⟨w.heap.size, 0, none⟩ (.string ⟨#[]⟩)).setCell ⟨w.heap.size, 1, none⟩ (.int .i64 2)).cell? ⟨w.heap.size, 2, none⟩ = some (.int .i64 0) := (blk_cell kb1 2).trans rfl
  have kf2 := blk_frozen kb1 2
  have kb2 : ((((W).setCell ⟨w.heap.size, 0, none⟩ (.string ⟨#[]⟩)).setCell ⟨w.heap.size, 1, none⟩ (.int .i64 2)).setCell ⟨w.heap.size, 2, none⟩ (.int .i64 0)).heap[w.heap.size]? = some (.cells #[.string ⟨#[]⟩, .int .i64 2, .int .i64 0, .int .u64 0, .int .u64 0, .slice none 0 0, .bool false, .int .i64 0, .slice none 0 0] 34 (0, 0)) := blk_set_ kb1 _ rfl
  have kc3 : ((((W).setCell ⟨w.heap.size, 0, none⟩ (.string ⟨#[]⟩)).setCell ⟨w.heap.size, 1, none⟩ (.int .i64 2)).setCell ⟨w.heap.size, 2, none⟩ (.int .i64 0)).cell? ⟨w.heap.size, 3, none⟩ = some (.int .u64 0) := (blk_cell kb2 3).trans rfl
  have kf3 := blk_frozen kb2 3
  have kb3 : (((((W).setCell ⟨w.heap.size, 0, none⟩ (.string ⟨#[]⟩)).setCell ⟨w.heap.size, 1, none⟩ (.int .i64 2)).setCell ⟨w.heap.size, 2, none⟩ (.int .i64 0)).setCell ⟨w.heap.size, 3, none⟩ (.int .u64 0)).heap[w.heap.size]? = some (.cells #[.string ⟨#[]⟩, .int .i64 2, .int .i64 0, .int .u64 0, .int .u64 0, .slice none 0 0, .bool false, .int .i64 0, .slice none 0 0] 34 (0, 0)) := blk_set_ kb2 _ rfl
  have kc4 : (((((W).setCell ⟨w.heap.size, 0, none⟩ (.string ⟨#[]⟩)).setCell ⟨w.heap.size, 1, none⟩ (.int .i64 2)).setCell ⟨w.heap.size, 2, none⟩ (.int .i64 0)).setCell ⟨w.heap.size, 3, none⟩ (.int .u64 0)).cell? ⟨w.heap.size, 4, none⟩ = some (.int .u64 0) := (blk_cell kb3 4).trans rfl
  have kf4 := blk_frozen kb3 4
  have kb4 : ((((((W).setCell ⟨w.heap.size, 0, none⟩ (.string ⟨#[]⟩)).setCell ⟨w.heap.size, 1, none⟩ (.int .i64 2)).setCell ⟨w.heap.size, 2, none⟩ (.int .i64 0)).setCell ⟨w.heap.size, 3, none⟩ (.int .u64 0)).setCell ⟨w.heap.size, 4, none⟩ (.int .u64 0)).heap[w.heap.size]? = some (.cells #[.string ⟨#[]⟩, .int .i64 2, .int .i64 0, .int .u64 0, .int .u64 0, .slice none 0 0, .bool false, .int .i64 0, .slice none 0 0] 34 (0, 0)) := blk_set_ kb3 _ rfl
  have kc5 : ((((((W).setCell ⟨w.heap.size, 0, none⟩ (.string ⟨#[]⟩)).setCell ⟨w.heap.size, 1, none⟩ (.int .i64 2)).setCell ⟨w.heap.size, 2, none⟩ (.int .i64 0)).setCell ⟨w.heap.size, 3, none⟩ (.int .u64 0)).setCell ⟨w.heap.size, 4, none⟩ (.int .u64 0)).cell? ⟨w.heap.size, 5, none⟩ = some (.slice none 0 0) := (blk_cell kb4 5).trans rfl
  have kf5 := blk_frozen kb4 5
  have kb5 : (((((((W).setCell ⟨w.heap.size, 0, none⟩ (.string ⟨#[]⟩)).setCell ⟨w.heap.size, 1, none⟩ (.int .i64 2)).setCell ⟨w.heap.size, 2, none⟩ (.int .i64 0)).setCell ⟨w.heap.size, 3, none⟩ (.int .u64 0)).setCell ⟨w.heap.size, 4, none⟩ (.int .u64 0)).setCell ⟨w.heap.size, 5, none⟩ (.slice none 0 0)).heap[w.heap.size]? = some (.cells #[.string ⟨#[]⟩, .int .i64 2, .int .i64 0, .int .u64 0, .int .u64 0, .slice none 0 0, .bool false, .int .i64 0, .slice none 0 0] 34 (0, 0)) := blk_set_ kb4 _ rfl
  have kc6 : (((((((W).setCell ⟨w.heap.size, 0, none⟩ (.string ⟨#[]⟩)).setCell ⟨w.heap.size, 1, none⟩ (.int .i64 2)).setCell ⟨w.heap.size, 2, none⟩ (.int .i64 0)).setCell ⟨w.heap.size, 3, none⟩ (.int .u64 0)).setCell ⟨w.heap.size, 4, none⟩ (.int .u64 0)).setCell ⟨w.heap.size, 5, none⟩ (.slice none 0 0)).cell? ⟨w.heap.size, 6, none⟩ = some (.bool false) := (blk_cell kb5 6).trans rfl
  have kf6 := blk_frozen kb5 6
  have kb6 : ((((((((W).setCell ⟨w.heap.size, 0, none⟩ (.string ⟨#[]⟩)).setCell ⟨w.heap.size, 1, none⟩ (.int .i64 2)).setCell ⟨w.heap.size, 2, none⟩ (.int .i64 0)).setCell ⟨w.heap.size, 3, none⟩ (.int .u64 0)).setCell ⟨w.heap.size, 4, none⟩ (.int .u64 0)).setCell ⟨w.heap.size, 5, none⟩ (.slice none 0 0)).setCell ⟨w.heap.size, 6, none⟩ (.bool false)).heap[w.heap.size]? = some (.cells #[.string ⟨#[]⟩, .int .i64 2, .int .i64 0, .int .u64 0, .int .u64 0, .slice none 0 0, .bool false, .int .i64 0, .slice none 0 0] 34 (0, 0)) := blk_set_ kb5 _ rfl
  have kc7 : ((((((((W).setCell ⟨w.heap.size, 0, none⟩ (.string ⟨#[]⟩)).setCell ⟨w.heap.size, 1, none⟩ (.int .i64 2)).setCell ⟨w.heap.size, 2, none⟩ (.int .i64 0)).setCell ⟨w.heap.size, 3, none⟩ (.int .u64 0)).setCell ⟨w.heap.size, 4, none⟩ (.int .u64 0)).setCell ⟨w.heap.size, 5, none⟩ (.slice none 0 0)).setCell ⟨w.heap.size, 6, none⟩ (.bool false)).cell? ⟨w.heap.size, 7, none⟩ = some (.int .i64 0) := (blk_cell kb6 7).trans rfl
  have kf7 := blk_frozen kb6 7
  have kb7 : (((((((((W).setCell ⟨w.heap.size, 0, none⟩ (.string ⟨#[]⟩)).setCell ⟨w.heap.size, 1, none⟩ (.int .i64 2)).setCell ⟨w.heap.size, 2, none⟩ (.int .i64 0)).setCell ⟨w.heap.size, 3, none⟩ (.int .u64 0)).setCell ⟨w.heap.size, 4, none⟩ (.int .u64 0)).setCell ⟨w.heap.size, 5, none⟩ (.slice none 0 0)).setCell ⟨w.heap.size, 6, none⟩ (.bool false)).setCell ⟨w.heap.size, 7, none⟩ (.int .i64 0)).heap[w.heap.size]? = some (.cells #[.string ⟨#[]⟩, .int .i64 2, .int .i64 0, .int .u64 0, .int .u64 0, .slice none 0 0, .bool false, .int .i64 0, .slice none 0 0] 34 (0, 0)) := blk_set_ kb6 _ rfl
  have kc8 : (((((((((W).setCell ⟨w.heap.size, 0, none⟩ (.string ⟨#[]⟩)).setCell ⟨w.heap.size, 1, none⟩ (.int .i64 2)).setCell ⟨w.heap.size, 2, none⟩ (.int .i64 0)).setCell ⟨w.heap.size, 3, none⟩ (.int .u64 0)).setCell ⟨w.heap.size, 4, none⟩ (.int .u64 0)).setCell ⟨w.heap.size, 5, none⟩ (.slice none 0 0)).setCell ⟨w.heap.size, 6, none⟩ (.bool false)).setCell ⟨w.heap.size, 7, none⟩ (.int .i64 0)).cell? ⟨w.heap.size, 8, none⟩ = some (.slice none 0 0) := (blk_cell kb7 8).trans rfl
  have kf8 := blk_frozen kb7 8
  have kb8 : ((((((((((W).setCell ⟨w.heap.size, 0, none⟩ (.string ⟨#[]⟩)).setCell ⟨w.heap.size, 1, none⟩ (.int .i64 2)).setCell ⟨w.heap.size, 2, none⟩ (.int .i64 0)).setCell ⟨w.heap.size, 3, none⟩ (.int .u64 0)).setCell ⟨w.heap.size, 4, none⟩ (.int .u64 0)).setCell ⟨w.heap.size, 5, none⟩ (.slice none 0 0)).setCell ⟨w.heap.size, 6, none⟩ (.bool false)).setCell ⟨w.heap.size, 7, none⟩ (.int .i64 0)).setCell ⟨w.heap.size, 8, none⟩ (.slice (some ⟨gR, 0, none⟩) 2 2)).heap[w.heap.size]? = some (.cells #[.string ⟨#[]⟩, .int .i64 2, .int .i64 0, .int .u64 0, .int .u64 0, .slice none 0 0, .bool false, .int .i64 0, .slice (some ⟨gR, 0, none⟩) 2 2] 34 (0, 0)) := blk_set_ kb7 _ rfl
  have ks0 := blk_cell hs 0
  have ks1 := blk_cell hs 1
  have ks2 := blk_cell hs 2
  have ks3 := blk_cell hs 3
  have ks4 := blk_cell hs 4
  have ks5 := blk_cell hs 5
  have ks6 := blk_cell hs 6
  have ks7 := blk_cell hs 7
  have ks8 := blk_cell hs 8
  go_wp2
  refine wp_loop_rounds 1 ?_
  rw [rounds_succ]
  go_wp2
  refine bodyPost_ret (results_ct rfl _ _ w.heap.size 34 #[.string ⟨#[]⟩, .int .i64 2, .int .i64 0, .int .u64 0, .int .u64 0, .slice none 0 0, .bool false, .int .i64 0, .slice (some ⟨gR, 0, none⟩) 2 2] (0, 0) _ rfl kb8 Tryd.underlying34 rfl (by kernel_rfl)) rfl ?_
  exact ⟨⟨gR, gP, gC, gU, rfl, (blk_far (blk_far (blk_far (blk_far (blk_far (blk_far (blk_far (blk_far (blk_far hR2 (Nat.ne_of_gt kR) _) (Nat.ne_of_gt kR) _) (Nat.ne_of_gt kR) _) (Nat.ne_of_gt kR) _) (Nat.ne_of_gt kR) _) (Nat.ne_of_gt kR) _) (Nat.ne_of_gt kR) _) (Nat.ne_of_gt kR) _) (Nat.ne_of_gt kR) _), (blk_far (blk_far (blk_far (blk_far (blk_far (blk_far (blk_far (blk_far (blk_far hP2 (Nat.ne_of_gt kP) _) (Nat.ne_of_gt kP) _) (Nat.ne_of_gt kP) _) (Nat.ne_of_gt kP) _) (Nat.ne_of_gt kP) _) (Nat.ne_of_gt kP) _) (Nat.ne_of_gt kP) _) (Nat.ne_of_gt kP) _) (Nat.ne_of_gt kP) _), (blk_far (blk_far (blk_far (blk_far (blk_far (blk_far (blk_far (blk_far (blk_far hC2 (Nat.ne_of_gt kC) _) (Nat.ne_of_gt kC) _) (Nat.ne_of_gt kC) _) (Nat.ne_of_gt kC) _) (Nat.ne_of_gt kC) _) (Nat.ne_of_gt kC) _) (Nat.ne_of_gt kC) _) (Nat.ne_of_gt kC) _) (Nat.ne_of_gt kC) _), (blk_far (blk_far (blk_far (blk_far (blk_far (blk_far (blk_far (blk_far (blk_far hU2 (Nat.ne_of_gt kU) _) (Nat.ne_of_gt kU) _) (Nat.ne_of_gt kU) _) (Nat.ne_of_gt kU) _) (Nat.ne_of_gt kU) _) (Nat.ne_of_gt kU) _) (Nat.ne_of_gt kU) _) (Nat.ne_of_gt kU) _) (Nat.ne_of_gt kU) _), Nat.le_of_lt kR, Nat.le_of_lt kP, Nat.le_of_lt kC, Nat.le_of_lt kU⟩, (below_set (below_set (below_set (below_set (below_set (below_set (below_set (below_set (below_set hB (Nat.le_refl _)) (Nat.le_refl _)) (Nat.le_refl _)) (Nat.le_refl _)) (Nat.le_refl _)) (Nat.le_refl _)) (Nat.le_refl _)) (Nat.le_refl _)) (Nat.le_refl _))⟩
end Go.Proofs.YtbbkchclefkikaaDoor.Spec
