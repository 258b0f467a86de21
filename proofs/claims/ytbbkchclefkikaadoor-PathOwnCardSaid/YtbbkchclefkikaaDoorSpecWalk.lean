import Derived.Test.YtbbkchclefkikaaDoorProg
import Derived.Below
import Derived.Deep.Draws
import Derived.Deep.AppendLies
import Derived.Maps.AppendAt
import Derived.OwnWalk
import Derived.Laws.BytesArg
import Derived.Laws.MakeOwn
import Derived.Laws.OwnMore
import Derived.Deep.OwnRows
import Derived.Tactics
import Derived.Lib.ConvBytes
import Derived.Laws.Slices
import Derived.WalkKit
import Derived.KernelRfl
import Derived.RowKit3
import Derived.Deep.LoopGhost
import Derived.Deep.QuietTactic
import Derived.BigQuiet
import Derived.WideLaws
import Derived.Deep.DeepCutAuto
import Derived.Deep.CutBlock
import Derived.Deep.RegionHeld3
import Derived.Laws.Rows
import Derived.Lib.AppendStr
import Derived.ArgAppend
import Derived.Laws.IdiomCopy
import Derived.OrdersHeld
import Derived.Laws.BitsLemmas
import Derived.RowKit
import Derived.Test.YtbbkchclefkikaaDoorWWords
import Derived.Test.YtbbkchclefkikaaDoorWLast
import Derived.Test.YtbbkchclefkikaaDoorWTab
import Derived.Test.YtbbkchclefkikaaDoorWFour
import Derived.Test.YtbbkchclefkikaaDoorWQPut
import Derived.Test.YtbbkchclefkikaaDoorWApart
import Derived.Test.YtbbkchclefkikaaDoorWArr
import Derived.Test.YtbbkchclefkikaaDoorWZeros
import Derived.Test.YtbbkchclefkikaaDoorWFoot
import Derived.Test.YtbbkchclefkikaaDoorWKept
import Derived.Test.YtbbkchclefkikaaDoorWShare
import Derived.Test.YtbbkchclefkikaaDoorWN
import Derived.Test.YtbbkchclefkikaaDoorWFootNe
import Derived.Test.YtbbkchclefkikaaDoorWAt
import Derived.Test.YtbbkchclefkikaaDoorWEqStruct
import Derived.Test.YtbbkchclefkikaaDoorWRepsOne
import Derived.Test.YtbbkchclefkikaaDoorWInv
import Derived.Test.YtbbkchclefkikaaDoorWInvWords
import Derived.Test.YtbbkchclefkikaaDoorWGuard
import Derived.Test.YtbbkchclefkikaaDoorWNEv
import Derived.Test.YtbbkchclefkikaaDoorWMore
namespace Go.Proofs.YtbbkchclefkikaaDoor.Spec
open Go.RowKit Go.Proofs.YtbbkchclefkikaaDoorW.PrintWords Go.Proofs.YtbbkchclefkikaaDoorW.PrintLast Go.Proofs.YtbbkchclefkikaaDoorW.PrintMore
set_option linter.unusedVariables false
set_option linter.unusedSimpArgs false
set_option maxHeartbeats 4000000
set_option maxRecDepth 100000

theorem from_calls (lo hi : Int) (w : World) :
    Calls Tryd.prog 56 #[.int .u64 lo, .int .u64 hi] w fun e w' => (∃ g1 g2 : Nat, e = .returned (.func (.func 69) #[] #[.pointer (some ⟨g1, 0, none⟩), .pointer (some ⟨g2, 0, none⟩)]) ∧ w'.heap[g1]? = some (.cells #[.int .u64 lo] 30 (0,0)) ∧ w'.heap[g2]? = some (.cells #[.int .u64 hi] 30 (0,0)) ∧ w.heap.size ≤ g1 ∧ w.heap.size ≤ g2) ∧ Below w.heap.size w w' := by
  go_enter Tryd.func56, Tryd.ntmps56
  go_wp2
  go_ret
  refine ⟨⟨_, _, rfl, ?_, ?_, Nat.le_refl _, Nat.le_succ _⟩, below_alloc (below_alloc (Below.refl _ _) _) _⟩
  · exact blk_below (blk_new w _) (below_alloc (Below.refl _ _) _)
  · simpa using blk_new (w.alloc (Obj.cells #[Value.int IntKind.u64 lo] 30)) (Obj.cells #[Value.int IntKind.u64 hi] 30)

/-- A spec in memory. -/
def Blk (W : World) (g : Nat) (cs : Array Value) : Prop := W.heap[g]? = some (.cells cs 34 (0, 0))

theorem must_calls (g : Nat) (a b c d e f s h i : Value) (w : World) (H : Blk w g #[a, b, c, d, e, f, s, h, i]) :
    Calls Tryd.prog 57 #[.pointer (some ⟨g, 0, none⟩)] w fun r w' => r = .returned (.tuple #[]) ∧ w' = w.setCell ⟨g, 6, none⟩ (.bool true) := by
  have h6 : w.cell? ⟨g, 6, none⟩ = some s := (blk_cell H 6).trans rfl
  have f6 := blk_frozen H 6
  go_enter Tryd.func57, Tryd.ntmps57
  go_wp2
  first | go_end0 | ((try simp only [Exit.inBlock, Exit.then]); refine bodyPost_ret (results_none rfl _ _ _) rfl ?_)
  exact ⟨rfl, rfl⟩

theorem blk_set_ {W : World} {g k : Nat} {cs cs' : Array Value} {t : TypeId} (h : W.heap[g]? = some (.cells cs t (0, 0))) (v : Value) (he : cs.setIfInBounds k v = cs') : (W.setCell ⟨g, k, none⟩ v).heap[g]? = some (.cells cs' t (0, 0)) := by
  subst he; simpa using blk_set h k v
theorem from1_calls (g g1 g2 : Nat) (lo hi : Int) (a b c d e f s h i : Value) (w : World) (H : Blk w g #[a, b, c, d, e, f, s, h, i])
    (hL : w.heap[g1]? = some (.cells #[.int .u64 lo] 30 (0, 0))) (hH : w.heap[g2]? = some (.cells #[.int .u64 hi] 30 (0, 0))) (h1 : g1 ≠ g) (h2 : g2 ≠ g) :
    Calls Tryd.prog 69 #[.pointer (some ⟨g, 0, none⟩), .pointer (some ⟨g1, 0, none⟩), .pointer (some ⟨g2, 0, none⟩)] w fun r w' => r = .returned (.tuple #[]) ∧ w' = (w.drew.setCell ⟨g, 3, none⟩ (.int .u64 lo)).setCell ⟨g, 4, none⟩ (.int .u64 hi) := by
  have hL0 : w.drew.heap[g1]? = some (.cells #[.int .u64 lo] 30 (0, 0)) := hL
  have hH0 : w.drew.heap[g2]? = some (.cells #[.int .u64 hi] 30 (0, 0)) := hH
  have hS0 : w.drew.heap[g]? = some (.cells #[a, b, c, d, e, f, s, h, i] 34 (0, 0)) := H
  have hL1 := blk_far hL0 (p := ⟨g, 3, none⟩) h1 (.int .u64 lo)
  have hH1 := blk_far hH0 (p := ⟨g, 3, none⟩) h2 (.int .u64 lo)
  have hS1 := blk_set_ hS0 (.int .u64 lo) (k := 3) rfl
  have hL2 := blk_far hL1 (p := ⟨g, 4, none⟩) h1 (.int .u64 hi)
  have hH2 := blk_far hH1 (p := ⟨g, 4, none⟩) h2 (.int .u64 hi)
  have c3 : w.drew.cell? ⟨g, 3, none⟩ = some d := (blk_cell hS0 3).trans rfl
  have f3 := blk_frozen hS0 3
  have c4 := (blk_cell hS1 4).trans rfl
  have f4 := blk_frozen hS1 4
  have k3 : w.cell? ⟨g, 3, none⟩ = some d := (blk_cell H 3).trans rfl
  have k4 : w.cell? ⟨g, 4, none⟩ = some e := (blk_cell H 4).trans rfl
  have e3 := blk_frozen H 3
  have e4 := blk_frozen H 4
  go_enter Tryd.func69, Tryd.ntmps69
  go_wp2
  refine start_ (n := 10) (S := fun w' => w'.cell? ⟨g1, 0, none⟩ = some (.int .u64 lo) ∧ w'.cell? ⟨g2, 0, none⟩ = some (.int .u64 hi)) (ds := []) #[false, false, false, false, false, false, false, false, false, false] (by kernel_rfl) rfl rfl ⟨(blk_cell hL0 0).trans rfl, (blk_cell hH0 0).trans rfl⟩ (fun hHeld => ?_)
  refine pure_ (i := 0) (N := some 4) (v := ?_) (a' := ?_) #[true, false, false, false, false, false, false, false, false, false] rfl rfl (by kernel_rfl) (fun _ _ _ h => h) (Or.inl ⟨by rfl, ?_⟩) ?_ ?_
  rotate_left
  · intro w'
    go_simp
    with_reducible rfl
  rotate_left
  · simp only [Act.put, List.setIfInBounds_toArray, List.set_cons_zero, List.set_cons_succ, i64_w, i32_w]
    rfl
  refine pure_ (i := 1) (N := some 5) (v := ?_) (a' := ?_) #[true, true, false, false, false, false, false, false, false, false] rfl rfl (by kernel_rfl) (fun _ _ _ h => h) (Or.inl ⟨by rfl, ?_⟩) ?_ ?_
  rotate_left
  · intro w'
    go_simp
    with_reducible rfl
  rotate_left
  · simp only [Act.put, List.setIfInBounds_toArray, List.set_cons_zero, List.set_cons_succ, i64_w, i32_w]
    rfl
  refine take_ (i := 2) (N := some 6) (v := ?_) (a' := ?_) #[true, true, true, false, false, false, false, false, false, false] rfl rfl (by kernel_rfl) (fun _ _ _ h => h) (Or.inl ⟨by rfl, ?_⟩) hHeld ?_ ?_
  rotate_left
  · rintro w' ⟨s0, s1⟩
    go_simp
    with_reducible rfl
  rotate_left
  · simp only [Act.put, List.setIfInBounds_toArray, List.set_cons_zero, List.set_cons_succ, i64_w, i32_w]
    rfl
  refine pure_ (i := 4) (N := some 8) (v := ?_) (a' := ?_) #[true, true, true, false, true, false, false, false, false, false] rfl rfl (by kernel_rfl) (fun _ _ _ h => h) (Or.inl ⟨by rfl, ?_⟩) ?_ ?_
  rotate_left
  · intro w'
    go_simp
    with_reducible rfl
  rotate_left
  · simp only [Act.put, List.setIfInBounds_toArray, List.set_cons_zero, List.set_cons_succ, i64_w, i32_w]
    rfl
  refine pure_ (i := 5) (N := some 9) (v := ?_) (a' := ?_) #[true, true, true, false, true, true, false, false, false, false] rfl rfl (by kernel_rfl) (fun _ _ _ h => h) (Or.inl ⟨by rfl, ?_⟩) ?_ ?_
  rotate_left
  · intro w'
    go_simp
    with_reducible rfl
  rotate_left
  · simp only [Act.put, List.setIfInBounds_toArray, List.set_cons_zero, List.set_cons_succ, i64_w, i32_w]
    rfl
  refine take_ (i := 3) (N := some 7) (v := ?_) (a' := ?_) #[true, true, true, true, true, true, false, false, false, false] rfl rfl (by kernel_rfl) (fun _ _ _ h => h) (Or.inl ⟨by rfl, ?_⟩) hHeld ?_ ?_
  rotate_left
  · rintro w' ⟨s0, s1⟩
    go_simp
    with_reducible rfl
  rotate_left
  · simp only [Act.put, List.setIfInBounds_toArray, List.set_cons_zero, List.set_cons_succ, i64_w, i32_w]
    rfl
  refine one_ (i := 6) (N := none) #[true, true, true, true, true, true, true, false, false, false] rfl rfl (by kernel_rfl) (by decide) (fun K hK => ?_)
  refine skip_ (w1 := ?_) (by rfl) rfl ?_ ?_
  rotate_left
  · go_simp
    rfl
  refine hK.out _ _ ⟨(blk_cell hL1 0).trans rfl, (blk_cell hH1 0).trans rfl⟩ (fun hHeld => ?_)
  clear hK K
  refine pure_ (i := 7) (N := some 10) (v := ?_) (a' := ?_) #[true, true, true, true, true, true, true, true, false, false] rfl rfl (by kernel_rfl) (fun _ _ _ h => h) (Or.inl ⟨by rfl, ?_⟩) ?_ ?_
  rotate_left
  · intro w'
    go_simp
    with_reducible rfl
  rotate_left
  · simp only [Act.put, List.setIfInBounds_toArray, List.set_cons_zero, List.set_cons_succ, i64_w, i32_w]
    rfl
  refine pure_ (i := 8) (N := some 11) (v := ?_) (a' := ?_) #[true, true, true, true, true, true, true, true, true, false] rfl rfl (by kernel_rfl) (fun _ _ _ h => h) (Or.inl ⟨by rfl, ?_⟩) ?_ ?_
  rotate_left
  · intro w'
    go_simp
    with_reducible rfl
  rotate_left
  · simp only [Act.put, List.setIfInBounds_toArray, List.set_cons_zero, List.set_cons_succ, i64_w, i32_w]
    rfl
  refine one_ (i := 9) (N := none) #[true, true, true, true, true, true, true, true, true, true] rfl rfl (by kernel_rfl) (by decide) (fun K hK => ?_)
  refine skip_ (w1 := ?_) (by rfl) rfl ?_ ?_
  rotate_left
  · go_simp
    rfl
  refine hK.out _ _ ⟨(blk_cell hL2 0).trans rfl, (blk_cell hH2 0).trans rfl⟩ (fun hHeld => ?_)
  clear hK K
  refine done_ (by kernel_rfl) ?_

  first | go_end0 | ((try simp only [Exit.inBlock, Exit.then]); refine bodyPost_ret (results_none rfl _ _ _) rfl ?_)
  exact ⟨rfl, rfl⟩
theorem blkN_ (w : World) (o : Obj) (cs : Array Value) : Blk ((w.alloc o).alloc (.cells cs 34)) (w.heap.size + 1) cs := by
  have := blk_new (w.alloc o) (.cells cs 34)
  simpa [Blk] using this
theorem blk2_ {w : World} {g : Nat} {cs : Array Value} {t : TypeId} (h : w.heap[g]? = some (.cells cs t (0, 0))) (o o' : Obj) : ((w.alloc o).alloc o').heap[g]? = some (.cells cs t (0, 0)) := blk_below h (below_alloc (below_alloc (Below.refl _ _) _) _)
def FV (g1 g2 : Nat) : Value := .func (.func 69) #[] #[.pointer (some ⟨g1, 0, none⟩), .pointer (some ⟨g2, 0, none⟩)]
theorem leaf0_calls (nm : ByteArray) (k : Int) (w : World) :
    Calls Tryd.prog 55 #[.string nm, .int .i64 k, .slice none 0 0] w fun r w' => r = .returned (.agg #[.string nm, .int .i64 1, .int .i64 k, .int .u64 0, .int .u64 0, .slice none 0 0, .bool false, .int .i64 0, .slice none 0 0]) ∧ Below w.heap.size w w' := by
  have t0I : decide ((0 : Int) < 0) = false := by decide
  have t0N : decide ((0 : Nat) < 0) = false := by decide
  go_enter Tryd.func55, Tryd.ntmps55
  go_wp2
  refine wp_loop_rounds 1 ?_
  rw [rounds_succ]
  go_wp2
  refine bodyPost_ret (results_cell_row rfl _ _ w.heap.size 34 #[.string nm, .int .i64 1, .int .i64 k, .int .u64 0, .int .u64 0, .slice none 0 0, .bool false, .int .i64 0, .slice none 0 0] (0, 0) _ rfl ?_ Tryd.underlying34 rfl (by kernel_rfl)) rfl ?_
  · repeat (first | exact blk_below (blk_new w _) (below_alloc (Below.refl _ _) _) | refine blk_drew ?_ | refine blk_drewN ?_ _)
  refine ⟨rfl, ?_⟩
  repeat (first | exact below_alloc (below_alloc (Below.refl _ _) _) _ | apply below_drew1 | apply pw_below_drewN)
theorem leafM_calls (nm : ByteArray) (k : Int) (ad : Addr) (cp : Nat) (w : World) (hc : w.cell? ad = some (.func (.func 57) #[] #[])) (hb : ad.block < w.heap.size) :
    Calls Tryd.prog 55 #[.string nm, .int .i64 k, .slice (some ad) 1 cp] w fun r w' => r = .returned (.agg #[.string nm, .int .i64 1, .int .i64 k, .int .u64 0, .int .u64 0, .slice none 0 0, .bool true, .int .i64 0, .slice none 0 0]) ∧ Below w.heap.size w w' := by
  have t0I : decide ((0 : Int) < 1) = true := by decide
  have t0N : decide ((0 : Nat) < 1) = true := by decide
  have t1I : decide ((1 : Int) < 1) = false := by decide
  have t1N : decide ((1 : Nat) < 1) = false := by decide
  go_enter Tryd.func55, Tryd.ntmps55
  go_wp2
  refine wp_loop_rounds 2 ?_
  rw [rounds_succ]
  go_wp2_with (fail)
  refine (must_calls (w.heap.size + 1) _ _ _ _ _ _ _ _ _ _ (blkN_ _ _ _)).mono ?_
  rintro e w' ⟨rfl, rfl⟩
  go_wp2
  rw [rounds_succ]
  go_wp2
  refine bodyPost_ret (results_cell_row rfl _ _ w.heap.size 34 #[.string nm, .int .i64 1, .int .i64 k, .int .u64 0, .int .u64 0, .slice none 0 0, .bool true, .int .i64 0, .slice none 0 0] (0, 0) _ rfl ?_ Tryd.underlying34 rfl (by kernel_rfl)) rfl ?_
  · repeat (first | exact blk_below (blk_new w _) (below_alloc (Below.refl _ _) _) | refine blk_drew ?_ | refine blk_drewN ?_ _)
  refine ⟨rfl, ?_⟩
  repeat (first | exact below_alloc (below_alloc (Below.refl _ _) _) _ | apply below_drew1 | apply pw_below_drewN)
theorem leafF_calls (nm : ByteArray) (k : Int) (ad : Addr) (cp : Nat) (g1 g2 : Nat) (lo hi : Int) (w : World) (hc : w.cell? ad = some (.func (.func 69) #[] #[.pointer (some ⟨g1, 0, none⟩), .pointer (some ⟨g2, 0, none⟩)])) (hb : ad.block < w.heap.size) (hL : w.heap[g1]? = some (.cells #[.int .u64 lo] 30 (0, 0))) (hH : w.heap[g2]? = some (.cells #[.int .u64 hi] 30 (0, 0))) :
    Calls Tryd.prog 55 #[.string nm, .int .i64 k, .slice (some ad) 1 cp] w fun r w' => r = .returned (.agg #[.string nm, .int .i64 1, .int .i64 k, .int .u64 lo, .int .u64 hi, .slice none 0 0, .bool false, .int .i64 0, .slice none 0 0]) ∧ Below w.heap.size w w' := by
  have t0I : decide ((0 : Int) < 1) = true := by decide
  have t0N : decide ((0 : Nat) < 1) = true := by decide
  have t1I : decide ((1 : Int) < 1) = false := by decide
  have t1N : decide ((1 : Nat) < 1) = false := by decide
  go_enter Tryd.func55, Tryd.ntmps55
  go_wp2
  refine wp_loop_rounds 2 ?_
  rw [rounds_succ]
  go_wp2_with (fail)
  refine (from1_calls (w.heap.size + 1) g1 g2 lo hi _ _ _ _ _ _ _ _ _ _ (blkN_ _ _ _) (blk2_ hL _ _) (blk2_ hH _ _) (by have := blk_lt hL; omega) (by have := blk_lt hH; omega)).mono ?_
  rintro e w' ⟨rfl, rfl⟩
  go_wp2
  rw [rounds_succ]
  go_wp2
  refine bodyPost_ret (results_cell_row rfl _ _ w.heap.size 34 #[.string nm, .int .i64 1, .int .i64 k, .int .u64 lo, .int .u64 hi, .slice none 0 0, .bool false, .int .i64 0, .slice none 0 0] (0, 0) _ rfl ?_ Tryd.underlying34 rfl (by kernel_rfl)) rfl ?_
  · repeat (first | exact blk_below (blk_new w _) (below_alloc (Below.refl _ _) _) | refine blk_drew ?_ | refine blk_drewN ?_ _)
  refine ⟨rfl, ?_⟩
  repeat (first | exact below_alloc (below_alloc (Below.refl _ _) _) _ | apply below_drew1 | apply pw_below_drewN)
theorem leafFM_calls (nm : ByteArray) (k : Int) (ad : Addr) (cp : Nat) (g1 g2 : Nat) (lo hi : Int) (w : World) (hc : w.cell? ad = some (.func (.func 69) #[] #[.pointer (some ⟨g1, 0, none⟩), .pointer (some ⟨g2, 0, none⟩)])) (hb : ad.block < w.heap.size) (hL : w.heap[g1]? = some (.cells #[.int .u64 lo] 30 (0, 0))) (hH : w.heap[g2]? = some (.cells #[.int .u64 hi] 30 (0, 0))) (hc1 : w.cell? ⟨ad.block, ad.off + 1, none⟩ = some (.func (.func 57) #[] #[])) :
    Calls Tryd.prog 55 #[.string nm, .int .i64 k, .slice (some ad) 2 cp] w fun r w' => r = .returned (.agg #[.string nm, .int .i64 1, .int .i64 k, .int .u64 lo, .int .u64 hi, .slice none 0 0, .bool true, .int .i64 0, .slice none 0 0]) ∧ Below w.heap.size w w' := by
  have t0I : decide ((0 : Int) < 2) = true := by decide
  have t0N : decide ((0 : Nat) < 2) = true := by decide
  have t1I : decide ((1 : Int) < 2) = true := by decide
  have t1N : decide ((1 : Nat) < 2) = true := by decide
  have t2I : decide ((2 : Int) < 2) = false := by decide
  have t2N : decide ((2 : Nat) < 2) = false := by decide
  go_enter Tryd.func55, Tryd.ntmps55
  go_wp2
  refine wp_loop_rounds 3 ?_
  rw [rounds_succ]
  go_wp2_with (fail)
  refine (from1_calls (w.heap.size + 1) g1 g2 lo hi _ _ _ _ _ _ _ _ _ _ (blkN_ _ _ _) (blk2_ hL _ _) (blk2_ hH _ _) (by have := blk_lt hL; omega) (by have := blk_lt hH; omega)).mono ?_
  rintro e w' ⟨rfl, rfl⟩
  go_wp2
  rw [rounds_succ]
  go_wp2_with (fail)
  refine (must_calls (w.heap.size + 1) (.string nm) (.int .i64 1) (.int .i64 k) (.int .u64 lo) (.int .u64 hi) (.slice none 0 0) (.bool false) (.int .i64 0) (.slice none 0 0) _ ?hb).mono ?_
  case hb => first | exact blkN_ _ _ _ | exact blk_drew (blkN_ _ _ _) | exact blk_drewN (blkN_ _ _ _) _ | (trace_state; simpa [Blk] using blkN_ w _ _)
  rintro e w' ⟨rfl, rfl⟩
  go_wp2
  rw [rounds_succ]
  go_wp2
  refine bodyPost_ret (results_cell_row rfl _ _ w.heap.size 34 #[.string nm, .int .i64 1, .int .i64 k, .int .u64 lo, .int .u64 hi, .slice none 0 0, .bool true, .int .i64 0, .slice none 0 0] (0, 0) _ rfl ?_ Tryd.underlying34 rfl (by kernel_rfl)) rfl ?_
  · repeat (first | exact blk_below (blk_new w _) (below_alloc (Below.refl _ _) _) | refine blk_drew ?_ | refine blk_drewN ?_ _)
  refine ⟨rfl, ?_⟩
  repeat (first | exact below_alloc (below_alloc (Below.refl _ _) _) _ | apply below_drew1 | apply pw_below_drewN)
theorem of_calls (A : Option Addr) (n c : Nat) (w : World) :
    Calls Tryd.prog 61 #[.slice A n c] w fun e w' => (∃ g1 : Nat, e = .returned (.func (.func 70) #[] #[.pointer (some ⟨g1, 0, none⟩)]) ∧ w'.heap[g1]? = some (.cells #[.slice A n c] 31 (0,0)) ∧ w.heap.size ≤ g1) ∧ Below w.heap.size w w' := by
  go_enter Tryd.func61, Tryd.ntmps61
  go_wp2
  go_ret
  exact ⟨⟨_, rfl, blk_new w _, Nat.le_refl _⟩, below_alloc (Below.refl _ _) _⟩
theorem of1_calls (g g1 : Nat) (A : Option Addr) (n cc : Nat) (a b c d e f s h i : Value) (w : World) (H : Blk w g #[a, b, c, d, e, f, s, h, i])
    (hL : w.heap[g1]? = some (.cells #[.slice A n cc] 31 (0, 0))) :
    Calls Tryd.prog 70 #[.pointer (some ⟨g, 0, none⟩), .pointer (some ⟨g1, 0, none⟩)] w fun r w' => r = .returned (.tuple #[]) ∧ w' = w.setCell ⟨g, 5, none⟩ (.slice A n cc) := by
  have h5 : w.cell? ⟨g, 5, none⟩ = some f := (blk_cell H 5).trans rfl
  have f5 := blk_frozen H 5
  have l0 : w.cell? ⟨g1, 0, none⟩ = some (.slice A n cc) := (blk_cell hL 0).trans rfl
  go_enter Tryd.func70, Tryd.ntmps70
  go_wp2
  first | go_end0 | ((try simp only [Exit.inBlock, Exit.then]); refine bodyPost_ret (results_none rfl _ _ _) rfl ?_)
  exact ⟨rfl, rfl⟩
theorem leafO_calls (nm : ByteArray) (k : Int) (ad : Addr) (cp : Nat) (g1 : Nat) (A : Option Addr) (n c : Nat) (w : World) (hc : w.cell? ad = some (.func (.func 70) #[] #[.pointer (some ⟨g1, 0, none⟩)])) (hb : ad.block < w.heap.size) (hL : w.heap[g1]? = some (.cells #[.slice A n c] 31 (0, 0))) :
    Calls Tryd.prog 55 #[.string nm, .int .i64 k, .slice (some ad) 1 cp] w fun r w' => r = .returned (.agg #[.string nm, .int .i64 1, .int .i64 k, .int .u64 0, .int .u64 0, .slice A n c, .bool false, .int .i64 0, .slice none 0 0]) ∧ Below w.heap.size w w' := by
  have t0I : decide ((0 : Int) < 1) = true := by decide
  have t0N : decide ((0 : Nat) < 1) = true := by decide
  have t1I : decide ((1 : Int) < 1) = false := by decide
  have t1N : decide ((1 : Nat) < 1) = false := by decide
  go_enter Tryd.func55, Tryd.ntmps55
  go_wp2
  refine wp_loop_rounds 2 ?_
  rw [rounds_succ]
  go_wp2_with (fail)
  refine (of1_calls (w.heap.size + 1) g1 A n c _ _ _ _ _ _ _ _ _ _ (blkN_ _ _ _) (blk2_ hL _ _)).mono ?_
  rintro e w' ⟨rfl, rfl⟩
  go_wp2
  rw [rounds_succ]
  go_wp2
  refine bodyPost_ret (results_cell_row rfl _ _ w.heap.size 34 #[.string nm, .int .i64 1, .int .i64 k, .int .u64 0, .int .u64 0, .slice A n c, .bool false, .int .i64 0, .slice none 0 0] (0, 0) _ rfl ?_ Tryd.underlying34 rfl (by kernel_rfl)) rfl ?_
  · repeat (first | exact blk_below (blk_new w _) (below_alloc (Below.refl _ _) _) | refine blk_drew ?_ | refine blk_drewN ?_ _)
  refine ⟨rfl, ?_⟩
  repeat (first | exact below_alloc (below_alloc (Below.refl _ _) _) _ | apply below_drew1 | apply pw_below_drewN)
end Go.Proofs.YtbbkchclefkikaaDoor.Spec
