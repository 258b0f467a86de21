-- laid by a program of this session (pp.sh) out of the translation
import Derived.Test.YtbbkchclefkikaaDoorQPathx0
import Derived.Test.YtbbkchclefkikaaDoorQPathx1
import Derived.Test.YtbbkchclefkikaaDoorQPathx2
import Derived.Test.YtbbkchclefkikaaDoorQPathx3
namespace Go.Proofs.YtbbkchclefkikaaDoor.QPath
open Go.RowKit Go.Proofs.YtbbkchclefkikaaDoorW.PrintWords Go.Proofs.YtbbkchclefkikaaDoorW.PrintLast Go.Proofs.YtbbkchclefkikaaDoorW.PrintMore
attribute [local go_sem] max2_int min2_int max_two min_two max_three min_three max_four min_four   -- for this text's walks alone
set_option linter.unusedVariables false
set_option linter.unusedSimpArgs false

attribute [local go_sem high] eqA46
/-! ### path_At: function 12 -/
theorem set9_facts {W : World} {p : Nat} {z0 z1 z2 z3 z4 z5 z6 z7 z8 : Value} {t : TypeId} (h : W.heap[p]? = some (.cells #[z0, z1, z2, z3, z4, z5, z6, z7, z8] t (0, 0))) (v0 v1 v2 v3 v4 v5 v6 v7 v8 : Value) :
    (W.cell? ⟨p, 0, none⟩ = some z0 ∧ W.frozen? ⟨p, 0, none⟩ = false) ∧ ((W.setCell ⟨p, 0, none⟩ v0).cell? ⟨p, 1, none⟩ = some z1 ∧ (W.setCell ⟨p, 0, none⟩ v0).frozen? ⟨p, 1, none⟩ = false) ∧ (((W.setCell ⟨p, 0, none⟩ v0).setCell ⟨p, 1, none⟩ v1).cell? ⟨p, 2, none⟩ = some z2 ∧ ((W.setCell ⟨p, 0, none⟩ v0).setCell ⟨p, 1, none⟩ v1).frozen? ⟨p, 2, none⟩ = false) ∧ ((((W.setCell ⟨p, 0, none⟩ v0).setCell ⟨p, 1, none⟩ v1).setCell ⟨p, 2, none⟩ v2).cell? ⟨p, 3, none⟩ = some z3 ∧ (((W.setCell ⟨p, 0, none⟩ v0).setCell ⟨p, 1, none⟩ v1).setCell ⟨p, 2, none⟩ v2).frozen? ⟨p, 3, none⟩ = false) ∧ (((((W.setCell ⟨p, 0, none⟩ v0).setCell ⟨p, 1, none⟩ v1).setCell ⟨p, 2, none⟩ v2).setCell ⟨p, 3, none⟩ v3).cell? ⟨p, 4, none⟩ = some z4 ∧ ((((W.setCell ⟨p, 0, none⟩ v0).setCell ⟨p, 1, none⟩ v1).setCell ⟨p, 2, none⟩ v2).setCell ⟨p, 3, none⟩ v3).frozen? ⟨p, 4, none⟩ = false) ∧ ((((((W.setCell ⟨p, 0, none⟩ v0).setCell ⟨p, 1, none⟩ v1).setCell ⟨p, 2, none⟩ v2).setCell ⟨p, 3, none⟩ v3).setCell ⟨p, 4, none⟩ v4).cell? ⟨p, 5, none⟩ = some z5 ∧ (((((W.setCell ⟨p, 0, none⟩ v0).setCell ⟨p, 1, none⟩ v1).setCell ⟨p, 2, none⟩ v2).setCell ⟨p, 3, none⟩ v3).setCell ⟨p, 4, none⟩ v4).frozen? ⟨p, 5, none⟩ = false) ∧ (((((((W.setCell ⟨p, 0, none⟩ v0).setCell ⟨p, 1, none⟩ v1).setCell ⟨p, 2, none⟩ v2).setCell ⟨p, 3, none⟩ v3).setCell ⟨p, 4, none⟩ v4).setCell ⟨p, 5, none⟩ v5).cell? ⟨p, 6, none⟩ = some z6 ∧ ((((((W.setCell ⟨p, 0, none⟩ v0).setCell ⟨p, 1, none⟩ v1).setCell ⟨p, 2, none⟩ v2).setCell ⟨p, 3, none⟩ v3).setCell ⟨p, 4, none⟩ v4).setCell ⟨p, 5, none⟩ v5).frozen? ⟨p, 6, none⟩ = false) ∧ ((((((((W.setCell ⟨p, 0, none⟩ v0).setCell ⟨p, 1, none⟩ v1).setCell ⟨p, 2, none⟩ v2).setCell ⟨p, 3, none⟩ v3).setCell ⟨p, 4, none⟩ v4).setCell ⟨p, 5, none⟩ v5).setCell ⟨p, 6, none⟩ v6).cell? ⟨p, 7, none⟩ = some z7 ∧ (((((((W.setCell ⟨p, 0, none⟩ v0).setCell ⟨p, 1, none⟩ v1).setCell ⟨p, 2, none⟩ v2).setCell ⟨p, 3, none⟩ v3).setCell ⟨p, 4, none⟩ v4).setCell ⟨p, 5, none⟩ v5).setCell ⟨p, 6, none⟩ v6).frozen? ⟨p, 7, none⟩ = false) ∧ (((((((((W.setCell ⟨p, 0, none⟩ v0).setCell ⟨p, 1, none⟩ v1).setCell ⟨p, 2, none⟩ v2).setCell ⟨p, 3, none⟩ v3).setCell ⟨p, 4, none⟩ v4).setCell ⟨p, 5, none⟩ v5).setCell ⟨p, 6, none⟩ v6).setCell ⟨p, 7, none⟩ v7).cell? ⟨p, 8, none⟩ = some z8 ∧ ((((((((W.setCell ⟨p, 0, none⟩ v0).setCell ⟨p, 1, none⟩ v1).setCell ⟨p, 2, none⟩ v2).setCell ⟨p, 3, none⟩ v3).setCell ⟨p, 4, none⟩ v4).setCell ⟨p, 5, none⟩ v5).setCell ⟨p, 6, none⟩ v6).setCell ⟨p, 7, none⟩ v7).frozen? ⟨p, 8, none⟩ = false) ∧ (((((((((W.setCell ⟨p, 0, none⟩ v0).setCell ⟨p, 1, none⟩ v1).setCell ⟨p, 2, none⟩ v2).setCell ⟨p, 3, none⟩ v3).setCell ⟨p, 4, none⟩ v4).setCell ⟨p, 5, none⟩ v5).setCell ⟨p, 6, none⟩ v6).setCell ⟨p, 7, none⟩ v7).setCell ⟨p, 8, none⟩ v8).heap[p]? = some (.cells #[v0, v1, v2, v3, v4, v5, v6, v7, v8] t (0, 0)) := by
  have b0 : (W.setCell ⟨p, 0, none⟩ v0).heap[p]? = some (.cells #[v0, z1, z2, z3, z4, z5, z6, z7, z8] t (0, 0)) := Spec.blk_set_ h v0 rfl
  have b1 : ((W.setCell ⟨p, 0, none⟩ v0).setCell ⟨p, 1, none⟩ v1).heap[p]? = some (.cells #[v0, v1, z2, z3, z4, z5, z6, z7, z8] t (0, 0)) := Spec.blk_set_ b0 v1 rfl
  have b2 : (((W.setCell ⟨p, 0, none⟩ v0).setCell ⟨p, 1, none⟩ v1).setCell ⟨p, 2, none⟩ v2).heap[p]? = some (.cells #[v0, v1, v2, z3, z4, z5, z6, z7, z8] t (0, 0)) := Spec.blk_set_ b1 v2 rfl
  have b3 : ((((W.setCell ⟨p, 0, none⟩ v0).setCell ⟨p, 1, none⟩ v1).setCell ⟨p, 2, none⟩ v2).setCell ⟨p, 3, none⟩ v3).heap[p]? = some (.cells #[v0, v1, v2, v3, z4, z5, z6, z7, z8] t (0, 0)) := Spec.blk_set_ b2 v3 rfl
  have b4 : (((((W.setCell ⟨p, 0, none⟩ v0).setCell ⟨p, 1, none⟩ v1).setCell ⟨p, 2, none⟩ v2).setCell ⟨p, 3, none⟩ v3).setCell ⟨p, 4, none⟩ v4).heap[p]? = some (.cells #[v0, v1, v2, v3, v4, z5, z6, z7, z8] t (0, 0)) := Spec.blk_set_ b3 v4 rfl
  have b5 : ((((((W.setCell ⟨p, 0, none⟩ v0).setCell ⟨p, 1, none⟩ v1).setCell ⟨p, 2, none⟩ v2).setCell ⟨p, 3, none⟩ v3).setCell ⟨p, 4, none⟩ v4).setCell ⟨p, 5, none⟩ v5).heap[p]? = some (.cells #[v0, v1, v2, v3, v4, v5, z6, z7, z8] t (0, 0)) := Spec.blk_set_ b4 v5 rfl
  have b6 : (((((((W.setCell ⟨p, 0, none⟩ v0).setCell ⟨p, 1, none⟩ v1).setCell ⟨p, 2, none⟩ v2).setCell ⟨p, 3, none⟩ v3).setCell ⟨p, 4, none⟩ v4).setCell ⟨p, 5, none⟩ v5).setCell ⟨p, 6, none⟩ v6).heap[p]? = some (.cells #[v0, v1, v2, v3, v4, v5, v6, z7, z8] t (0, 0)) := Spec.blk_set_ b5 v6 rfl
  have b7 : ((((((((W.setCell ⟨p, 0, none⟩ v0).setCell ⟨p, 1, none⟩ v1).setCell ⟨p, 2, none⟩ v2).setCell ⟨p, 3, none⟩ v3).setCell ⟨p, 4, none⟩ v4).setCell ⟨p, 5, none⟩ v5).setCell ⟨p, 6, none⟩ v6).setCell ⟨p, 7, none⟩ v7).heap[p]? = some (.cells #[v0, v1, v2, v3, v4, v5, v6, v7, z8] t (0, 0)) := Spec.blk_set_ b6 v7 rfl
  have b8 : (((((((((W.setCell ⟨p, 0, none⟩ v0).setCell ⟨p, 1, none⟩ v1).setCell ⟨p, 2, none⟩ v2).setCell ⟨p, 3, none⟩ v3).setCell ⟨p, 4, none⟩ v4).setCell ⟨p, 5, none⟩ v5).setCell ⟨p, 6, none⟩ v6).setCell ⟨p, 7, none⟩ v7).setCell ⟨p, 8, none⟩ v8).heap[p]? = some (.cells #[v0, v1, v2, v3, v4, v5, v6, v7, v8] t (0, 0)) := Spec.blk_set_ b7 v8 rfl
  exact ⟨⟨(blk_cell h 0).trans rfl, blk_frozen h 0⟩, ⟨(blk_cell b0 1).trans rfl, blk_frozen b0 1⟩, ⟨(blk_cell b1 2).trans rfl, blk_frozen b1 2⟩, ⟨(blk_cell b2 3).trans rfl, blk_frozen b2 3⟩, ⟨(blk_cell b3 4).trans rfl, blk_frozen b3 4⟩, ⟨(blk_cell b4 5).trans rfl, blk_frozen b4 5⟩, ⟨(blk_cell b5 6).trans rfl, blk_frozen b5 6⟩, ⟨(blk_cell b6 7).trans rfl, blk_frozen b6 7⟩, ⟨(blk_cell b7 8).trans rfl, blk_frozen b7 8⟩, b8⟩
theorem far9 {W : World} {g p : Nat} {cs : Array Value} {t : TypeId} (h : W.heap[g]? = some (.cells cs t (0, 0))) (hg : g ≠ p) (v0 v1 v2 v3 v4 v5 v6 v7 v8 : Value) : (((((((((W.setCell ⟨p, 0, none⟩ v0).setCell ⟨p, 1, none⟩ v1).setCell ⟨p, 2, none⟩ v2).setCell ⟨p, 3, none⟩ v3).setCell ⟨p, 4, none⟩ v4).setCell ⟨p, 5, none⟩ v5).setCell ⟨p, 6, none⟩ v6).setCell ⟨p, 7, none⟩ v7).setCell ⟨p, 8, none⟩ v8).heap[g]? = some (.cells cs t (0, 0)) := (blk_far (blk_far (blk_far (blk_far (blk_far (blk_far (blk_far (blk_far (blk_far h hg v0) hg v1) hg v2) hg v3) hg v4) hg v5) hg v6) hg v7) hg v8)
theorem below9 {w W : World} {p : Nat} (h : Below w.heap.size w W) (hg : w.heap.size ≤ p) (v0 v1 v2 v3 v4 v5 v6 v7 v8 : Value) : Below w.heap.size w (((((((((W.setCell ⟨p, 0, none⟩ v0).setCell ⟨p, 1, none⟩ v1).setCell ⟨p, 2, none⟩ v2).setCell ⟨p, 3, none⟩ v3).setCell ⟨p, 4, none⟩ v4).setCell ⟨p, 5, none⟩ v5).setCell ⟨p, 6, none⟩ v6).setCell ⟨p, 7, none⟩ v7).setCell ⟨p, 8, none⟩ v8) := (below_set (below_set (below_set (below_set (below_set (below_set (below_set (below_set (below_set h hg) hg) hg) hg) hg) hg) hg) hg) hg)
theorem V_far9 {α : Type} {d : Kd α} {e base : Nat} {ok : Nat → Prop} {W : World} {v : Value} {xs : List α} {p : Nat} (h : Kd.V d e W base ok v xs) (hok : ∀ k, ok k → k ≠ p) (v0 v1 v2 v3 v4 v5 v6 v7 v8 : Value) : Kd.V d e (((((((((W.setCell ⟨p, 0, none⟩ v0).setCell ⟨p, 1, none⟩ v1).setCell ⟨p, 2, none⟩ v2).setCell ⟨p, 3, none⟩ v3).setCell ⟨p, 4, none⟩ v4).setCell ⟨p, 5, none⟩ v5).setCell ⟨p, 6, none⟩ v6).setCell ⟨p, 7, none⟩ v7).setCell ⟨p, 8, none⟩ v8) base ok v xs := (Kd.V_far (p := ⟨p, 8, none⟩) (Kd.V_far (p := ⟨p, 7, none⟩) (Kd.V_far (p := ⟨p, 6, none⟩) (Kd.V_far (p := ⟨p, 5, none⟩) (Kd.V_far (p := ⟨p, 4, none⟩) (Kd.V_far (p := ⟨p, 3, none⟩) (Kd.V_far (p := ⟨p, 2, none⟩) (Kd.V_far (p := ⟨p, 1, none⟩) (Kd.V_far (p := ⟨p, 0, none⟩) h hok v0) hok v1) hok v2) hok v3) hok v4) hok v5) hok v6) hok v7) hok v8)
theorem findIx_lt (l : List S34) (nm : ByteArray) (h : ¬ findIx l nm < 0) : findIx l nm < (l.length : Int) := by
  unfold findIx at h ⊢
  cases hf : l.findIdx? (fun x => x.f0.toList == nm.toList) with
  | none => rw [hf] at h; exact absurd (by decide) h
  | some i =>
    obtain ⟨hi, _⟩ := List.findIdx?_eq_some_iff_getElem.1 hf
    simp only; omega
def path_At.go : S34 → List S46 → Option (S34 × Int)
  | x, [] => some (x, 0)
  | x, s :: r => if findIx x.f8 s.f0 < 0 then some (z34, 22) else if (rd_T34 x.f8 (findIx x.f8 s.f0)).f1 = 3 then ((scalar_Ident.f s.f1).bind fun b => if b = true then path_At.go (rd_T34 x.f8 (findIx x.f8 s.f0)) r else some (z34, 23)) else if s.f1.toList = [] then path_At.go (rd_T34 x.f8 (findIx x.f8 s.f0)) r else some (z34, 23)
def path_At.flat (q : S34 × Int) : ByteArray × Int × Int × Int × Int × List ByteArray × Bool × Int × List S34 × Int := (q.1.f0, q.1.f1, q.1.f2, q.1.f3, q.1.f4, q.1.f5, q.1.f6, q.1.f7, q.1.f8, q.2)
def path_At.f (a0 : Int) (l : List S46) : Option (ByteArray × Int × Int × Int × Int × List ByteArray × Bool × Int × List S34 × Int) :=
  (spec_Root.f a0).bind fun t => if t.2.2.2.2.2.2.2.2.2 = 0 then (path_At.go ⟨t.1, t.2.1, t.2.2.1, t.2.2.2.1, t.2.2.2.2.1, t.2.2.2.2.2.1, t.2.2.2.2.2.2.1, t.2.2.2.2.2.2.2.1, t.2.2.2.2.2.2.2.2.1⟩ l).map path_At.flat else some (path_At.flat (z34, t.2.2.2.2.2.2.2.2.2))
theorem rd46a (l : List S46) (i : Nat) (hi : i < l.length) : rd_T46 l (i : Int) = l[i] := by
  simp [rd_T46, hi]
set_option maxHeartbeats 8000000 in
set_option maxRecDepth 100000 in
theorem path_At.calls (a0 : Int) (A1 : Option Addr) (c1 : Nat) (l1 : List (S46)) (r1 : ByteArray) (r2 : Int) (r3 : Int) (r4 : Int) (r5 : Int) (r6 : List ByteArray) (r7 : Bool) (r8 : Int) (r9 : List (S34)) (r10 : Int) (w : World) (hr1 : Kd.C k46 w A1 l1.length l1) (hc1 : l1.length ≤ c1) (h : path_At.f a0 l1 = some (r1, r2, r3, r4, r5, r6, r7, r8, r9, r10)) :
    Calls Tryd.prog 12 #[.int .i64 a0, .slice A1 l1.length c1] w fun e w' => ∃ v5_ v8_ : Value, e = .returned (.tuple #[.agg #[.string r1, .int .i64 r2, .int .i64 r3, .int .u64 r4, .int .u64 r5, v5_, .bool r7, .int .i64 r8, v8_], .int .i64 r10]) ∧ Kd.V Kd.string 9 w' w.heap.size (fun k_ => (w.heap.size ≤ k_)) v5_ r6 ∧ Kd.V k34 34 w' w.heap.size (fun k_ => (w.heap.size ≤ k_)) v8_ r9 ∧ Below w.heap.size w w' := by
  have HR := Aside0.mk hr1
  clear hr1
  unfold path_At.f at h
  obtain ⟨⟨t1, t2, t3, t4, t5, t6, t7, t8, t9, t10⟩, ht, h⟩ := Option.bind_eq_some_iff.1 h
  simp only at h
  go_enter Tryd.func12, Tryd.ntmps12
  go_wp2_with (fail)
  refine (spec_Root.calls a0 t1 t2 t3 t4 t5 t6 t7 t8 t9 t10 _ ht).mono ?_
  rintro e w1 ⟨v5, v8, rfl, V5, V8, hb⟩
  obtain ⟨A5, c5, rfl⟩ := Kd.V_slice V5
  obtain ⟨A8, c8, rfl⟩ := Kd.V_slice V8
  have hz1 : w1.heap[w.heap.size]? = some (.cells #[.string ⟨#[]⟩, .int .i64 0, .int .i64 0, .int .u64 0, .int .u64 0, .slice none 0 0, .bool false, .int .i64 0, .slice none 0 0] 34 (0, 0)) := blk_below (blk_new w _) hb
  have hB1 : Below w.heap.size w w1 := below_step (below_alloc (Below.refl _ _) _) hb
  have hX1 : (w1.alloc (.cells #[.string t1, .int .i64 t2, .int .i64 t3, .int .u64 t4, .int .u64 t5, .slice A5 t6.length c5, .bool t7, .int .i64 t8, .slice A8 t9.length c8] 34)).heap[w1.heap.size]? = some (.cells #[.string t1, .int .i64 t2, .int .i64 t3, .int .u64 t4, .int .u64 t5, .slice A5 t6.length c5, .bool t7, .int .i64 t8, .slice A8 t9.length c8] 34 (0, 0)) := blk_new w1 _
  by_cases he : t10 = 0
  · rw [if_pos he] at h
    subst he
    obtain ⟨⟨X, E⟩, hgo, hfl⟩ := Option.map_eq_some_iff.1 h
    cases hfl
    have e1 : ((0 : Int) != 0) = false := by decide
    have e2 : ((0 : Int) == 0) = true := by decide
    have hz2 := blk_alloc hz1 (.cells #[.string t1, .int .i64 t2, .int .i64 t3, .int .u64 t4, .int .u64 t5, .slice A5 t6.length c5, .bool t7, .int .i64 t8, .slice A8 t9.length c8] 34)
    have hlz : (w.alloc (.cells #[.string ⟨#[]⟩, .int .i64 0, .int .i64 0, .int .u64 0, .int .u64 0, .slice none 0 0, .bool false, .int .i64 0, .slice none 0 0] 34)).heap.size = w.heap.size + 1 := by simp
    have hokk : ∀ k, ((w.alloc (.cells #[.string ⟨#[]⟩, .int .i64 0, .int .i64 0, .int .u64 0, .int .u64 0, .slice none 0 0, .bool false, .int .i64 0, .slice none 0 0] 34)).heap.size ≤ k ∧ k < w1.heap.size) → (w.heap.size < k ∧ k ≠ w1.heap.size) := by
      intro k hk
      rw [hlz] at hk
      omega
    have W5 : Kd.V Kd.string 9 (w1.alloc (.cells #[.string t1, .int .i64 t2, .int .i64 t3, .int .u64 t4, .int .u64 t5, .slice A5 t6.length c5, .bool t7, .int .i64 t8, .slice A8 t9.length c8] 34)) w.heap.size (fun k => w.heap.size < k ∧ k ≠ w1.heap.size) (.slice A5 t6.length c5) t6 := Kd.V_alloc (Kd.V_mono (Kd.V_bound V5) hokk) _
    have W8 : Kd.V k34 34 (w1.alloc (.cells #[.string t1, .int .i64 t2, .int .i64 t3, .int .u64 t4, .int .u64 t5, .slice A5 t6.length c5, .bool t7, .int .i64 t8, .slice A8 t9.length c8] 34)) w.heap.size (fun k => w.heap.size < k ∧ k ≠ w1.heap.size) (.slice A8 t9.length c8) t9 := Kd.V_alloc (Kd.V_mono (Kd.V_bound V8) hokk) _
    have hbs : w.heap.size < w1.heap.size := blk_lt hz1
    have hmax : l1.length ≤ 9223372036854775807 := HR.out.2.1
    clear V5 V8 hokk hlz
    go_wp2
    go_loopg [23] l1.length (fun gg s23 wr => ∃ (kk : Nat) (x : S34) (B5 : Option Addr) (d5 : Nat) (B8 : Option Addr) (d8 : Nat), kk ≤ l1.length ∧ l1.length - kk ≤ gg ∧ s23 = .int .i64 kk ∧ Aside0 (Below w.heap.size w wr) ∧ Aside0 (wr.heap[w1.heap.size]? = some (.cells #[.string x.f0, .int .i64 x.f1, .int .i64 x.f2, .int .u64 x.f3, .int .u64 x.f4, .slice B5 x.f5.length d5, .bool x.f6, .int .i64 x.f7, .slice B8 x.f8.length d8] 34 (0, 0))) ∧ Aside0 (wr.heap[w.heap.size]? = some (.cells #[.string ⟨#[]⟩, .int .i64 0, .int .i64 0, .int .u64 0, .int .u64 0, .slice none 0 0, .bool false, .int .i64 0, .slice none 0 0] 34 (0, 0))) ∧ Aside0 (Kd.V Kd.string 9 wr w.heap.size (fun k => w.heap.size < k ∧ k ≠ w1.heap.size) (.slice B5 x.f5.length d5) x.f5) ∧ Aside0 (Kd.V k34 34 wr w.heap.size (fun k => w.heap.size < k ∧ k ≠ w1.heap.size) (.slice B8 x.f8.length d8) x.f8) ∧ Aside0 (path_At.go x (l1.drop kk) = some (X, E)))
    case atStart => exact ⟨0, ⟨t1, t2, t3, t4, t5, t6, t7, t8, t9⟩, A5, c5, A8, c8, Nat.zero_le _, by omega, rfl, ⟨below_alloc hB1 _⟩, ⟨hX1⟩, ⟨hz2⟩, ⟨W5⟩, ⟨W8⟩, ⟨hgo⟩⟩
    case round =>
      obtain ⟨kk, x, B5, d5, B8, d8, hkk, hg, rfl, HB, HX, HZ, H5, H8, HG⟩ := hrel
      clear hX1 hz2 W5 W8 hgo
      by_cases hlt : kk < l1.length
      · have hltz : (kk : Int) < (l1.length : Int) := by omega
        obtain ⟨ad', e', h0, h1⟩ := at_T46 HR.out (kk : Int) (by omega) hltz
        cases e'
        rw [rd46a l1 kk hlt] at h0 h1
        simp only [Int.toNat_natCast] at h0 h1
        replace h0 := (HB.out.cell (World.block_lt_of_cell? w _ h0)).trans h0
        replace h1 := (HB.out.cell (World.block_lt_of_cell? w _ h1)).trans h1
        have hd : l1.drop kk = l1[kk] :: l1.drop (kk + 1) := List.drop_eq_getElem_cons hlt
        have hG := HG.out
        rw [hd] at hG
        unfold path_At.go at hG
        generalize hs : l1[kk] = s at *
        obtain ⟨nm, ky⟩ := s
        have dl : decide ((kk : Int) < (l1.length : Int)) = true := decide_eq_true hltz
        have d0 : decide ((0 : Int) ≤ (kk : Int)) = true := by simp
        simp only at hG h0 h1
        have hn1 : (wr.alloc (.cells #[.string nm, .string ky] 46)).heap[wr.heap.size]? = some (.cells #[.string nm, .string ky] 46 (0, 0)) := blk_new wr _
        have k0 : (wr.alloc (.cells #[.string nm, .string ky] 46)).cell? ⟨wr.heap.size, 0, none⟩ = some (.string nm) := (blk_cell hn1 0).trans rfl
        have hX1 := blk_alloc HX.out (.cells #[.string nm, .string ky] 46)
        have xk0 : (wr.alloc (.cells #[.string nm, .string ky] 46)).cell? ⟨w1.heap.size, 0, none⟩ = some (.string x.f0) := (blk_cell hX1 0).trans rfl
        have xk1 : (wr.alloc (.cells #[.string nm, .string ky] 46)).cell? ⟨w1.heap.size, 1, none⟩ = some (.int .i64 x.f1) := (blk_cell hX1 1).trans rfl
        have xk2 : (wr.alloc (.cells #[.string nm, .string ky] 46)).cell? ⟨w1.heap.size, 2, none⟩ = some (.int .i64 x.f2) := (blk_cell hX1 2).trans rfl
        have xk3 : (wr.alloc (.cells #[.string nm, .string ky] 46)).cell? ⟨w1.heap.size, 3, none⟩ = some (.int .u64 x.f3) := (blk_cell hX1 3).trans rfl
        have xk4 : (wr.alloc (.cells #[.string nm, .string ky] 46)).cell? ⟨w1.heap.size, 4, none⟩ = some (.int .u64 x.f4) := (blk_cell hX1 4).trans rfl
        have xk5 : (wr.alloc (.cells #[.string nm, .string ky] 46)).cell? ⟨w1.heap.size, 5, none⟩ = some (.slice B5 x.f5.length d5) := (blk_cell hX1 5).trans rfl
        have xk6 : (wr.alloc (.cells #[.string nm, .string ky] 46)).cell? ⟨w1.heap.size, 6, none⟩ = some (.bool x.f6) := (blk_cell hX1 6).trans rfl
        have xk7 : (wr.alloc (.cells #[.string nm, .string ky] 46)).cell? ⟨w1.heap.size, 7, none⟩ = some (.int .i64 x.f7) := (blk_cell hX1 7).trans rfl
        have xk8 : (wr.alloc (.cells #[.string nm, .string ky] 46)).cell? ⟨w1.heap.size, 8, none⟩ = some (.slice B8 x.f8.length d8) := (blk_cell hX1 8).trans rfl
        have hZ1 := blk_alloc HZ.out (.cells #[.string nm, .string ky] 46)
        have V5 := Kd.V_alloc H5.out (.cells #[.string nm, .string ky] 46)
        have V8 := Kd.V_alloc H8.out (.cells #[.string nm, .string ky] 46)
        have hB2 := below_alloc HB.out (.cells #[.string nm, .string ky] 46)
        have g1 : w1.heap.size < wr.heap.size := blk_lt HX.out
        go_wp2_with (fail)
        refine (spec_Find.calls x.f0 x.f1 x.f2 x.f3 x.f4 B5 d5 x.f5 x.f6 x.f7 B8 d8 x.f8 nm _ _ (Kd.V_reads' V5).2.2 (Kd.V_reads' V5).2.1 (Kd.V_reads' V8).2.2 (Kd.V_reads' V8).2.1 rfl).mono ?_
        rintro e W2 ⟨rfl, hb2⟩
        clear xk0 xk1 xk2 xk3 xk4 xk5 xk6 xk7 xk8 k0
        replace hX1 := blk_below hX1 hb2
        replace hZ1 := blk_below hZ1 hb2
        replace hn1 := blk_below hn1 hb2
        replace V5 := Kd.V_below V5 hb2
        replace V8 := Kd.V_below V8 hb2
        replace hB2 := below_step hB2 hb2
        clear hb2
        by_cases hneg : findIx x.f8 nm < 0
        · rw [if_pos hneg] at hG
          cases hG
          have dn : decide (findIx x.f8 nm < 0) = true := decide_eq_true hneg
          obtain ⟨⟨zc0, zf0⟩, ⟨zc1, zf1⟩, ⟨zc2, zf2⟩, ⟨zc3, zf3⟩, ⟨zc4, zf4⟩, ⟨zc5, zf5⟩, ⟨zc6, zf6⟩, ⟨zc7, zf7⟩, ⟨zc8, zf8⟩, zb⟩ := set9_facts hZ1 (.string ⟨#[]⟩) (.int .i64 0) (.int .i64 0) (.int .u64 0) (.int .u64 0) (.slice none 0 0) (.bool false) (.int .i64 0) (.slice none 0 0)
          go_wp2
          refine bodyPost_ret (results_ct rfl _ _ w.heap.size 34 #[.string ⟨#[]⟩, .int .i64 0, .int .i64 0, .int .u64 0, .int .u64 0, .slice none 0 0, .bool false, .int .i64 0, .slice none 0 0] (0, 0) _ rfl zb Tryd.underlying34 rfl (by kernel_rfl)) rfl ?_
          exact ⟨_, _, rfl, Kd.V_nil _ _ _ _ _, Kd.V_nil _ _ _ _ _, below9 hB2 (Nat.le_refl _) (.string ⟨#[]⟩) (.int .i64 0) (.int .i64 0) (.int .u64 0) (.int .u64 0) (.slice none 0 0) (.bool false) (.int .i64 0) (.slice none 0 0)⟩
        · rw [if_neg hneg] at hG
          have hlt2 := findIx_lt x.f8 nm hneg
          have hge2 : 0 ≤ findIx x.f8 nm := by omega
          have dn : decide (findIx x.f8 nm < 0) = false := decide_eq_false hneg
          have dg : decide (0 ≤ findIx x.f8 nm) = true := decide_eq_true hge2
          have dl2 : decide (findIx x.f8 nm < (x.f8.length : Int)) = true := decide_eq_true hlt2
          generalize findIx x.f8 nm = i at *
          obtain ⟨ad8, _, eA, -, -⟩ := Kd.C_get (Kd.V_reads' V8).2.2 z34 i hge2 hlt2
          subst eA
          obtain ⟨cs, hcl, hFK, hcc⟩ := Kd.V_get V8 z34 i hge2 hlt2
          obtain ⟨E5, q5, E8, q8, rfl, l5, F5, l8, F8⟩ := k34_openF hFK
          clear hFK hcl
          obtain ⟨y, hy⟩ : ∃ y, rd_T34 x.f8 i = y := ⟨_, rfl⟩
          have hy' : x.f8.getD i.toNat z34 = y := hy
          simp only [hy'] at hcc l5 F5 l8 F8
          simp only [hy] at hG
          clear hy hy'
          have y0 : W2.cell? (ad8.add (i.toNat * 9)) = some (.string y.f0) := hcc 0 _ rfl
          have y1 : W2.cell? ⟨(ad8.add (i.toNat * 9)).block, (ad8.add (i.toNat * 9)).off + 1, none⟩ = some (.int .i64 y.f1) := by rw [← add_field _ _ 1 (by omega)]; exact hcc 1 _ rfl
          have y2 : W2.cell? ⟨(ad8.add (i.toNat * 9)).block, (ad8.add (i.toNat * 9)).off + 2, none⟩ = some (.int .i64 y.f2) := by rw [← add_field _ _ 2 (by omega)]; exact hcc 2 _ rfl
          have y3 : W2.cell? ⟨(ad8.add (i.toNat * 9)).block, (ad8.add (i.toNat * 9)).off + 3, none⟩ = some (.int .u64 y.f3) := by rw [← add_field _ _ 3 (by omega)]; exact hcc 3 _ rfl
          have y4 : W2.cell? ⟨(ad8.add (i.toNat * 9)).block, (ad8.add (i.toNat * 9)).off + 4, none⟩ = some (.int .u64 y.f4) := by rw [← add_field _ _ 4 (by omega)]; exact hcc 4 _ rfl
          have y5 : W2.cell? ⟨(ad8.add (i.toNat * 9)).block, (ad8.add (i.toNat * 9)).off + 5, none⟩ = some (.slice E5 y.f5.length q5) := by rw [← add_field _ _ 5 (by omega)]; exact hcc 5 _ rfl
          have y6 : W2.cell? ⟨(ad8.add (i.toNat * 9)).block, (ad8.add (i.toNat * 9)).off + 6, none⟩ = some (.bool y.f6) := by rw [← add_field _ _ 6 (by omega)]; exact hcc 6 _ rfl
          have y7 : W2.cell? ⟨(ad8.add (i.toNat * 9)).block, (ad8.add (i.toNat * 9)).off + 7, none⟩ = some (.int .i64 y.f7) := by rw [← add_field _ _ 7 (by omega)]; exact hcc 7 _ rfl
          have y8 : W2.cell? ⟨(ad8.add (i.toNat * 9)).block, (ad8.add (i.toNat * 9)).off + 8, none⟩ = some (.slice E8 y.f8.length q8) := by rw [← add_field _ _ 8 (by omega)]; exact hcc 8 _ rfl
          have y5v : Kd.V Kd.string 9 W2 w.heap.size (fun k => w.heap.size < k ∧ k ≠ w1.heap.size) (.slice E5 y.f5.length q5) y.f5 := ⟨_, _, rfl, l5, F5⟩
          have y8v : Kd.V k34 34 W2 w.heap.size (fun k => w.heap.size < k ∧ k ≠ w1.heap.size) (.slice E8 y.f8.length q8) y.f8 := ⟨_, _, rfl, l8, F8⟩
          obtain ⟨⟨sc0, sf0⟩, ⟨sc1, sf1⟩, ⟨sc2, sf2⟩, ⟨sc3, sf3⟩, ⟨sc4, sf4⟩, ⟨sc5, sf5⟩, ⟨sc6, sf6⟩, ⟨sc7, sf7⟩, ⟨sc8, sf8⟩, sb⟩ := set9_facts hX1 (.string y.f0) (.int .i64 y.f1) (.int .i64 y.f2) (.int .u64 y.f3) (.int .u64 y.f4) (.slice E5 y.f5.length q5) (.bool y.f6) (.int .i64 y.f7) (.slice E8 y.f8.length q8)
          have xc8 : W2.cell? ⟨w1.heap.size, 8, none⟩ = some (.slice (some ad8) x.f8.length d8) := (blk_cell hX1 8).trans rfl
          have y5w := V_far9 y5v (p := w1.heap.size) (fun k hk => hk.2) (.string y.f0) (.int .i64 y.f1) (.int .i64 y.f2) (.int .u64 y.f3) (.int .u64 y.f4) (.slice E5 y.f5.length q5) (.bool y.f6) (.int .i64 y.f7) (.slice E8 y.f8.length q8)
          have y8w := V_far9 y8v (p := w1.heap.size) (fun k hk => hk.2) (.string y.f0) (.int .i64 y.f1) (.int .i64 y.f2) (.int .u64 y.f3) (.int .u64 y.f4) (.slice E5 y.f5.length q5) (.bool y.f6) (.int .i64 y.f7) (.slice E8 y.f8.length q8)
          have hZ2 := far9 hZ1 (Nat.ne_of_lt hbs) (.string y.f0) (.int .i64 y.f1) (.int .i64 y.f2) (.int .u64 y.f3) (.int .u64 y.f4) (.slice E5 y.f5.length q5) (.bool y.f6) (.int .i64 y.f7) (.slice E8 y.f8.length q8)
          have hn2 := far9 hn1 (Nat.ne_of_gt g1) (.string y.f0) (.int .i64 y.f1) (.int .i64 y.f2) (.int .u64 y.f3) (.int .u64 y.f4) (.slice E5 y.f5.length q5) (.bool y.f6) (.int .i64 y.f7) (.slice E8 y.f8.length q8)
          have hB3 := below9 hB2 (Nat.le_of_lt hbs) (.string y.f0) (.int .i64 y.f1) (.int .i64 y.f2) (.int .u64 y.f3) (.int .u64 y.f4) (.slice E5 y.f5.length q5) (.bool y.f6) (.int .i64 y.f7) (.slice E8 y.f8.length q8)
          have kk1 := (blk_cell sb 1).trans (show _ = some (Value.int .i64 y.f1) from rfl)
          have ky1 := (blk_cell hn2 1).trans (show _ = some (Value.string ky) from rfl)
          by_cases hl3 : y.f1 = 3
          · rw [if_pos hl3] at hG
            obtain ⟨b, hbi, hG⟩ := Option.bind_eq_some_iff.1 hG
            have el : (y.f1 == 3) = true := beq_iff_eq.mpr hl3
            clear hl3
            go_wp2_with (fail)
            refine (scalar_Ident.calls ky b _ hbi).mono ?_
            rintro e W4 ⟨rfl, hb4⟩
            have hX4 := blk_below sb hb4
            have hZ4 := blk_below hZ2 hb4
            have y5x := Kd.V_below y5w hb4
            have y8x := Kd.V_below y8w hb4
            have hB4 := below_step hB3 hb4
            cases b with
            | false =>
              rw [if_neg (by simp)] at hG
              cases hG
              obtain ⟨⟨rc0, rf0⟩, ⟨rc1, rf1⟩, ⟨rc2, rf2⟩, ⟨rc3, rf3⟩, ⟨rc4, rf4⟩, ⟨rc5, rf5⟩, ⟨rc6, rf6⟩, ⟨rc7, rf7⟩, ⟨rc8, rf8⟩, rb⟩ := set9_facts hZ4 (.string ⟨#[]⟩) (.int .i64 0) (.int .i64 0) (.int .u64 0) (.int .u64 0) (.slice none 0 0) (.bool false) (.int .i64 0) (.slice none 0 0)
              go_wp2
              refine bodyPost_ret (results_ct rfl _ _ w.heap.size 34 #[.string ⟨#[]⟩, .int .i64 0, .int .i64 0, .int .u64 0, .int .u64 0, .slice none 0 0, .bool false, .int .i64 0, .slice none 0 0] (0, 0) _ rfl rb Tryd.underlying34 rfl (by kernel_rfl)) rfl ?_
              exact ⟨_, _, rfl, Kd.V_nil _ _ _ _ _, Kd.V_nil _ _ _ _ _, below9 hB4 (Nat.le_refl _) (.string ⟨#[]⟩) (.int .i64 0) (.int .i64 0) (.int .u64 0) (.int .u64 0) (.slice none 0 0) (.bool false) (.int .i64 0) (.slice none 0 0)⟩
            | true =>
              rw [if_pos rfl] at hG
              go_wp2_with (fail)
              go_roundg (l1.length - (kk + 1))
              case measure => omega
              case rel => exact ⟨kk + 1, y, E5, q5, E8, q8, by omega, by omega, by go_num, ⟨hB4⟩, ⟨hX4⟩, ⟨hZ4⟩, ⟨y5x⟩, ⟨y8x⟩, ⟨hG⟩⟩
          · rw [if_neg hl3] at hG
            have el : (y.f1 == 3) = false := beq_eq_false_iff_ne.mpr hl3
            by_cases hk : ky.toList = []
            · rw [if_pos hk] at hG
              have ek1 : (ky.toList == ([] : List UInt8)) = true := beq_iff_eq.mpr hk
              have ek2 : (ky.toList != ([] : List UInt8)) = false := bne_eq_false_iff_eq.mpr hk
              go_wp2_with (fail)
              go_roundg (l1.length - (kk + 1))
              case measure => omega
              case rel => exact ⟨kk + 1, y, E5, q5, E8, q8, by omega, by omega, by go_num, ⟨hB3⟩, ⟨sb⟩, ⟨hZ2⟩, ⟨y5w⟩, ⟨y8w⟩, ⟨hG⟩⟩
            · rw [if_neg hk] at hG
              cases hG
              have ek1 : (ky.toList == ([] : List UInt8)) = false := beq_eq_false_iff_ne.mpr hk
              have ek2 : (ky.toList != ([] : List UInt8)) = true := bne_iff_ne.mpr hk
              obtain ⟨⟨rc0, rf0⟩, ⟨rc1, rf1⟩, ⟨rc2, rf2⟩, ⟨rc3, rf3⟩, ⟨rc4, rf4⟩, ⟨rc5, rf5⟩, ⟨rc6, rf6⟩, ⟨rc7, rf7⟩, ⟨rc8, rf8⟩, rb⟩ := set9_facts hZ2 (.string ⟨#[]⟩) (.int .i64 0) (.int .i64 0) (.int .u64 0) (.int .u64 0) (.slice none 0 0) (.bool false) (.int .i64 0) (.slice none 0 0)
              go_wp2
              refine bodyPost_ret (results_ct rfl _ _ w.heap.size 34 #[.string ⟨#[]⟩, .int .i64 0, .int .i64 0, .int .u64 0, .int .u64 0, .slice none 0 0, .bool false, .int .i64 0, .slice none 0 0] (0, 0) _ rfl rb Tryd.underlying34 rfl (by kernel_rfl)) rfl ?_
              exact ⟨_, _, rfl, Kd.V_nil _ _ _ _ _, Kd.V_nil _ _ _ _ _, below9 hB3 (Nat.le_refl _) (.string ⟨#[]⟩) (.int .i64 0) (.int .i64 0) (.int .u64 0) (.int .u64 0) (.slice none 0 0) (.bool false) (.int .i64 0) (.slice none 0 0)⟩
      · have hke : kk = l1.length := by omega
        subst hke
        have hltz : ¬ (l1.length : Int) < (l1.length : Int) := by omega
        have hG := HG.out
        rw [List.drop_length] at hG
        unfold path_At.go at hG
        have hq := Option.some.inj hG
        have hx : x = X := congrArg Prod.fst hq
        have hE : (0 : Int) = E := congrArg Prod.snd hq
        subst hx
        subst hE
        have hX1 := HX.out
        have xk0 : wr.cell? ⟨w1.heap.size, 0, none⟩ = some (.string x.f0) := (blk_cell hX1 0).trans rfl
        have xk1 : wr.cell? ⟨w1.heap.size, 1, none⟩ = some (.int .i64 x.f1) := (blk_cell hX1 1).trans rfl
        have xk2 : wr.cell? ⟨w1.heap.size, 2, none⟩ = some (.int .i64 x.f2) := (blk_cell hX1 2).trans rfl
        have xk3 : wr.cell? ⟨w1.heap.size, 3, none⟩ = some (.int .u64 x.f3) := (blk_cell hX1 3).trans rfl
        have xk4 : wr.cell? ⟨w1.heap.size, 4, none⟩ = some (.int .u64 x.f4) := (blk_cell hX1 4).trans rfl
        have xk5 : wr.cell? ⟨w1.heap.size, 5, none⟩ = some (.slice B5 x.f5.length d5) := (blk_cell hX1 5).trans rfl
        have xk6 : wr.cell? ⟨w1.heap.size, 6, none⟩ = some (.bool x.f6) := (blk_cell hX1 6).trans rfl
        have xk7 : wr.cell? ⟨w1.heap.size, 7, none⟩ = some (.int .i64 x.f7) := (blk_cell hX1 7).trans rfl
        have xk8 : wr.cell? ⟨w1.heap.size, 8, none⟩ = some (.slice B8 x.f8.length d8) := (blk_cell hX1 8).trans rfl
        obtain ⟨⟨rc0, rf0⟩, ⟨rc1, rf1⟩, ⟨rc2, rf2⟩, ⟨rc3, rf3⟩, ⟨rc4, rf4⟩, ⟨rc5, rf5⟩, ⟨rc6, rf6⟩, ⟨rc7, rf7⟩, ⟨rc8, rf8⟩, rb⟩ := set9_facts HZ.out (.string x.f0) (.int .i64 x.f1) (.int .i64 x.f2) (.int .u64 x.f3) (.int .u64 x.f4) (.slice B5 x.f5.length d5) (.bool x.f6) (.int .i64 x.f7) (.slice B8 x.f8.length d8)
        go_wp2
        refine bodyPost_ret (results_ct rfl _ _ w.heap.size 34 #[.string x.f0, .int .i64 x.f1, .int .i64 x.f2, .int .u64 x.f3, .int .u64 x.f4, .slice B5 x.f5.length d5, .bool x.f6, .int .i64 x.f7, .slice B8 x.f8.length d8] (0, 0) _ rfl rb Tryd.underlying34 rfl (by kernel_rfl)) rfl ?_
        have z5 := V_far9 H5.out (p := w.heap.size) (fun k hk => Nat.ne_of_gt hk.1) (.string x.f0) (.int .i64 x.f1) (.int .i64 x.f2) (.int .u64 x.f3) (.int .u64 x.f4) (.slice B5 x.f5.length d5) (.bool x.f6) (.int .i64 x.f7) (.slice B8 x.f8.length d8)
        have z8 := V_far9 H8.out (p := w.heap.size) (fun k hk => Nat.ne_of_gt hk.1) (.string x.f0) (.int .i64 x.f1) (.int .i64 x.f2) (.int .u64 x.f3) (.int .u64 x.f4) (.slice B5 x.f5.length d5) (.bool x.f6) (.int .i64 x.f7) (.slice B8 x.f8.length d8)
        exact ⟨_, _, rfl, Kd.V_mono z5 (fun k hk => Nat.le_of_lt hk.1), Kd.V_mono z8 (fun k hk => Nat.le_of_lt hk.1), below9 HB.out (Nat.le_refl _) (.string x.f0) (.int .i64 x.f1) (.int .i64 x.f2) (.int .u64 x.f3) (.int .u64 x.f4) (.slice B5 x.f5.length d5) (.bool x.f6) (.int .i64 x.f7) (.slice B8 x.f8.length d8)⟩
  · rw [if_neg he] at h
    cases h
    have e1 : (t10 != 0) = true := bne_iff_ne.2 he
    have e2 : (t10 == 0) = false := beq_eq_false_iff_ne.2 he
    have hz2 := blk_alloc hz1 (.cells #[.string t1, .int .i64 t2, .int .i64 t3, .int .u64 t4, .int .u64 t5, .slice A5 t6.length c5, .bool t7, .int .i64 t8, .slice A8 t9.length c8] 34)
    obtain ⟨⟨zc0, zf0⟩, ⟨zc1, zf1⟩, ⟨zc2, zf2⟩, ⟨zc3, zf3⟩, ⟨zc4, zf4⟩, ⟨zc5, zf5⟩, ⟨zc6, zf6⟩, ⟨zc7, zf7⟩, ⟨zc8, zf8⟩, zb⟩ := set9_facts hz2 (.string ⟨#[]⟩) (.int .i64 0) (.int .i64 0) (.int .u64 0) (.int .u64 0) (.slice none 0 0) (.bool false) (.int .i64 0) (.slice none 0 0)
    go_wp2
    refine bodyPost_ret (results_ct rfl _ _ w.heap.size 34 #[.string ⟨#[]⟩, .int .i64 0, .int .i64 0, .int .u64 0, .int .u64 0, .slice none 0 0, .bool false, .int .i64 0, .slice none 0 0] (0, 0) _ rfl zb Tryd.underlying34 rfl (by kernel_rfl)) rfl ?_
    exact ⟨_, _, rfl, Kd.V_nil _ _ _ _ _, Kd.V_nil _ _ _ _ _, below9 (below_alloc hB1 _) (Nat.le_refl _) (.string ⟨#[]⟩) (.int .i64 0) (.int .i64 0) (.int .u64 0) (.int .u64 0) (.slice none 0 0) (.bool false) (.int .i64 0) (.slice none 0 0)⟩

/-! ### path_Under: function 17 -/
def path_Under.l0 : Nat → List (S46) → List (S46) → Int → Int → Option (Bool)
  | 0, _, _, _, _ => none
  | k + 1, x0, x7, x8, x9 => if x9 < x8 then (if 0 ≤ x9 then (if x9 < (x7.length : Int) then (if x9 ≥ (x0.length : Int) then (some false) else (if x9 < (x0.length : Int) then (if (!((((rd_T46 x0 x9).f0).toList) == (((rd_T46 x7 x9).f0).toList)) || (!((((rd_T46 x0 x9).f1).toList) == (((rd_T46 x7 x9).f1).toList)))) = true then (some false) else (path_Under.l0 k x0 x7 x8 (wrap64 (x9 + 1)))) else (none))) else (none)) else (none)) else (some true)
def path_Under.f (k : Nat) (l0 : List (S46)) (l1 : List (S46)) : Option (Bool) := path_Under.l0 k l0 l1 (l1.length : Int) 0
theorem path_Under.mono_l : ∀ k, (∀ y0 y1 y2 y3, LeO (path_Under.l0 k y0 y1 y2 y3) (path_Under.l0 (k + 1) y0 y1 y2 y3))
  | 0 => fun _ _ _ _ r h => by simp [path_Under.l0] at h
  | k + 1 => by
    have ih0 := path_Under.mono_l k
    · intro y0 y1 y2 y3
      unfold path_Under.l0
      repeat' first
      | (with_reducible exact ih0 _ _ _ _)
      | (with_reducible exact LeO.refl _)
      | (with_reducible exact LeO.none _)
      | (with_reducible refine LeO.ite ?_ ?_)
      | (with_reducible refine LeO.bind ?_ (fun _ => ?_))
      | exact ih0 _ _ _ _
      | exact LeO.none _
      | refine LeO.ite ?_ ?_
      | refine LeO.bind ?_ (fun _ => ?_)
theorem path_Under.mono : ∀ a0 a1 k, LeO (path_Under.f k a0 a1) (path_Under.f (k + 1) a0 a1) := by
  intro a0 a1 k
  have ih0 := path_Under.mono_l k
  unfold path_Under.f
  repeat' first
      | (with_reducible exact ih0 _ _ _ _)
      | (with_reducible exact LeO.refl _)
      | (with_reducible exact LeO.none _)
      | (with_reducible refine LeO.ite ?_ ?_)
      | (with_reducible refine LeO.bind ?_ (fun _ => ?_))
      | exact ih0 _ _ _ _
      | exact LeO.none _
      | refine LeO.ite ?_ ?_
      | refine LeO.bind ?_ (fun _ => ?_)
set_option maxHeartbeats 8000000 in
set_option maxRecDepth 100000 in
theorem path_Under.calls (k : Nat) (A0 : Option Addr) (c0 : Nat) (l0 : List (S46)) (A1 : Option Addr) (c1 : Nat) (l1 : List (S46)) (r : Bool) (w : World) (hr0 : Kd.C k46 w A0 l0.length l0) (hc0 : l0.length ≤ c0) (hr1 : Kd.C k46 w A1 l1.length l1) (hc1 : l1.length ≤ c1) (h : path_Under.f k l0 l1 = some r) :
    Calls Tryd.prog 17 #[.slice A0 l0.length c0, .slice A1 l1.length c1] w fun e w' => e = .returned (.bool r) ∧ Below w.heap.size w w' := by
  have hu46 := Tryd.underlying46
  have HR0 := Aside0.mk hr0
  have HC0 := Aside0.mk hc0
  clear hr0 hc0
  have HR1 := Aside0.mk hr1
  have HC1 := Aside0.mk hc1
  clear hr1 hc1
  have HB := Aside0.mk (Below.refl w.heap.size w)
  have H : (path_Under.l0 k l0 l1 (l1.length : Int) 0) = some r := h
  clear h
  have H' := Aside0.mk H
  clear H
  go_enter Tryd.func17, Tryd.ntmps17
  go_wp2
  repeat (go_quiet (fail); try go_wp2)
  go_loopg [9] k (fun kq v9 w' => ∃ (x9_1 : Int), v9 = .int .i64 x9_1 ∧ Aside0 (path_Under.l0 kq l0 l1 (l1.length : Int) x9_1 = some r) ∧ Aside0 (kq ≤ k) ∧ Aside0 (Below w.heap.size w w'))
  case atStart => exact ⟨(0), (by first | rfl | (simp; done) | (simp [*]; done) | exact congrArg Value.bool (isEmpty_ne _) | exact congrArg Value.bool (notEmpty_ne _)), H', ⟨Nat.le_refl _⟩, ⟨by repeat (first | (with_reducible first | exact HB.out | apply below_alloc | apply pw_below_drewN | apply below_drew1) | exact HB.out)⟩⟩
  case round =>
    clear H'
    try clear c1
    try clear p2
    obtain ⟨x9_1, rfl, HA, HK1, HB⟩ := hrel
    cases gk with
    | zero => exact absurd HA.out (by simp [path_Under.l0])
    | succ k1 =>
      have H := HA.out
      clear HA
      simp only [path_Under.l0] at H
      by_cases c3 : x9_1 < (l1.length : Int)
      · rw [if_pos c3] at H
        have c3b0 : decide (x9_1 < (l1.length : Int)) = true := decide_eq_true c3
        clear c3
        by_cases c4 : 0 ≤ x9_1
        · rw [if_pos c4] at H
          have c4b0 : decide (0 ≤ x9_1) = true := decide_eq_true c4
          clear c4
          by_cases c5 : x9_1 < (l1.length : Int)
          · rw [if_pos c5] at H
            have c5b0 : decide (x9_1 < (l1.length : Int)) = true := decide_eq_true c5
            clear c5
            by_cases c6 : x9_1 ≥ (l0.length : Int)
            · rw [if_pos c6] at H
              have c6b0 : decide ((l0.length : Int) ≤ x9_1) = true := decide_eq_true c6
              clear c6
              obtain rfl := Option.some.inj H
              have p168 : 0 ≤ (x9_1 : Int) := of_decide_eq_true (by first | (with_reducible assumption) | assumption)
              have q168 : x9_1 < (l1.length : Int) := of_decide_eq_true (by first | (with_reducible assumption) | assumption)
              obtain ⟨ad168, e168, hx168_0, hx168_1⟩ := at_T46 HR1.out x9_1 p168 q168
              cases e168
              replace hx168_0 := (HB.out.cell (World.block_lt_of_cell? w _ hx168_0)).trans hx168_0
              replace hx168_1 := (HB.out.cell (World.block_lt_of_cell? w _ hx168_1)).trans hx168_1
              replace p168 := eq_true p168
              replace q168 := eq_true q168
              go_wp2_with (first | ((with_reducible refine gate_dst (N := 6) rfl ?_); refine box_event ?hg (N := 6) ?hd (cs := #[.string (⟨#[]⟩ : ByteArray), .string (⟨#[]⟩ : ByteArray)]) (t := 46) ?hr ?_; (case hd => rfl); (case hg => rfl); (case hr => first | (go_simp; done) | (go_simp; rfl)); intro gb169 hg w7 hbox hb; have n0_ := Aside0.mk (below_step (by repeat (first | (with_reducible first | exact HB.out | apply below_alloc | apply pw_below_drewN | apply below_drew1) | exact HB.out)) hb); have n1_ := Aside0.mk (hbox); have n2_ := Aside0.mk ((by rw [hg]; exact (below_size (by repeat (first | (with_reducible first | exact HB.out | apply below_alloc | apply pw_below_drewN | apply below_drew1) | exact HB.out))) : w.heap.size ≤ gb169)); have n3_ := Aside0.mk ((by rw [hg]; exact (below_size (by repeat (first | (with_reducible first | exact HB.out | apply below_alloc | apply pw_below_drewN | apply below_drew1) | exact HB.out))) : w.heap.size ≤ gb169)); clear HB; have HB := n0_; have BK169 := n1_; have GW169 := n2_; have GE169 := n3_; clear n0_ n1_ n2_ n3_; clear hb hbox hg; have hcz8_0 : w7.cell? ⟨gb169, 0, none⟩ = some (.string (⟨#[]⟩ : ByteArray)) := (blk_cell BK169.out 0).trans rfl; have hcz8_1 : w7.cell? ⟨gb169, 1, none⟩ = some (.string (⟨#[]⟩ : ByteArray)) := (blk_cell BK169.out 1).trans rfl; have hfz8_0 := blk_frozen BK169.out 0; have hfz8_1 := blk_frozen BK169.out 1))
              repeat (go_quiet (first | ((with_reducible refine gate_dst (N := 6) rfl ?_); refine box_event ?hg (N := 6) ?hd (cs := #[.string (⟨#[]⟩ : ByteArray), .string (⟨#[]⟩ : ByteArray)]) (t := 46) ?hr ?_; (case hd => rfl); (case hg => rfl); (case hr => first | (go_simp; done) | (go_simp; rfl)); intro gb169 hg w7 hbox hb; have n0_ := Aside0.mk (below_step (by repeat (first | (with_reducible first | exact HB.out | apply below_alloc | apply pw_below_drewN | apply below_drew1) | exact HB.out)) hb); have n1_ := Aside0.mk (hbox); have n2_ := Aside0.mk ((by rw [hg]; exact (below_size (by repeat (first | (with_reducible first | exact HB.out | apply below_alloc | apply pw_below_drewN | apply below_drew1) | exact HB.out))) : w.heap.size ≤ gb169)); have n3_ := Aside0.mk ((by rw [hg]; exact (below_size (by repeat (first | (with_reducible first | exact HB.out | apply below_alloc | apply pw_below_drewN | apply below_drew1) | exact HB.out))) : w.heap.size ≤ gb169)); clear HB; have HB := n0_; have BK169 := n1_; have GW169 := n2_; have GE169 := n3_; clear n0_ n1_ n2_ n3_; clear hb hbox hg; have hcz8_0 : w7.cell? ⟨gb169, 0, none⟩ = some (.string (⟨#[]⟩ : ByteArray)) := (blk_cell BK169.out 0).trans rfl; have hcz8_1 : w7.cell? ⟨gb169, 1, none⟩ = some (.string (⟨#[]⟩ : ByteArray)) := (blk_cell BK169.out 1).trans rfl; have hfz8_0 := blk_frozen BK169.out 0; have hfz8_1 := blk_frozen BK169.out 1)); try go_wp2_with (first | ((with_reducible refine gate_dst (N := 6) rfl ?_); refine box_event ?hg (N := 6) ?hd (cs := #[.string (⟨#[]⟩ : ByteArray), .string (⟨#[]⟩ : ByteArray)]) (t := 46) ?hr ?_; (case hd => rfl); (case hg => rfl); (case hr => first | (go_simp; done) | (go_simp; rfl)); intro gb169 hg w7 hbox hb; have n0_ := Aside0.mk (below_step (by repeat (first | (with_reducible first | exact HB.out | apply below_alloc | apply pw_below_drewN | apply below_drew1) | exact HB.out)) hb); have n1_ := Aside0.mk (hbox); have n2_ := Aside0.mk ((by rw [hg]; exact (below_size (by repeat (first | (with_reducible first | exact HB.out | apply below_alloc | apply pw_below_drewN | apply below_drew1) | exact HB.out))) : w.heap.size ≤ gb169)); have n3_ := Aside0.mk ((by rw [hg]; exact (below_size (by repeat (first | (with_reducible first | exact HB.out | apply below_alloc | apply pw_below_drewN | apply below_drew1) | exact HB.out))) : w.heap.size ≤ gb169)); clear HB; have HB := n0_; have BK169 := n1_; have GW169 := n2_; have GE169 := n3_; clear n0_ n1_ n2_ n3_; clear hb hbox hg; have hcz8_0 : w7.cell? ⟨gb169, 0, none⟩ = some (.string (⟨#[]⟩ : ByteArray)) := (blk_cell BK169.out 0).trans rfl; have hcz8_1 : w7.cell? ⟨gb169, 1, none⟩ = some (.string (⟨#[]⟩ : ByteArray)) := (blk_cell BK169.out 1).trans rfl; have hfz8_0 := blk_frozen BK169.out 0; have hfz8_1 := blk_frozen BK169.out 1)))
              go_ret
              exact ⟨by first | rfl | (simp [errW_none, errW_some] <;> rfl) | (simp [*, errW_none, errW_some] <;> rfl), by repeat (first | (with_reducible first | exact HB.out | apply below_alloc | apply pw_below_drewN | apply below_drew1 | refine below_set ?_ GE169.out) | exact HB.out)⟩
            · rw [if_neg c6] at H
              have c6b0 : decide ((l0.length : Int) ≤ x9_1) = false := decide_eq_false c6
              clear c6
              by_cases c9 : x9_1 < (l0.length : Int)
              · rw [if_pos c9] at H
                have c9b0 : decide (x9_1 < (l0.length : Int)) = true := decide_eq_true c9
                clear c9
                by_cases c10 : (!((((rd_T46 l0 x9_1).f0).toList) == (((rd_T46 l1 x9_1).f0).toList)) || (!((((rd_T46 l0 x9_1).f1).toList) == (((rd_T46 l1 x9_1).f1).toList)))) = true
                · rw [if_pos c10] at H
                  have c10b0 : (!((((rd_T46 l0 x9_1).f0).toList) == (((rd_T46 l1 x9_1).f0).toList)) || (!((((rd_T46 l0 x9_1).f1).toList) == (((rd_T46 l1 x9_1).f1).toList)))) = true := c10
                  clear c10
                  obtain rfl := Option.some.inj H
                  have p168 : 0 ≤ (x9_1 : Int) := of_decide_eq_true (by first | (with_reducible assumption) | assumption)
                  have q168 : x9_1 < (l1.length : Int) := of_decide_eq_true (by first | (with_reducible assumption) | assumption)
                  obtain ⟨ad168, e168, hx168_0, hx168_1⟩ := at_T46 HR1.out x9_1 p168 q168
                  cases e168
                  replace hx168_0 := (HB.out.cell (World.block_lt_of_cell? w _ hx168_0)).trans hx168_0
                  replace hx168_1 := (HB.out.cell (World.block_lt_of_cell? w _ hx168_1)).trans hx168_1
                  replace p168 := eq_true p168
                  replace q168 := eq_true q168
                  go_wp2_with (first | ((with_reducible refine gate_dst (N := 6) rfl ?_); refine box_event ?hg (N := 6) ?hd (cs := #[.string (⟨#[]⟩ : ByteArray), .string (⟨#[]⟩ : ByteArray)]) (t := 46) ?hr ?_; (case hd => rfl); (case hg => rfl); (case hr => first | (go_simp; done) | (go_simp; rfl)); intro gb169 hg w11 hbox hb; have n0_ := Aside0.mk (below_step (by repeat (first | (with_reducible first | exact HB.out | apply below_alloc | apply pw_below_drewN | apply below_drew1) | exact HB.out)) hb); have n1_ := Aside0.mk (hbox); have n2_ := Aside0.mk ((by rw [hg]; exact (below_size (by repeat (first | (with_reducible first | exact HB.out | apply below_alloc | apply pw_below_drewN | apply below_drew1) | exact HB.out))) : w.heap.size ≤ gb169)); have n3_ := Aside0.mk ((by rw [hg]; exact (below_size (by repeat (first | (with_reducible first | exact HB.out | apply below_alloc | apply pw_below_drewN | apply below_drew1) | exact HB.out))) : w.heap.size ≤ gb169)); clear HB; have HB := n0_; have BK169 := n1_; have GW169 := n2_; have GE169 := n3_; clear n0_ n1_ n2_ n3_; clear hb hbox hg; have hcz12_0 : w11.cell? ⟨gb169, 0, none⟩ = some (.string (⟨#[]⟩ : ByteArray)) := (blk_cell BK169.out 0).trans rfl; have hcz12_1 : w11.cell? ⟨gb169, 1, none⟩ = some (.string (⟨#[]⟩ : ByteArray)) := (blk_cell BK169.out 1).trans rfl; have hfz12_0 := blk_frozen BK169.out 0; have hfz12_1 := blk_frozen BK169.out 1; have p170 : 0 ≤ (x9_1 : Int) := of_decide_eq_true (by first | (with_reducible assumption) | assumption); have q170 : x9_1 < (l0.length : Int) := of_decide_eq_true (by first | (with_reducible assumption) | assumption); obtain ⟨ad170, e170, hx170_0, hx170_1⟩ := at_T46 HR0.out x9_1 p170 q170; cases e170; have hn170_0 : ad170.block ≠ gb169 := Nat.ne_of_lt (Nat.lt_of_lt_of_le (by have := World.block_lt_of_cell? _ _ hx170_0; first | rwa [add_block] at this | exact this) GW169.out); have hn170_1 : ad170.block ≠ gb169 := Nat.ne_of_lt (Nat.lt_of_lt_of_le (by have := World.block_lt_of_cell? _ _ hx170_0; first | rwa [add_block] at this | exact this) GW169.out); replace hx170_0 := (HB.out.cell (World.block_lt_of_cell? w _ hx170_0)).trans hx170_0; replace hx170_1 := (HB.out.cell (World.block_lt_of_cell? w _ hx170_1)).trans hx170_1; replace hx170_0 := (cell_far (p := ⟨gb169, 0, none⟩) (by first | (rw [add_block]; exact hn170_0) | (show (Addr.add _ _).block ≠ _; rw [add_block]; exact hn170_0) | exact hn170_0) (.string ((rd_T46 l1 x9_1).f0))).trans hx170_0; replace hx170_1 := (cell_far (p := ⟨gb169, 0, none⟩) (by first | (rw [add_block]; exact hn170_0) | (show (Addr.add _ _).block ≠ _; rw [add_block]; exact hn170_0) | exact hn170_0) (.string ((rd_T46 l1 x9_1).f0))).trans hx170_1; replace hx170_0 := (cell_far (p := ⟨gb169, 1, none⟩) (by first | (rw [add_block]; exact hn170_1) | (show (Addr.add _ _).block ≠ _; rw [add_block]; exact hn170_1) | exact hn170_1) (.string ((rd_T46 l1 x9_1).f1))).trans hx170_0; replace hx170_1 := (cell_far (p := ⟨gb169, 1, none⟩) (by first | (rw [add_block]; exact hn170_1) | (show (Addr.add _ _).block ≠ _; rw [add_block]; exact hn170_1) | exact hn170_1) (.string ((rd_T46 l1 x9_1).f1))).trans hx170_1; (try have hy170_0 := fun (n_ : Nat) => (show ((((w11.drewN n_).setCell ⟨gb169, 0, none⟩ (.string ((rd_T46 l1 x9_1).f0))).setCell ⟨gb169, 1, none⟩ (.string ((rd_T46 l1 x9_1).f1)))).cell? _ = some _ from hx170_0)); (try have hy170_1 := fun (n_ : Nat) => (show ((((w11.drewN n_).setCell ⟨gb169, 0, none⟩ (.string ((rd_T46 l1 x9_1).f0))).setCell ⟨gb169, 1, none⟩ (.string ((rd_T46 l1 x9_1).f1)))).cell? _ = some _ from hx170_1)); clear hn170_0; clear hn170_1; replace p170 := eq_true p170; replace q170 := eq_true q170))
                  repeat (go_quiet (first | ((with_reducible refine gate_dst (N := 6) rfl ?_); refine box_event ?hg (N := 6) ?hd (cs := #[.string (⟨#[]⟩ : ByteArray), .string (⟨#[]⟩ : ByteArray)]) (t := 46) ?hr ?_; (case hd => rfl); (case hg => rfl); (case hr => first | (go_simp; done) | (go_simp; rfl)); intro gb169 hg w11 hbox hb; have n0_ := Aside0.mk (below_step (by repeat (first | (with_reducible first | exact HB.out | apply below_alloc | apply pw_below_drewN | apply below_drew1) | exact HB.out)) hb); have n1_ := Aside0.mk (hbox); have n2_ := Aside0.mk ((by rw [hg]; exact (below_size (by repeat (first | (with_reducible first | exact HB.out | apply below_alloc | apply pw_below_drewN | apply below_drew1) | exact HB.out))) : w.heap.size ≤ gb169)); have n3_ := Aside0.mk ((by rw [hg]; exact (below_size (by repeat (first | (with_reducible first | exact HB.out | apply below_alloc | apply pw_below_drewN | apply below_drew1) | exact HB.out))) : w.heap.size ≤ gb169)); clear HB; have HB := n0_; have BK169 := n1_; have GW169 := n2_; have GE169 := n3_; clear n0_ n1_ n2_ n3_; clear hb hbox hg; have hcz12_0 : w11.cell? ⟨gb169, 0, none⟩ = some (.string (⟨#[]⟩ : ByteArray)) := (blk_cell BK169.out 0).trans rfl; have hcz12_1 : w11.cell? ⟨gb169, 1, none⟩ = some (.string (⟨#[]⟩ : ByteArray)) := (blk_cell BK169.out 1).trans rfl; have hfz12_0 := blk_frozen BK169.out 0; have hfz12_1 := blk_frozen BK169.out 1; have p170 : 0 ≤ (x9_1 : Int) := of_decide_eq_true (by first | (with_reducible assumption) | assumption); have q170 : x9_1 < (l0.length : Int) := of_decide_eq_true (by first | (with_reducible assumption) | assumption); obtain ⟨ad170, e170, hx170_0, hx170_1⟩ := at_T46 HR0.out x9_1 p170 q170; cases e170; have hn170_0 : ad170.block ≠ gb169 := Nat.ne_of_lt (Nat.lt_of_lt_of_le (by have := World.block_lt_of_cell? _ _ hx170_0; first | rwa [add_block] at this | exact this) GW169.out); have hn170_1 : ad170.block ≠ gb169 := Nat.ne_of_lt (Nat.lt_of_lt_of_le (by have := World.block_lt_of_cell? _ _ hx170_0; first | rwa [add_block] at this | exact this) GW169.out); replace hx170_0 := (HB.out.cell (World.block_lt_of_cell? w _ hx170_0)).trans hx170_0; replace hx170_1 := (HB.out.cell (World.block_lt_of_cell? w _ hx170_1)).trans hx170_1; replace hx170_0 := (cell_far (p := ⟨gb169, 0, none⟩) (by first | (rw [add_block]; exact hn170_0) | (show (Addr.add _ _).block ≠ _; rw [add_block]; exact hn170_0) | exact hn170_0) (.string ((rd_T46 l1 x9_1).f0))).trans hx170_0; replace hx170_1 := (cell_far (p := ⟨gb169, 0, none⟩) (by first | (rw [add_block]; exact hn170_0) | (show (Addr.add _ _).block ≠ _; rw [add_block]; exact hn170_0) | exact hn170_0) (.string ((rd_T46 l1 x9_1).f0))).trans hx170_1; replace hx170_0 := (cell_far (p := ⟨gb169, 1, none⟩) (by first | (rw [add_block]; exact hn170_1) | (show (Addr.add _ _).block ≠ _; rw [add_block]; exact hn170_1) | exact hn170_1) (.string ((rd_T46 l1 x9_1).f1))).trans hx170_0; replace hx170_1 := (cell_far (p := ⟨gb169, 1, none⟩) (by first | (rw [add_block]; exact hn170_1) | (show (Addr.add _ _).block ≠ _; rw [add_block]; exact hn170_1) | exact hn170_1) (.string ((rd_T46 l1 x9_1).f1))).trans hx170_1; (try have hy170_0 := fun (n_ : Nat) => (show ((((w11.drewN n_).setCell ⟨gb169, 0, none⟩ (.string ((rd_T46 l1 x9_1).f0))).setCell ⟨gb169, 1, none⟩ (.string ((rd_T46 l1 x9_1).f1)))).cell? _ = some _ from hx170_0)); (try have hy170_1 := fun (n_ : Nat) => (show ((((w11.drewN n_).setCell ⟨gb169, 0, none⟩ (.string ((rd_T46 l1 x9_1).f0))).setCell ⟨gb169, 1, none⟩ (.string ((rd_T46 l1 x9_1).f1)))).cell? _ = some _ from hx170_1)); clear hn170_0; clear hn170_1; replace p170 := eq_true p170; replace q170 := eq_true q170)); try go_wp2_with (first | ((with_reducible refine gate_dst (N := 6) rfl ?_); refine box_event ?hg (N := 6) ?hd (cs := #[.string (⟨#[]⟩ : ByteArray), .string (⟨#[]⟩ : ByteArray)]) (t := 46) ?hr ?_; (case hd => rfl); (case hg => rfl); (case hr => first | (go_simp; done) | (go_simp; rfl)); intro gb169 hg w11 hbox hb; have n0_ := Aside0.mk (below_step (by repeat (first | (with_reducible first | exact HB.out | apply below_alloc | apply pw_below_drewN | apply below_drew1) | exact HB.out)) hb); have n1_ := Aside0.mk (hbox); have n2_ := Aside0.mk ((by rw [hg]; exact (below_size (by repeat (first | (with_reducible first | exact HB.out | apply below_alloc | apply pw_below_drewN | apply below_drew1) | exact HB.out))) : w.heap.size ≤ gb169)); have n3_ := Aside0.mk ((by rw [hg]; exact (below_size (by repeat (first | (with_reducible first | exact HB.out | apply below_alloc | apply pw_below_drewN | apply below_drew1) | exact HB.out))) : w.heap.size ≤ gb169)); clear HB; have HB := n0_; have BK169 := n1_; have GW169 := n2_; have GE169 := n3_; clear n0_ n1_ n2_ n3_; clear hb hbox hg; have hcz12_0 : w11.cell? ⟨gb169, 0, none⟩ = some (.string (⟨#[]⟩ : ByteArray)) := (blk_cell BK169.out 0).trans rfl; have hcz12_1 : w11.cell? ⟨gb169, 1, none⟩ = some (.string (⟨#[]⟩ : ByteArray)) := (blk_cell BK169.out 1).trans rfl; have hfz12_0 := blk_frozen BK169.out 0; have hfz12_1 := blk_frozen BK169.out 1; have p170 : 0 ≤ (x9_1 : Int) := of_decide_eq_true (by first | (with_reducible assumption) | assumption); have q170 : x9_1 < (l0.length : Int) := of_decide_eq_true (by first | (with_reducible assumption) | assumption); obtain ⟨ad170, e170, hx170_0, hx170_1⟩ := at_T46 HR0.out x9_1 p170 q170; cases e170; have hn170_0 : ad170.block ≠ gb169 := Nat.ne_of_lt (Nat.lt_of_lt_of_le (by have := World.block_lt_of_cell? _ _ hx170_0; first | rwa [add_block] at this | exact this) GW169.out); have hn170_1 : ad170.block ≠ gb169 := Nat.ne_of_lt (Nat.lt_of_lt_of_le (by have := World.block_lt_of_cell? _ _ hx170_0; first | rwa [add_block] at this | exact this) GW169.out); replace hx170_0 := (HB.out.cell (World.block_lt_of_cell? w _ hx170_0)).trans hx170_0; replace hx170_1 := (HB.out.cell (World.block_lt_of_cell? w _ hx170_1)).trans hx170_1; replace hx170_0 := (cell_far (p := ⟨gb169, 0, none⟩) (by first | (rw [add_block]; exact hn170_0) | (show (Addr.add _ _).block ≠ _; rw [add_block]; exact hn170_0) | exact hn170_0) (.string ((rd_T46 l1 x9_1).f0))).trans hx170_0; replace hx170_1 := (cell_far (p := ⟨gb169, 0, none⟩) (by first | (rw [add_block]; exact hn170_0) | (show (Addr.add _ _).block ≠ _; rw [add_block]; exact hn170_0) | exact hn170_0) (.string ((rd_T46 l1 x9_1).f0))).trans hx170_1; replace hx170_0 := (cell_far (p := ⟨gb169, 1, none⟩) (by first | (rw [add_block]; exact hn170_1) | (show (Addr.add _ _).block ≠ _; rw [add_block]; exact hn170_1) | exact hn170_1) (.string ((rd_T46 l1 x9_1).f1))).trans hx170_0; replace hx170_1 := (cell_far (p := ⟨gb169, 1, none⟩) (by first | (rw [add_block]; exact hn170_1) | (show (Addr.add _ _).block ≠ _; rw [add_block]; exact hn170_1) | exact hn170_1) (.string ((rd_T46 l1 x9_1).f1))).trans hx170_1; (try have hy170_0 := fun (n_ : Nat) => (show ((((w11.drewN n_).setCell ⟨gb169, 0, none⟩ (.string ((rd_T46 l1 x9_1).f0))).setCell ⟨gb169, 1, none⟩ (.string ((rd_T46 l1 x9_1).f1)))).cell? _ = some _ from hx170_0)); (try have hy170_1 := fun (n_ : Nat) => (show ((((w11.drewN n_).setCell ⟨gb169, 0, none⟩ (.string ((rd_T46 l1 x9_1).f0))).setCell ⟨gb169, 1, none⟩ (.string ((rd_T46 l1 x9_1).f1)))).cell? _ = some _ from hx170_1)); clear hn170_0; clear hn170_1; replace p170 := eq_true p170; replace q170 := eq_true q170)))
                  go_ret
                  exact ⟨by first | rfl | (simp [errW_none, errW_some] <;> rfl) | (simp [*, errW_none, errW_some] <;> rfl), by repeat (first | (with_reducible first | exact HB.out | apply below_alloc | apply pw_below_drewN | apply below_drew1 | refine below_set ?_ GE169.out) | exact HB.out)⟩
                · rw [if_neg c10] at H
                  have c10b0 : (!((((rd_T46 l0 x9_1).f0).toList) == (((rd_T46 l1 x9_1).f0).toList)) || (!((((rd_T46 l0 x9_1).f1).toList) == (((rd_T46 l1 x9_1).f1).toList)))) = false := by simpa using c10
                  clear c10
                  have H' := Aside0.mk H
                  clear H
                  have p168 : 0 ≤ (x9_1 : Int) := of_decide_eq_true (by first | (with_reducible assumption) | assumption)
                  have q168 : x9_1 < (l1.length : Int) := of_decide_eq_true (by first | (with_reducible assumption) | assumption)
                  obtain ⟨ad168, e168, hx168_0, hx168_1⟩ := at_T46 HR1.out x9_1 p168 q168
                  cases e168
                  replace hx168_0 := (HB.out.cell (World.block_lt_of_cell? w _ hx168_0)).trans hx168_0
                  replace hx168_1 := (HB.out.cell (World.block_lt_of_cell? w _ hx168_1)).trans hx168_1
                  replace p168 := eq_true p168
                  replace q168 := eq_true q168
                  go_wp2_with (first | ((with_reducible refine gate_dst (N := 6) rfl ?_); refine box_event ?hg (N := 6) ?hd (cs := #[.string (⟨#[]⟩ : ByteArray), .string (⟨#[]⟩ : ByteArray)]) (t := 46) ?hr ?_; (case hd => rfl); (case hg => rfl); (case hr => first | (go_simp; done) | (go_simp; rfl)); intro gb169 hg w13 hbox hb; have n0_ := Aside0.mk (below_step (by repeat (first | (with_reducible first | exact HB.out | apply below_alloc | apply pw_below_drewN | apply below_drew1) | exact HB.out)) hb); have n1_ := Aside0.mk (hbox); have n2_ := Aside0.mk ((by rw [hg]; exact (below_size (by repeat (first | (with_reducible first | exact HB.out | apply below_alloc | apply pw_below_drewN | apply below_drew1) | exact HB.out))) : w.heap.size ≤ gb169)); have n3_ := Aside0.mk ((by rw [hg]; exact (below_size (by repeat (first | (with_reducible first | exact HB.out | apply below_alloc | apply pw_below_drewN | apply below_drew1) | exact HB.out))) : w.heap.size ≤ gb169)); clear HB; have HB := n0_; have BK169 := n1_; have GW169 := n2_; have GE169 := n3_; clear n0_ n1_ n2_ n3_; clear hb hbox hg; have hcz14_0 : w13.cell? ⟨gb169, 0, none⟩ = some (.string (⟨#[]⟩ : ByteArray)) := (blk_cell BK169.out 0).trans rfl; have hcz14_1 : w13.cell? ⟨gb169, 1, none⟩ = some (.string (⟨#[]⟩ : ByteArray)) := (blk_cell BK169.out 1).trans rfl; have hfz14_0 := blk_frozen BK169.out 0; have hfz14_1 := blk_frozen BK169.out 1; have p170 : 0 ≤ (x9_1 : Int) := of_decide_eq_true (by first | (with_reducible assumption) | assumption); have q170 : x9_1 < (l0.length : Int) := of_decide_eq_true (by first | (with_reducible assumption) | assumption); obtain ⟨ad170, e170, hx170_0, hx170_1⟩ := at_T46 HR0.out x9_1 p170 q170; cases e170; have hn170_0 : ad170.block ≠ gb169 := Nat.ne_of_lt (Nat.lt_of_lt_of_le (by have := World.block_lt_of_cell? _ _ hx170_0; first | rwa [add_block] at this | exact this) GW169.out); have hn170_1 : ad170.block ≠ gb169 := Nat.ne_of_lt (Nat.lt_of_lt_of_le (by have := World.block_lt_of_cell? _ _ hx170_0; first | rwa [add_block] at this | exact this) GW169.out); replace hx170_0 := (HB.out.cell (World.block_lt_of_cell? w _ hx170_0)).trans hx170_0; replace hx170_1 := (HB.out.cell (World.block_lt_of_cell? w _ hx170_1)).trans hx170_1; replace hx170_0 := (cell_far (p := ⟨gb169, 0, none⟩) (by first | (rw [add_block]; exact hn170_0) | (show (Addr.add _ _).block ≠ _; rw [add_block]; exact hn170_0) | exact hn170_0) (.string ((rd_T46 l1 x9_1).f0))).trans hx170_0; replace hx170_1 := (cell_far (p := ⟨gb169, 0, none⟩) (by first | (rw [add_block]; exact hn170_0) | (show (Addr.add _ _).block ≠ _; rw [add_block]; exact hn170_0) | exact hn170_0) (.string ((rd_T46 l1 x9_1).f0))).trans hx170_1; replace hx170_0 := (cell_far (p := ⟨gb169, 1, none⟩) (by first | (rw [add_block]; exact hn170_1) | (show (Addr.add _ _).block ≠ _; rw [add_block]; exact hn170_1) | exact hn170_1) (.string ((rd_T46 l1 x9_1).f1))).trans hx170_0; replace hx170_1 := (cell_far (p := ⟨gb169, 1, none⟩) (by first | (rw [add_block]; exact hn170_1) | (show (Addr.add _ _).block ≠ _; rw [add_block]; exact hn170_1) | exact hn170_1) (.string ((rd_T46 l1 x9_1).f1))).trans hx170_1; (try have hy170_0 := fun (n_ : Nat) => (show ((((w13.drewN n_).setCell ⟨gb169, 0, none⟩ (.string ((rd_T46 l1 x9_1).f0))).setCell ⟨gb169, 1, none⟩ (.string ((rd_T46 l1 x9_1).f1)))).cell? _ = some _ from hx170_0)); (try have hy170_1 := fun (n_ : Nat) => (show ((((w13.drewN n_).setCell ⟨gb169, 0, none⟩ (.string ((rd_T46 l1 x9_1).f0))).setCell ⟨gb169, 1, none⟩ (.string ((rd_T46 l1 x9_1).f1)))).cell? _ = some _ from hx170_1)); clear hn170_0; clear hn170_1; replace p170 := eq_true p170; replace q170 := eq_true q170))
                  repeat (go_quiet (first | ((with_reducible refine gate_dst (N := 6) rfl ?_); refine box_event ?hg (N := 6) ?hd (cs := #[.string (⟨#[]⟩ : ByteArray), .string (⟨#[]⟩ : ByteArray)]) (t := 46) ?hr ?_; (case hd => rfl); (case hg => rfl); (case hr => first | (go_simp; done) | (go_simp; rfl)); intro gb169 hg w13 hbox hb; have n0_ := Aside0.mk (below_step (by repeat (first | (with_reducible first | exact HB.out | apply below_alloc | apply pw_below_drewN | apply below_drew1) | exact HB.out)) hb); have n1_ := Aside0.mk (hbox); have n2_ := Aside0.mk ((by rw [hg]; exact (below_size (by repeat (first | (with_reducible first | exact HB.out | apply below_alloc | apply pw_below_drewN | apply below_drew1) | exact HB.out))) : w.heap.size ≤ gb169)); have n3_ := Aside0.mk ((by rw [hg]; exact (below_size (by repeat (first | (with_reducible first | exact HB.out | apply below_alloc | apply pw_below_drewN | apply below_drew1) | exact HB.out))) : w.heap.size ≤ gb169)); clear HB; have HB := n0_; have BK169 := n1_; have GW169 := n2_; have GE169 := n3_; clear n0_ n1_ n2_ n3_; clear hb hbox hg; have hcz14_0 : w13.cell? ⟨gb169, 0, none⟩ = some (.string (⟨#[]⟩ : ByteArray)) := (blk_cell BK169.out 0).trans rfl; have hcz14_1 : w13.cell? ⟨gb169, 1, none⟩ = some (.string (⟨#[]⟩ : ByteArray)) := (blk_cell BK169.out 1).trans rfl; have hfz14_0 := blk_frozen BK169.out 0; have hfz14_1 := blk_frozen BK169.out 1; have p170 : 0 ≤ (x9_1 : Int) := of_decide_eq_true (by first | (with_reducible assumption) | assumption); have q170 : x9_1 < (l0.length : Int) := of_decide_eq_true (by first | (with_reducible assumption) | assumption); obtain ⟨ad170, e170, hx170_0, hx170_1⟩ := at_T46 HR0.out x9_1 p170 q170; cases e170; have hn170_0 : ad170.block ≠ gb169 := Nat.ne_of_lt (Nat.lt_of_lt_of_le (by have := World.block_lt_of_cell? _ _ hx170_0; first | rwa [add_block] at this | exact this) GW169.out); have hn170_1 : ad170.block ≠ gb169 := Nat.ne_of_lt (Nat.lt_of_lt_of_le (by have := World.block_lt_of_cell? _ _ hx170_0; first | rwa [add_block] at this | exact this) GW169.out); replace hx170_0 := (HB.out.cell (World.block_lt_of_cell? w _ hx170_0)).trans hx170_0; replace hx170_1 := (HB.out.cell (World.block_lt_of_cell? w _ hx170_1)).trans hx170_1; replace hx170_0 := (cell_far (p := ⟨gb169, 0, none⟩) (by first | (rw [add_block]; exact hn170_0) | (show (Addr.add _ _).block ≠ _; rw [add_block]; exact hn170_0) | exact hn170_0) (.string ((rd_T46 l1 x9_1).f0))).trans hx170_0; replace hx170_1 := (cell_far (p := ⟨gb169, 0, none⟩) (by first | (rw [add_block]; exact hn170_0) | (show (Addr.add _ _).block ≠ _; rw [add_block]; exact hn170_0) | exact hn170_0) (.string ((rd_T46 l1 x9_1).f0))).trans hx170_1; replace hx170_0 := (cell_far (p := ⟨gb169, 1, none⟩) (by first | (rw [add_block]; exact hn170_1) | (show (Addr.add _ _).block ≠ _; rw [add_block]; exact hn170_1) | exact hn170_1) (.string ((rd_T46 l1 x9_1).f1))).trans hx170_0; replace hx170_1 := (cell_far (p := ⟨gb169, 1, none⟩) (by first | (rw [add_block]; exact hn170_1) | (show (Addr.add _ _).block ≠ _; rw [add_block]; exact hn170_1) | exact hn170_1) (.string ((rd_T46 l1 x9_1).f1))).trans hx170_1; (try have hy170_0 := fun (n_ : Nat) => (show ((((w13.drewN n_).setCell ⟨gb169, 0, none⟩ (.string ((rd_T46 l1 x9_1).f0))).setCell ⟨gb169, 1, none⟩ (.string ((rd_T46 l1 x9_1).f1)))).cell? _ = some _ from hx170_0)); (try have hy170_1 := fun (n_ : Nat) => (show ((((w13.drewN n_).setCell ⟨gb169, 0, none⟩ (.string ((rd_T46 l1 x9_1).f0))).setCell ⟨gb169, 1, none⟩ (.string ((rd_T46 l1 x9_1).f1)))).cell? _ = some _ from hx170_1)); clear hn170_0; clear hn170_1; replace p170 := eq_true p170; replace q170 := eq_true q170)); try go_wp2_with (first | ((with_reducible refine gate_dst (N := 6) rfl ?_); refine box_event ?hg (N := 6) ?hd (cs := #[.string (⟨#[]⟩ : ByteArray), .string (⟨#[]⟩ : ByteArray)]) (t := 46) ?hr ?_; (case hd => rfl); (case hg => rfl); (case hr => first | (go_simp; done) | (go_simp; rfl)); intro gb169 hg w13 hbox hb; have n0_ := Aside0.mk (below_step (by repeat (first | (with_reducible first | exact HB.out | apply below_alloc | apply pw_below_drewN | apply below_drew1) | exact HB.out)) hb); have n1_ := Aside0.mk (hbox); have n2_ := Aside0.mk ((by rw [hg]; exact (below_size (by repeat (first | (with_reducible first | exact HB.out | apply below_alloc | apply pw_below_drewN | apply below_drew1) | exact HB.out))) : w.heap.size ≤ gb169)); have n3_ := Aside0.mk ((by rw [hg]; exact (below_size (by repeat (first | (with_reducible first | exact HB.out | apply below_alloc | apply pw_below_drewN | apply below_drew1) | exact HB.out))) : w.heap.size ≤ gb169)); clear HB; have HB := n0_; have BK169 := n1_; have GW169 := n2_; have GE169 := n3_; clear n0_ n1_ n2_ n3_; clear hb hbox hg; have hcz14_0 : w13.cell? ⟨gb169, 0, none⟩ = some (.string (⟨#[]⟩ : ByteArray)) := (blk_cell BK169.out 0).trans rfl; have hcz14_1 : w13.cell? ⟨gb169, 1, none⟩ = some (.string (⟨#[]⟩ : ByteArray)) := (blk_cell BK169.out 1).trans rfl; have hfz14_0 := blk_frozen BK169.out 0; have hfz14_1 := blk_frozen BK169.out 1; have p170 : 0 ≤ (x9_1 : Int) := of_decide_eq_true (by first | (with_reducible assumption) | assumption); have q170 : x9_1 < (l0.length : Int) := of_decide_eq_true (by first | (with_reducible assumption) | assumption); obtain ⟨ad170, e170, hx170_0, hx170_1⟩ := at_T46 HR0.out x9_1 p170 q170; cases e170; have hn170_0 : ad170.block ≠ gb169 := Nat.ne_of_lt (Nat.lt_of_lt_of_le (by have := World.block_lt_of_cell? _ _ hx170_0; first | rwa [add_block] at this | exact this) GW169.out); have hn170_1 : ad170.block ≠ gb169 := Nat.ne_of_lt (Nat.lt_of_lt_of_le (by have := World.block_lt_of_cell? _ _ hx170_0; first | rwa [add_block] at this | exact this) GW169.out); replace hx170_0 := (HB.out.cell (World.block_lt_of_cell? w _ hx170_0)).trans hx170_0; replace hx170_1 := (HB.out.cell (World.block_lt_of_cell? w _ hx170_1)).trans hx170_1; replace hx170_0 := (cell_far (p := ⟨gb169, 0, none⟩) (by first | (rw [add_block]; exact hn170_0) | (show (Addr.add _ _).block ≠ _; rw [add_block]; exact hn170_0) | exact hn170_0) (.string ((rd_T46 l1 x9_1).f0))).trans hx170_0; replace hx170_1 := (cell_far (p := ⟨gb169, 0, none⟩) (by first | (rw [add_block]; exact hn170_0) | (show (Addr.add _ _).block ≠ _; rw [add_block]; exact hn170_0) | exact hn170_0) (.string ((rd_T46 l1 x9_1).f0))).trans hx170_1; replace hx170_0 := (cell_far (p := ⟨gb169, 1, none⟩) (by first | (rw [add_block]; exact hn170_1) | (show (Addr.add _ _).block ≠ _; rw [add_block]; exact hn170_1) | exact hn170_1) (.string ((rd_T46 l1 x9_1).f1))).trans hx170_0; replace hx170_1 := (cell_far (p := ⟨gb169, 1, none⟩) (by first | (rw [add_block]; exact hn170_1) | (show (Addr.add _ _).block ≠ _; rw [add_block]; exact hn170_1) | exact hn170_1) (.string ((rd_T46 l1 x9_1).f1))).trans hx170_1; (try have hy170_0 := fun (n_ : Nat) => (show ((((w13.drewN n_).setCell ⟨gb169, 0, none⟩ (.string ((rd_T46 l1 x9_1).f0))).setCell ⟨gb169, 1, none⟩ (.string ((rd_T46 l1 x9_1).f1)))).cell? _ = some _ from hx170_0)); (try have hy170_1 := fun (n_ : Nat) => (show ((((w13.drewN n_).setCell ⟨gb169, 0, none⟩ (.string ((rd_T46 l1 x9_1).f0))).setCell ⟨gb169, 1, none⟩ (.string ((rd_T46 l1 x9_1).f1)))).cell? _ = some _ from hx170_1)); clear hn170_0; clear hn170_1; replace p170 := eq_true p170; replace q170 := eq_true q170)))
                  go_roundg k1
                  case measure => have := HK1.out; omega
                  case rel => exact ⟨(wrap64 (x9_1 + 1)), (by first | rfl | (simp; done) | (simp [*]; done) | exact congrArg Value.bool (isEmpty_ne _) | exact congrArg Value.bool (notEmpty_ne _)), H', ⟨by have := HK1.out; omega⟩, ⟨by repeat (first | (with_reducible first | exact HB.out | apply below_alloc | apply pw_below_drewN | apply below_drew1 | refine below_set ?_ GE169.out) | exact HB.out)⟩⟩
              · rw [if_neg c9] at H
                exact absurd H (by simp)
          · rw [if_neg c5] at H
            exact absurd H (by simp)
        · rw [if_neg c4] at H
          exact absurd H (by simp)
      · rw [if_neg c3] at H
        have c3b0 : decide (x9_1 < (l1.length : Int)) = false := decide_eq_false c3
        clear c3
        obtain rfl := Option.some.inj H
        go_wp2
        repeat (go_quiet (fail); try go_wp2)
        go_ret
        exact ⟨by first | rfl | (simp [errW_none, errW_some] <;> rfl) | (simp [*, errW_none, errW_some] <;> rfl), by repeat (first | (with_reducible first | exact HB.out | apply below_alloc | apply pw_below_drewN | apply below_drew1) | exact HB.out)⟩

/-! ### tollbarlaw15_awake: function 7 -/
def awW : List S46 := [⟨⟨#[112, 111, 114, 116]⟩, ⟨#[97]⟩⟩, ⟨⟨#[117, 112]⟩, ⟨#[]⟩⟩]
def tollbarlaw15_awake.f : Option Bool := some true
set_option maxHeartbeats 4000000 in
set_option maxRecDepth 100000 in
theorem awake_of (k : Nat) (u1 : ByteArray) (u2 u4 u5 : Int) (u6 : List ByteArray) (u7 : Bool) (u8 : Int) (u9 : List S34) (y1 : ByteArray) (y2 y3 y4 y5 : Int) (y6 : List ByteArray) (y7 : Bool) (y8 : Int) (y9 : List S34)
    (hp1 : path_Parse.f k (⟨#[47, 112, 111, 114, 116, 91, 97, 93, 47, 117, 112]⟩ : ByteArray) = some (awW, 0, 0)) (hp2 : path_Parse.f k (⟨#[47, 112, 111, 114, 116, 91, 65, 93]⟩ : ByteArray) = some ([], 22, 6))
    (ha1 : path_At.f 1 awW = some (u1, u2, 3, u4, u5, u6, u7, u8, u9, 0)) (ha2 : path_At.f 1 [⟨⟨#[112, 111, 114, 116]⟩, ⟨#[]⟩⟩] = some (y1, y2, y3, y4, y5, y6, y7, y8, y9, 23))
    (hs : path_Show.f awW = some (⟨#[47, 112, 111, 114, 116, 91, 97, 93, 47, 117, 112]⟩ : ByteArray)) (hs0 : path_Show.f [] = some ⟨#[47]⟩)
    (hu1 : path_Under.f k awW (awW.take 1) = some true) (hu2 : path_Under.f k (awW.take 1) awW = some false) (w : World) :
    Calls Tryd.prog 7 #[] w fun e w' => e = .returned (.bool true) ∧ Below w.heap.size w w' := by
  go_enter Tryd.func7, Tryd.ntmps7
  go_wp2_with (fail)
  refine (path_Parse.calls k _ _ _ _ _ hp1).mono ?_
  rintro e w1 ⟨v0, rfl, R1, hb1⟩
  go_wp2_with (fail)
  refine (path_Parse.calls k _ _ _ _ _ hp2).mono ?_
  rintro e w2 ⟨v1, rfl, -, hb2⟩
  obtain ⟨A, c, rfl, hlc, hC1⟩ := Kd.R_reads R1
  have hC2 := Kd.C_below hC1 hb2
  have hB2 := below_step hb1 hb2
  clear hC1 R1 hb1 hb2
  go_wp2_with (fail)
  refine (path_At.calls 1 A c awW _ _ _ _ _ _ _ _ _ _ _ hC2 hlc ha1).mono ?_
  rintro e w3 ⟨v5, v8, rfl, V5, V8, hb3⟩
  obtain ⟨A5, c5, rfl⟩ := Kd.V_slice V5
  obtain ⟨A8, c8, rfl⟩ := Kd.V_slice V8
  have hC3 := Kd.C_below hC2 hb3
  have hB3 := below_step hB2 hb3
  have hX3 := blk_new w3 (.cells #[.string u1, .int .i64 u2, .int .i64 3, .int .u64 u4, .int .u64 u5, .slice A5 u6.length c5, .bool u7, .int .i64 u8, .slice A8 u9.length c8] 34)
  go_wp2_with (fail)
  have hN4 : ((w3.alloc (.cells #[.string u1, .int .i64 u2, .int .i64 3, .int .u64 u4, .int .u64 u5, .slice A5 u6.length c5, .bool u7, .int .i64 u8, .slice A8 u9.length c8] 34)).alloc (.cells #[.string ⟨#[112, 111, 114, 116]⟩, .string ⟨#[]⟩] 46)).heap[w3.heap.size + 1]? = some (.cells #[.string ⟨#[112, 111, 114, 116]⟩, .string ⟨#[]⟩] 46 (0, 0)) := by
    have := blk_new (w3.alloc (.cells #[.string u1, .int .i64 u2, .int .i64 3, .int .u64 u4, .int .u64 u5, .slice A5 u6.length c5, .bool u7, .int .i64 u8, .slice A8 u9.length c8] 34)) (.cells #[.string ⟨#[112, 111, 114, 116]⟩, .string ⟨#[]⟩] 46)
    simpa using this
  have hX4 := blk_alloc hX3 (.cells #[.string ⟨#[112, 111, 114, 116]⟩, .string ⟨#[]⟩] 46)
  have hB4 := below_alloc (below_alloc hB3 (.cells #[.string u1, .int .i64 u2, .int .i64 3, .int .u64 u4, .int .u64 u5, .slice A5 u6.length c5, .bool u7, .int .i64 u8, .slice A8 u9.length c8] 34)) (.cells #[.string ⟨#[112, 111, 114, 116]⟩, .string ⟨#[]⟩] 46)
  have hC4 := Kd.C_below hC3 (below_alloc (below_alloc (Below.refl _ _) (.cells #[.string u1, .int .i64 u2, .int .i64 3, .int .u64 u4, .int .u64 u5, .slice A5 u6.length c5, .bool u7, .int .i64 u8, .slice A8 u9.length c8] 34)) (.cells #[.string ⟨#[112, 111, 114, 116]⟩, .string ⟨#[]⟩] 46))
  have hN : Kd.C k46 ((w3.alloc (.cells #[.string u1, .int .i64 u2, .int .i64 3, .int .u64 u4, .int .u64 u5, .slice A5 u6.length c5, .bool u7, .int .i64 u8, .slice A8 u9.length c8] 34)).alloc (.cells #[.string ⟨#[112, 111, 114, 116]⟩, .string ⟨#[]⟩] 46)) (some ⟨w3.heap.size + 1, 0, none⟩) [(⟨⟨#[112, 111, 114, 116]⟩, ⟨#[]⟩⟩ : S46)].length [⟨⟨#[112, 111, 114, 116]⟩, ⟨#[]⟩⟩] := Kd.F_now (F_blk k46 (ok := fun _ => True) hN4 trivial (by decide) (Reps_cons (c := [.string ⟨#[112, 111, 114, 116]⟩, .string ⟨#[]⟩]) ⟨fun W' _ => ⟨[.string ⟨#[112, 111, 114, 116]⟩], [.string ⟨#[]⟩], rfl, rfl, rfl⟩, rfl⟩ rfl (Reps.none _ _)))
  refine (path_At.calls 1 (some ⟨w3.heap.size + 1, 0, none⟩) 1 [⟨⟨#[112, 111, 114, 116]⟩, ⟨#[]⟩⟩] _ _ _ _ _ _ _ _ _ _ _ hN (Nat.le_refl 1) ha2).mono ?_
  rintro e w4 ⟨v5', v8', rfl, V5', V8', hb4⟩
  obtain ⟨A5', c5', rfl⟩ := Kd.V_slice V5'
  obtain ⟨A8', c8', rfl⟩ := Kd.V_slice V8'
  have hX5 := blk_alloc (blk_below hX4 hb4) (.cells #[.string y1, .int .i64 y2, .int .i64 y3, .int .u64 y4, .int .u64 y5, .slice A5' y6.length c5', .bool y7, .int .i64 y8, .slice A8' y9.length c8'] 34)
  have hB5 := below_alloc (below_step hB4 hb4) (.cells #[.string y1, .int .i64 y2, .int .i64 y3, .int .u64 y4, .int .u64 y5, .slice A5' y6.length c5', .bool y7, .int .i64 y8, .slice A8' y9.length c8'] 34)
  have hC5 := Kd.C_below (Kd.C_below hC4 hb4) (below_alloc (Below.refl _ _) (.cells #[.string y1, .int .i64 y2, .int .i64 y3, .int .u64 y4, .int .u64 y5, .slice A5' y6.length c5', .bool y7, .int .i64 y8, .slice A8' y9.length c8'] 34))
  have kt : (w4.alloc (.cells #[.string y1, .int .i64 y2, .int .i64 y3, .int .u64 y4, .int .u64 y5, .slice A5' y6.length c5', .bool y7, .int .i64 y8, .slice A8' y9.length c8'] 34)).cell? ⟨w3.heap.size, 2, none⟩ = some (.int .i64 3) := (blk_cell hX5 2).trans rfl
  obtain ⟨ad, eA, h0, h1⟩ := at_T46 hC5 0 (by decide) (by decide)
  subst eA
  have z0 : ((w4.alloc (.cells #[.string y1, .int .i64 y2, .int .i64 y3, .int .u64 y4, .int .u64 y5, .slice A5' y6.length c5', .bool y7, .int .i64 y8, .slice A8' y9.length c8'] 34)).cell? (ad.add 0) = some (.string ⟨#[112, 111, 114, 116]⟩)) := h0
  have z1 : ((w4.alloc (.cells #[.string y1, .int .i64 y2, .int .i64 y3, .int .u64 y4, .int .u64 y5, .slice A5' y6.length c5', .bool y7, .int .i64 y8, .slice A8' y9.length c8'] 34)).cell? ⟨(ad.add 0).block, (ad.add 0).off + 1, none⟩ = some (.string ⟨#[97]⟩)) := h1
  have ea : ad.add 0 = ad := by simp [Addr.add]
  rw [ea] at z0 z1
  have dl : ((awW.length : Int) == 2) = true := by decide
  have dl1 : decide ((0 : Int) < (awW.length : Int)) = true := by decide
  have dl2 : decide ((0 : Int) ≤ (0 : Int)) = true := by decide
  clear h0 h1 hX3 hX4 hN4 hN hB4 hC4 V5 V8 V5' V8' hb3 hb4 hC3 hB3 hC2 hB2
  go_wp2_with (fail)
  refine (path_Show.calls (some ad) c awW _ _ hC5 hlc hs).mono ?_
  rintro e w5 ⟨rfl, hb5⟩
  have kt5 := pw_cell_below hb5 kt
  have hC6 := Kd.C_below hC5 hb5
  have hB6 := below_step hB5 hb5
  have es : ((⟨#[47, 112, 111, 114, 116, 91, 97, 93, 47, 117, 112]⟩ : ByteArray).toList == (⟨#[47, 112, 111, 114, 116, 91, 97, 93, 47, 117, 112]⟩ : ByteArray).toList) = true := beq_self_eq_true _
  clear z0 z1 hb5 hC5 hB5 kt hX5
  go_wp2_with (fail)
  refine (path_Show.calls none 0 [] _ _ (Kd.C_nil _ _) (Nat.le_refl 0) hs0).mono ?_
  rintro e w6 ⟨rfl, hb6⟩
  have hC7 := Kd.C_below hC6 hb6
  have hB7 := below_step hB6 hb6
  have es2 : ((⟨#[47]⟩ : ByteArray).toList == (⟨#[47]⟩ : ByteArray).toList) = true := beq_self_eq_true _
  have hlc2 : 2 ≤ c := hlc
  have dc1 : decide ((1 : Int) ≤ (c : Int)) = true := by simp; omega
  have dc2 : decide (1 ≤ c) = true := by simp; omega
  have dc3 : (c < 1) = False := eq_false (by omega)
  have hT : Kd.C k46 w6 (some ad) (awW.take 1).length (awW.take 1) := Kd.C_take hC7 (by decide)
  go_wp2_with (fail)
  refine (path_Under.calls k (some ad) c awW (some ad) c (awW.take 1) _ _ hC7 hlc hT (by have : (awW.take 1).length = 1 := rfl; omega) hu1).mono ?_
  rintro e w7 ⟨rfl, hb7⟩
  go_wp2_with (fail)
  refine (path_Under.calls k (some ad) c (awW.take 1) (some ad) c awW _ _ (Kd.C_below hT hb7) (by have : (awW.take 1).length = 1 := rfl; omega) (Kd.C_below hC7 hb7) hlc hu2).mono ?_
  rintro e w8 ⟨rfl, hb8⟩
  go_wp2
  go_ret
  exact ⟨rfl, below_step (below_step hB7 hb7) hb8⟩
theorem tollbarlaw15_awake.calls (r : Bool) (w : World) (h : tollbarlaw15_awake.f = some r) :
    Calls Tryd.prog 7 #[] w fun e w' => e = .returned (.bool r) ∧ Below w.heap.size w w' := by
  cases h
  exact awake_of 60 ⟨#[117, 112]⟩ 1 0 0 [] false 0 [] ⟨#[]⟩ 0 0 0 0 [] false 0 [] (by kernel_rfl) (by kernel_rfl) (by kernel_rfl) (by kernel_rfl) (by kernel_rfl) (by kernel_rfl) (by kernel_rfl) (by kernel_rfl) w

/-! ### tollbarref15_word: function 21 -/
def tollbarref15_word.l0 : Nat → ByteArray → Int → Option (Int)
  | 0, _, _ => none
  | k + 1, x0, x1 => if x1 < (x0.size : Int) then (if 0 ≤ x1 then (if (bt x0 x1) ≥ 97 then (if (bt x0 x1) ≤ 122 then (tollbarref15_word.l0 k x0 (wrap64 (x1 + 1))) else (if (bt x0 x1) ≥ 48 then (if (bt x0 x1) ≤ 57 then (tollbarref15_word.l0 k x0 (wrap64 (x1 + 1))) else (if (bt x0 x1) = 45 then (tollbarref15_word.l0 k x0 (wrap64 (x1 + 1))) else (some x1))) else (if (bt x0 x1) = 45 then (tollbarref15_word.l0 k x0 (wrap64 (x1 + 1))) else (some x1)))) else (if (bt x0 x1) ≥ 48 then (if (bt x0 x1) ≤ 57 then (tollbarref15_word.l0 k x0 (wrap64 (x1 + 1))) else (if (bt x0 x1) = 45 then (tollbarref15_word.l0 k x0 (wrap64 (x1 + 1))) else (some x1))) else (if (bt x0 x1) = 45 then (tollbarref15_word.l0 k x0 (wrap64 (x1 + 1))) else (some x1)))) else (none)) else (some x1)
def tollbarref15_word.f (k : Nat) (a0 : ByteArray) (a1 : Int) : Option (Int) := tollbarref15_word.l0 k a0 a1
theorem tollbarref15_word.mono_l : ∀ k, (∀ y0 y1, LeO (tollbarref15_word.l0 k y0 y1) (tollbarref15_word.l0 (k + 1) y0 y1))
  | 0 => fun _ _ r h => by simp [tollbarref15_word.l0] at h
  | k + 1 => by
    have ih0 := tollbarref15_word.mono_l k
    · intro y0 y1
      unfold tollbarref15_word.l0
      repeat' first
      | (with_reducible exact ih0 _ _)
      | (with_reducible exact LeO.refl _)
      | (with_reducible exact LeO.none _)
      | (with_reducible refine LeO.ite ?_ ?_)
      | (with_reducible refine LeO.bind ?_ (fun _ => ?_))
      | exact ih0 _ _
      | exact LeO.none _
      | refine LeO.ite ?_ ?_
      | refine LeO.bind ?_ (fun _ => ?_)
theorem tollbarref15_word.mono : ∀ a0 a1 k, LeO (tollbarref15_word.f k a0 a1) (tollbarref15_word.f (k + 1) a0 a1) := by
  intro a0 a1 k
  have ih0 := tollbarref15_word.mono_l k
  unfold tollbarref15_word.f
  repeat' first
      | (with_reducible exact ih0 _ _)
      | (with_reducible exact LeO.refl _)
      | (with_reducible exact LeO.none _)
      | (with_reducible refine LeO.ite ?_ ?_)
      | (with_reducible refine LeO.bind ?_ (fun _ => ?_))
      | exact ih0 _ _
      | exact LeO.none _
      | refine LeO.ite ?_ ?_
      | refine LeO.bind ?_ (fun _ => ?_)
set_option maxHeartbeats 8000000 in
set_option maxRecDepth 100000 in
theorem tollbarref15_word.calls (k : Nat) (a0 : ByteArray) (a1 : Int) (r : Int) (w : World) (h : tollbarref15_word.f k a0 a1 = some r) :
    Calls Tryd.prog 21 #[.string a0, .int .i64 a1] w fun e w' => e = .returned (.int .i64 r) ∧ Drawn0 w w' := by
  have H : (tollbarref15_word.l0 k a0 a1) = some r := h
  clear h
  have H' := Aside0.mk H
  clear H
  go_enter Tryd.func21, Tryd.ntmps21
  go_wp2
  go_loopg [1] k (fun kq v1 w' => ∃ (x1_1 : Int), v1 = .int .i64 x1_1 ∧ Aside0 (tollbarref15_word.l0 kq a0 x1_1 = some r) ∧ Aside0 (kq ≤ k) ∧ Drawn0 w w')
  case atStart => exact ⟨(a1), (by first | rfl | (simp; done) | (simp [*]; done) | exact congrArg Value.bool (isEmpty_ne _) | exact congrArg Value.bool (notEmpty_ne _)), H', ⟨Nat.le_refl _⟩, by repeat (first | exact Drawn0.refl _ | apply Drawn0.step)⟩
  case round =>
    clear H'
    try clear c2
    try clear p2
    obtain ⟨x1_1, rfl, HA, HK1, ⟨m1, rfl⟩⟩ := hrel
    cases gk with
    | zero => exact absurd HA.out (by simp [tollbarref15_word.l0])
    | succ k1 =>
      have H := HA.out
      clear HA
      simp only [tollbarref15_word.l0] at H
      by_cases c3 : x1_1 < (a0.size : Int)
      · rw [if_pos c3] at H
        have c3b0 : decide (x1_1 < (a0.size : Int)) = true := decide_eq_true c3
        clear c3
        by_cases c4 : 0 ≤ x1_1
        · rw [if_pos c4] at H
          have c4b0 : decide (0 ≤ x1_1) = true := decide_eq_true c4
          clear c4
          by_cases c6 : (bt a0 x1_1) ≥ 97
          · rw [if_pos c6] at H
            have c6b0 : decide (97 ≤ (bt a0 x1_1)) = true := decide_eq_true c6
            clear c6
            by_cases c8 : (bt a0 x1_1) ≤ 122
            · rw [if_pos c8] at H
              have c8b0 : decide ((bt a0 x1_1) ≤ 122) = true := decide_eq_true c8
              clear c8
              have H' := Aside0.mk H
              clear H
              have p5 : 0 ≤ (x1_1 : Int) := of_decide_eq_true (by first | (with_reducible assumption) | assumption)
              have q5 : x1_1 < (a0.size : Int) := of_decide_eq_true (by first | (with_reducible assumption) | assumption)
              have hx5 := bt_at a0 x1_1
              replace p5 := eq_true p5
              replace q5 := eq_true q5
              have p7 : 0 ≤ (x1_1 : Int) := of_decide_eq_true (by first | (with_reducible assumption) | assumption)
              have q7 : x1_1 < (a0.size : Int) := of_decide_eq_true (by first | (with_reducible assumption) | assumption)
              have hx7 := bt_at a0 x1_1
              replace p7 := eq_true p7
              replace q7 := eq_true q7
              go_wp2
              go_roundg k1
              case measure => have := HK1.out; omega
              case rel => exact ⟨(wrap64 (x1_1 + 1)), (by first | rfl | (simp; done) | (simp [*]; done) | exact congrArg Value.bool (isEmpty_ne _) | exact congrArg Value.bool (notEmpty_ne _)), H', ⟨by have := HK1.out; omega⟩, by repeat (first | exact Drawn0.refl _ | apply Drawn0.step)⟩
            · rw [if_neg c8] at H
              have c8b0 : decide ((bt a0 x1_1) ≤ 122) = false := decide_eq_false c8
              clear c8
              by_cases c10 : (bt a0 x1_1) ≥ 48
              · rw [if_pos c10] at H
                have c10b0 : decide (48 ≤ (bt a0 x1_1)) = true := decide_eq_true c10
                clear c10
                by_cases c12 : (bt a0 x1_1) ≤ 57
                · rw [if_pos c12] at H
                  have c12b0 : decide ((bt a0 x1_1) ≤ 57) = true := decide_eq_true c12
                  clear c12
                  have H' := Aside0.mk H
                  clear H
                  have p5 : 0 ≤ (x1_1 : Int) := of_decide_eq_true (by first | (with_reducible assumption) | assumption)
                  have q5 : x1_1 < (a0.size : Int) := of_decide_eq_true (by first | (with_reducible assumption) | assumption)
                  have hx5 := bt_at a0 x1_1
                  replace p5 := eq_true p5
                  replace q5 := eq_true q5
                  have p7 : 0 ≤ (x1_1 : Int) := of_decide_eq_true (by first | (with_reducible assumption) | assumption)
                  have q7 : x1_1 < (a0.size : Int) := of_decide_eq_true (by first | (with_reducible assumption) | assumption)
                  have hx7 := bt_at a0 x1_1
                  replace p7 := eq_true p7
                  replace q7 := eq_true q7
                  have p9 : 0 ≤ (x1_1 : Int) := of_decide_eq_true (by first | (with_reducible assumption) | assumption)
                  have q9 : x1_1 < (a0.size : Int) := of_decide_eq_true (by first | (with_reducible assumption) | assumption)
                  have hx9 := bt_at a0 x1_1
                  replace p9 := eq_true p9
                  replace q9 := eq_true q9
                  have p11 : 0 ≤ (x1_1 : Int) := of_decide_eq_true (by first | (with_reducible assumption) | assumption)
                  have q11 : x1_1 < (a0.size : Int) := of_decide_eq_true (by first | (with_reducible assumption) | assumption)
                  have hx11 := bt_at a0 x1_1
                  replace p11 := eq_true p11
                  replace q11 := eq_true q11
                  go_wp2
                  go_roundg k1
                  case measure => have := HK1.out; omega
                  case rel => exact ⟨(wrap64 (x1_1 + 1)), (by first | rfl | (simp; done) | (simp [*]; done) | exact congrArg Value.bool (isEmpty_ne _) | exact congrArg Value.bool (notEmpty_ne _)), H', ⟨by have := HK1.out; omega⟩, by repeat (first | exact Drawn0.refl _ | apply Drawn0.step)⟩
                · rw [if_neg c12] at H
                  have c12b0 : decide ((bt a0 x1_1) ≤ 57) = false := decide_eq_false c12
                  clear c12
                  by_cases c14 : (bt a0 x1_1) = 45
                  · rw [if_pos c14] at H
                    have c14b0 : ((bt a0 x1_1) == 45) = true := beq_iff_eq.mpr c14
                    have c14b1 : ((bt a0 x1_1) != 45) = false := bne_eq_false_iff_eq.mpr c14
                    clear c14
                    have H' := Aside0.mk H
                    clear H
                    have p5 : 0 ≤ (x1_1 : Int) := of_decide_eq_true (by first | (with_reducible assumption) | assumption)
                    have q5 : x1_1 < (a0.size : Int) := of_decide_eq_true (by first | (with_reducible assumption) | assumption)
                    have hx5 := bt_at a0 x1_1
                    replace p5 := eq_true p5
                    replace q5 := eq_true q5
                    have p7 : 0 ≤ (x1_1 : Int) := of_decide_eq_true (by first | (with_reducible assumption) | assumption)
                    have q7 : x1_1 < (a0.size : Int) := of_decide_eq_true (by first | (with_reducible assumption) | assumption)
                    have hx7 := bt_at a0 x1_1
                    replace p7 := eq_true p7
                    replace q7 := eq_true q7
                    have p9 : 0 ≤ (x1_1 : Int) := of_decide_eq_true (by first | (with_reducible assumption) | assumption)
                    have q9 : x1_1 < (a0.size : Int) := of_decide_eq_true (by first | (with_reducible assumption) | assumption)
                    have hx9 := bt_at a0 x1_1
                    replace p9 := eq_true p9
                    replace q9 := eq_true q9
                    have p11 : 0 ≤ (x1_1 : Int) := of_decide_eq_true (by first | (with_reducible assumption) | assumption)
                    have q11 : x1_1 < (a0.size : Int) := of_decide_eq_true (by first | (with_reducible assumption) | assumption)
                    have hx11 := bt_at a0 x1_1
                    replace p11 := eq_true p11
                    replace q11 := eq_true q11
                    have p13 : 0 ≤ (x1_1 : Int) := of_decide_eq_true (by first | (with_reducible assumption) | assumption)
                    have q13 : x1_1 < (a0.size : Int) := of_decide_eq_true (by first | (with_reducible assumption) | assumption)
                    have hx13 := bt_at a0 x1_1
                    replace p13 := eq_true p13
                    replace q13 := eq_true q13
                    go_wp2
                    go_roundg k1
                    case measure => have := HK1.out; omega
                    case rel => exact ⟨(wrap64 (x1_1 + 1)), (by first | rfl | (simp; done) | (simp [*]; done) | exact congrArg Value.bool (isEmpty_ne _) | exact congrArg Value.bool (notEmpty_ne _)), H', ⟨by have := HK1.out; omega⟩, by repeat (first | exact Drawn0.refl _ | apply Drawn0.step)⟩
                  · rw [if_neg c14] at H
                    have c14b0 : ((bt a0 x1_1) == 45) = false := beq_eq_false_iff_ne.mpr c14
                    have c14b1 : ((bt a0 x1_1) != 45) = true := bne_iff_ne.mpr c14
                    obtain rfl := Option.some.inj H
                    have p5 : 0 ≤ (x1_1 : Int) := of_decide_eq_true (by first | (with_reducible assumption) | assumption)
                    have q5 : x1_1 < (a0.size : Int) := of_decide_eq_true (by first | (with_reducible assumption) | assumption)
                    have hx5 := bt_at a0 x1_1
                    replace p5 := eq_true p5
                    replace q5 := eq_true q5
                    have p7 : 0 ≤ (x1_1 : Int) := of_decide_eq_true (by first | (with_reducible assumption) | assumption)
                    have q7 : x1_1 < (a0.size : Int) := of_decide_eq_true (by first | (with_reducible assumption) | assumption)
                    have hx7 := bt_at a0 x1_1
                    replace p7 := eq_true p7
                    replace q7 := eq_true q7
                    have p9 : 0 ≤ (x1_1 : Int) := of_decide_eq_true (by first | (with_reducible assumption) | assumption)
                    have q9 : x1_1 < (a0.size : Int) := of_decide_eq_true (by first | (with_reducible assumption) | assumption)
                    have hx9 := bt_at a0 x1_1
                    replace p9 := eq_true p9
                    replace q9 := eq_true q9
                    have p11 : 0 ≤ (x1_1 : Int) := of_decide_eq_true (by first | (with_reducible assumption) | assumption)
                    have q11 : x1_1 < (a0.size : Int) := of_decide_eq_true (by first | (with_reducible assumption) | assumption)
                    have hx11 := bt_at a0 x1_1
                    replace p11 := eq_true p11
                    replace q11 := eq_true q11
                    have p13 : 0 ≤ (x1_1 : Int) := of_decide_eq_true (by first | (with_reducible assumption) | assumption)
                    have q13 : x1_1 < (a0.size : Int) := of_decide_eq_true (by first | (with_reducible assumption) | assumption)
                    have hx13 := bt_at a0 x1_1
                    replace p13 := eq_true p13
                    replace q13 := eq_true q13
                    go_wp2
                    go_ret
                    exact ⟨by first | rfl | (simp; done) | (simp [*]; done), by repeat (first | exact Drawn0.refl _ | apply Drawn0.step)⟩
              · rw [if_neg c10] at H
                have c10b0 : decide (48 ≤ (bt a0 x1_1)) = false := decide_eq_false c10
                clear c10
                by_cases c16 : (bt a0 x1_1) = 45
                · rw [if_pos c16] at H
                  have c16b0 : ((bt a0 x1_1) == 45) = true := beq_iff_eq.mpr c16
                  have c16b1 : ((bt a0 x1_1) != 45) = false := bne_eq_false_iff_eq.mpr c16
                  clear c16
                  have H' := Aside0.mk H
                  clear H
                  have p5 : 0 ≤ (x1_1 : Int) := of_decide_eq_true (by first | (with_reducible assumption) | assumption)
                  have q5 : x1_1 < (a0.size : Int) := of_decide_eq_true (by first | (with_reducible assumption) | assumption)
                  have hx5 := bt_at a0 x1_1
                  replace p5 := eq_true p5
                  replace q5 := eq_true q5
                  have p7 : 0 ≤ (x1_1 : Int) := of_decide_eq_true (by first | (with_reducible assumption) | assumption)
                  have q7 : x1_1 < (a0.size : Int) := of_decide_eq_true (by first | (with_reducible assumption) | assumption)
                  have hx7 := bt_at a0 x1_1
                  replace p7 := eq_true p7
                  replace q7 := eq_true q7
                  have p9 : 0 ≤ (x1_1 : Int) := of_decide_eq_true (by first | (with_reducible assumption) | assumption)
                  have q9 : x1_1 < (a0.size : Int) := of_decide_eq_true (by first | (with_reducible assumption) | assumption)
                  have hx9 := bt_at a0 x1_1
                  replace p9 := eq_true p9
                  replace q9 := eq_true q9
                  have p15 : 0 ≤ (x1_1 : Int) := of_decide_eq_true (by first | (with_reducible assumption) | assumption)
                  have q15 : x1_1 < (a0.size : Int) := of_decide_eq_true (by first | (with_reducible assumption) | assumption)
                  have hx15 := bt_at a0 x1_1
                  replace p15 := eq_true p15
                  replace q15 := eq_true q15
                  go_wp2
                  go_roundg k1
                  case measure => have := HK1.out; omega
                  case rel => exact ⟨(wrap64 (x1_1 + 1)), (by first | rfl | (simp; done) | (simp [*]; done) | exact congrArg Value.bool (isEmpty_ne _) | exact congrArg Value.bool (notEmpty_ne _)), H', ⟨by have := HK1.out; omega⟩, by repeat (first | exact Drawn0.refl _ | apply Drawn0.step)⟩
                · rw [if_neg c16] at H
                  have c16b0 : ((bt a0 x1_1) == 45) = false := beq_eq_false_iff_ne.mpr c16
                  have c16b1 : ((bt a0 x1_1) != 45) = true := bne_iff_ne.mpr c16
                  obtain rfl := Option.some.inj H
                  have p5 : 0 ≤ (x1_1 : Int) := of_decide_eq_true (by first | (with_reducible assumption) | assumption)
                  have q5 : x1_1 < (a0.size : Int) := of_decide_eq_true (by first | (with_reducible assumption) | assumption)
                  have hx5 := bt_at a0 x1_1
                  replace p5 := eq_true p5
                  replace q5 := eq_true q5
                  have p7 : 0 ≤ (x1_1 : Int) := of_decide_eq_true (by first | (with_reducible assumption) | assumption)
                  have q7 : x1_1 < (a0.size : Int) := of_decide_eq_true (by first | (with_reducible assumption) | assumption)
                  have hx7 := bt_at a0 x1_1
                  replace p7 := eq_true p7
                  replace q7 := eq_true q7
                  have p9 : 0 ≤ (x1_1 : Int) := of_decide_eq_true (by first | (with_reducible assumption) | assumption)
                  have q9 : x1_1 < (a0.size : Int) := of_decide_eq_true (by first | (with_reducible assumption) | assumption)
                  have hx9 := bt_at a0 x1_1
                  replace p9 := eq_true p9
                  replace q9 := eq_true q9
                  have p15 : 0 ≤ (x1_1 : Int) := of_decide_eq_true (by first | (with_reducible assumption) | assumption)
                  have q15 : x1_1 < (a0.size : Int) := of_decide_eq_true (by first | (with_reducible assumption) | assumption)
                  have hx15 := bt_at a0 x1_1
                  replace p15 := eq_true p15
                  replace q15 := eq_true q15
                  go_wp2
                  go_ret
                  exact ⟨by first | rfl | (simp; done) | (simp [*]; done), by repeat (first | exact Drawn0.refl _ | apply Drawn0.step)⟩
          · rw [if_neg c6] at H
            have c6b0 : decide (97 ≤ (bt a0 x1_1)) = false := decide_eq_false c6
            clear c6
            by_cases c18 : (bt a0 x1_1) ≥ 48
            · rw [if_pos c18] at H
              have c18b0 : decide (48 ≤ (bt a0 x1_1)) = true := decide_eq_true c18
              clear c18
              by_cases c20 : (bt a0 x1_1) ≤ 57
              · rw [if_pos c20] at H
                have c20b0 : decide ((bt a0 x1_1) ≤ 57) = true := decide_eq_true c20
                clear c20
                have H' := Aside0.mk H
                clear H
                have p5 : 0 ≤ (x1_1 : Int) := of_decide_eq_true (by first | (with_reducible assumption) | assumption)
                have q5 : x1_1 < (a0.size : Int) := of_decide_eq_true (by first | (with_reducible assumption) | assumption)
                have hx5 := bt_at a0 x1_1
                replace p5 := eq_true p5
                replace q5 := eq_true q5
                have p17 : 0 ≤ (x1_1 : Int) := of_decide_eq_true (by first | (with_reducible assumption) | assumption)
                have q17 : x1_1 < (a0.size : Int) := of_decide_eq_true (by first | (with_reducible assumption) | assumption)
                have hx17 := bt_at a0 x1_1
                replace p17 := eq_true p17
                replace q17 := eq_true q17
                have p19 : 0 ≤ (x1_1 : Int) := of_decide_eq_true (by first | (with_reducible assumption) | assumption)
                have q19 : x1_1 < (a0.size : Int) := of_decide_eq_true (by first | (with_reducible assumption) | assumption)
                have hx19 := bt_at a0 x1_1
                replace p19 := eq_true p19
                replace q19 := eq_true q19
                go_wp2
                go_roundg k1
                case measure => have := HK1.out; omega
                case rel => exact ⟨(wrap64 (x1_1 + 1)), (by first | rfl | (simp; done) | (simp [*]; done) | exact congrArg Value.bool (isEmpty_ne _) | exact congrArg Value.bool (notEmpty_ne _)), H', ⟨by have := HK1.out; omega⟩, by repeat (first | exact Drawn0.refl _ | apply Drawn0.step)⟩
              · rw [if_neg c20] at H
                have c20b0 : decide ((bt a0 x1_1) ≤ 57) = false := decide_eq_false c20
                clear c20
                by_cases c22 : (bt a0 x1_1) = 45
                · rw [if_pos c22] at H
                  have c22b0 : ((bt a0 x1_1) == 45) = true := beq_iff_eq.mpr c22
                  have c22b1 : ((bt a0 x1_1) != 45) = false := bne_eq_false_iff_eq.mpr c22
                  clear c22
                  have H' := Aside0.mk H
                  clear H
                  have p5 : 0 ≤ (x1_1 : Int) := of_decide_eq_true (by first | (with_reducible assumption) | assumption)
                  have q5 : x1_1 < (a0.size : Int) := of_decide_eq_true (by first | (with_reducible assumption) | assumption)
                  have hx5 := bt_at a0 x1_1
                  replace p5 := eq_true p5
                  replace q5 := eq_true q5
                  have p17 : 0 ≤ (x1_1 : Int) := of_decide_eq_true (by first | (with_reducible assumption) | assumption)
                  have q17 : x1_1 < (a0.size : Int) := of_decide_eq_true (by first | (with_reducible assumption) | assumption)
                  have hx17 := bt_at a0 x1_1
                  replace p17 := eq_true p17
                  replace q17 := eq_true q17
                  have p19 : 0 ≤ (x1_1 : Int) := of_decide_eq_true (by first | (with_reducible assumption) | assumption)
                  have q19 : x1_1 < (a0.size : Int) := of_decide_eq_true (by first | (with_reducible assumption) | assumption)
                  have hx19 := bt_at a0 x1_1
                  replace p19 := eq_true p19
                  replace q19 := eq_true q19
                  have p21 : 0 ≤ (x1_1 : Int) := of_decide_eq_true (by first | (with_reducible assumption) | assumption)
                  have q21 : x1_1 < (a0.size : Int) := of_decide_eq_true (by first | (with_reducible assumption) | assumption)
                  have hx21 := bt_at a0 x1_1
                  replace p21 := eq_true p21
                  replace q21 := eq_true q21
                  go_wp2
                  go_roundg k1
                  case measure => have := HK1.out; omega
                  case rel => exact ⟨(wrap64 (x1_1 + 1)), (by first | rfl | (simp; done) | (simp [*]; done) | exact congrArg Value.bool (isEmpty_ne _) | exact congrArg Value.bool (notEmpty_ne _)), H', ⟨by have := HK1.out; omega⟩, by repeat (first | exact Drawn0.refl _ | apply Drawn0.step)⟩
                · rw [if_neg c22] at H
                  have c22b0 : ((bt a0 x1_1) == 45) = false := beq_eq_false_iff_ne.mpr c22
                  have c22b1 : ((bt a0 x1_1) != 45) = true := bne_iff_ne.mpr c22
                  obtain rfl := Option.some.inj H
                  have p5 : 0 ≤ (x1_1 : Int) := of_decide_eq_true (by first | (with_reducible assumption) | assumption)
                  have q5 : x1_1 < (a0.size : Int) := of_decide_eq_true (by first | (with_reducible assumption) | assumption)
                  have hx5 := bt_at a0 x1_1
                  replace p5 := eq_true p5
                  replace q5 := eq_true q5
                  have p17 : 0 ≤ (x1_1 : Int) := of_decide_eq_true (by first | (with_reducible assumption) | assumption)
                  have q17 : x1_1 < (a0.size : Int) := of_decide_eq_true (by first | (with_reducible assumption) | assumption)
                  have hx17 := bt_at a0 x1_1
                  replace p17 := eq_true p17
                  replace q17 := eq_true q17
                  have p19 : 0 ≤ (x1_1 : Int) := of_decide_eq_true (by first | (with_reducible assumption) | assumption)
                  have q19 : x1_1 < (a0.size : Int) := of_decide_eq_true (by first | (with_reducible assumption) | assumption)
                  have hx19 := bt_at a0 x1_1
                  replace p19 := eq_true p19
                  replace q19 := eq_true q19
                  have p21 : 0 ≤ (x1_1 : Int) := of_decide_eq_true (by first | (with_reducible assumption) | assumption)
                  have q21 : x1_1 < (a0.size : Int) := of_decide_eq_true (by first | (with_reducible assumption) | assumption)
                  have hx21 := bt_at a0 x1_1
                  replace p21 := eq_true p21
                  replace q21 := eq_true q21
                  go_wp2
                  go_ret
                  exact ⟨by first | rfl | (simp; done) | (simp [*]; done), by repeat (first | exact Drawn0.refl _ | apply Drawn0.step)⟩
            · rw [if_neg c18] at H
              have c18b0 : decide (48 ≤ (bt a0 x1_1)) = false := decide_eq_false c18
              clear c18
              by_cases c24 : (bt a0 x1_1) = 45
              · rw [if_pos c24] at H
                have c24b0 : ((bt a0 x1_1) == 45) = true := beq_iff_eq.mpr c24
                have c24b1 : ((bt a0 x1_1) != 45) = false := bne_eq_false_iff_eq.mpr c24
                clear c24
                have H' := Aside0.mk H
                clear H
                have p5 : 0 ≤ (x1_1 : Int) := of_decide_eq_true (by first | (with_reducible assumption) | assumption)
                have q5 : x1_1 < (a0.size : Int) := of_decide_eq_true (by first | (with_reducible assumption) | assumption)
                have hx5 := bt_at a0 x1_1
                replace p5 := eq_true p5
                replace q5 := eq_true q5
                have p17 : 0 ≤ (x1_1 : Int) := of_decide_eq_true (by first | (with_reducible assumption) | assumption)
                have q17 : x1_1 < (a0.size : Int) := of_decide_eq_true (by first | (with_reducible assumption) | assumption)
                have hx17 := bt_at a0 x1_1
                replace p17 := eq_true p17
                replace q17 := eq_true q17
                have p23 : 0 ≤ (x1_1 : Int) := of_decide_eq_true (by first | (with_reducible assumption) | assumption)
                have q23 : x1_1 < (a0.size : Int) := of_decide_eq_true (by first | (with_reducible assumption) | assumption)
                have hx23 := bt_at a0 x1_1
                replace p23 := eq_true p23
                replace q23 := eq_true q23
                go_wp2
                go_roundg k1
                case measure => have := HK1.out; omega
                case rel => exact ⟨(wrap64 (x1_1 + 1)), (by first | rfl | (simp; done) | (simp [*]; done) | exact congrArg Value.bool (isEmpty_ne _) | exact congrArg Value.bool (notEmpty_ne _)), H', ⟨by have := HK1.out; omega⟩, by repeat (first | exact Drawn0.refl _ | apply Drawn0.step)⟩
              · rw [if_neg c24] at H
                have c24b0 : ((bt a0 x1_1) == 45) = false := beq_eq_false_iff_ne.mpr c24
                have c24b1 : ((bt a0 x1_1) != 45) = true := bne_iff_ne.mpr c24
                obtain rfl := Option.some.inj H
                have p5 : 0 ≤ (x1_1 : Int) := of_decide_eq_true (by first | (with_reducible assumption) | assumption)
                have q5 : x1_1 < (a0.size : Int) := of_decide_eq_true (by first | (with_reducible assumption) | assumption)
                have hx5 := bt_at a0 x1_1
                replace p5 := eq_true p5
                replace q5 := eq_true q5
                have p17 : 0 ≤ (x1_1 : Int) := of_decide_eq_true (by first | (with_reducible assumption) | assumption)
                have q17 : x1_1 < (a0.size : Int) := of_decide_eq_true (by first | (with_reducible assumption) | assumption)
                have hx17 := bt_at a0 x1_1
                replace p17 := eq_true p17
                replace q17 := eq_true q17
                have p23 : 0 ≤ (x1_1 : Int) := of_decide_eq_true (by first | (with_reducible assumption) | assumption)
                have q23 : x1_1 < (a0.size : Int) := of_decide_eq_true (by first | (with_reducible assumption) | assumption)
                have hx23 := bt_at a0 x1_1
                replace p23 := eq_true p23
                replace q23 := eq_true q23
                go_wp2
                go_ret
                exact ⟨by first | rfl | (simp; done) | (simp [*]; done), by repeat (first | exact Drawn0.refl _ | apply Drawn0.step)⟩
        · rw [if_neg c4] at H
          exact absurd H (by simp)
      · rw [if_neg c3] at H
        have c3b0 : decide (x1_1 < (a0.size : Int)) = false := decide_eq_false c3
        clear c3
        obtain rfl := Option.some.inj H
        go_wp2
        go_ret
        exact ⟨by first | rfl | (simp; done) | (simp [*]; done), by repeat (first | exact Drawn0.refl _ | apply Drawn0.step)⟩

end Go.Proofs.YtbbkchclefkikaaDoor.QPath
