import Derived.Test.YtbbkchclefkikaaDoorSpecWalk
namespace Go.Proofs.YtbbkchclefkikaaDoor.Spec
open Go.RowKit Go.Proofs.YtbbkchclefkikaaDoorW.PrintWords Go.Proofs.YtbbkchclefkikaaDoorW.PrintLast Go.Proofs.YtbbkchclefkikaaDoorW.PrintMore
set_option linter.unusedVariables false
set_option linter.unusedSimpArgs false
set_option maxHeartbeats 40000000
set_option maxRecDepth 100000
theorem leafFM' (nm : ByteArray) (k lo hi : Int) (g1 g2 : Nat) (w : World) (hL : w.heap[g1]? = some (.cells #[.int .u64 lo] 30 (0, 0))) (hH : w.heap[g2]? = some (.cells #[.int .u64 hi] 30 (0, 0))) :
    Calls Tryd.prog 55 #[.string nm, .int .i64 k, .slice (some ⟨w.heap.size, 0, none⟩) 2 2] (w.alloc (.cells #[.func (.func 69) #[] #[.pointer (some ⟨g1, 0, none⟩), .pointer (some ⟨g2, 0, none⟩)], .func (.func 57) #[] #[]] 95)) fun r w' => r = .returned (.agg #[.string nm, .int .i64 1, .int .i64 k, .int .u64 lo, .int .u64 hi, .slice none 0 0, .bool true, .int .i64 0, .slice none 0 0]) ∧ Below w.heap.size w w' := by
  have hb := below_alloc (Below.refl w.heap.size w) (.cells #[.func (.func 69) #[] #[.pointer (some ⟨g1, 0, none⟩), .pointer (some ⟨g2, 0, none⟩)], .func (.func 57) #[] #[]] 95)
  have hn := blk_new w (.cells #[.func (.func 69) #[] #[.pointer (some ⟨g1, 0, none⟩), .pointer (some ⟨g2, 0, none⟩)], .func (.func 57) #[] #[]] 95)
  refine (leafFM_calls nm k ⟨w.heap.size, 0, none⟩ 2 g1 g2 lo hi _ ((blk_cell hn 0).trans rfl) (by simp) (blk_below hL hb) (blk_below hH hb) ((blk_cell hn 1).trans rfl)).mono ?_
  rintro e w' ⟨rfl, h⟩
  exact ⟨rfl, below_step hb h⟩
theorem leafM' (nm : ByteArray) (k : Int) (w : World) :
    Calls Tryd.prog 55 #[.string nm, .int .i64 k, .slice (some ⟨w.heap.size, 0, none⟩) 1 1] (w.alloc (.cells #[.func (.func 57) #[] #[]] 95)) fun r w' => r = .returned (.agg #[.string nm, .int .i64 1, .int .i64 k, .int .u64 0, .int .u64 0, .slice none 0 0, .bool true, .int .i64 0, .slice none 0 0]) ∧ Below w.heap.size w w' := by
  have hb := below_alloc (Below.refl w.heap.size w) (.cells #[.func (.func 57) #[] #[]] 95)
  have hn := blk_new w (.cells #[.func (.func 57) #[] #[]] 95)
  refine (leafM_calls nm k ⟨w.heap.size, 0, none⟩ 1 _ ((blk_cell hn 0).trans rfl) (by simp)).mono ?_
  rintro e w' ⟨rfl, h⟩
  exact ⟨rfl, below_step hb h⟩
theorem list_raw (nm : ByteArray) (m : Int) (A : Option Addr) (n c : Nat) (w : World) :
    Calls Tryd.prog 54 #[.string nm, .int .i64 m, .slice A n c] w fun r w' => r = .returned (.agg #[.string nm, .int .i64 3, .int .i64 0, .int .u64 0, .int .u64 0, .slice none 0 0, .bool false, .int .i64 m, .slice A n c]) ∧ Below w.heap.size w w' := by
  go_enter Tryd.func54, Tryd.ntmps54
  go_wp2
  refine bodyPost_ret (results_cell_row rfl _ _ w.heap.size 34 #[.string nm, .int .i64 3, .int .i64 0, .int .u64 0, .int .u64 0, .slice none 0 0, .bool false, .int .i64 m, .slice A n c] (0, 0) _ rfl ?_ Tryd.underlying34 rfl (by kernel_rfl)) rfl ?_
  · exact blk_new w _
  exact ⟨rfl, below_alloc (Below.refl _ _) _⟩
/-- The cells of the table's blocks. -/
def CK : Array Value := #[.string ⟨#[113, 117, 97, 110, 116, 117, 109]⟩, .int .i64 1, .int .i64 1, .int .u64 1500, .int .u64 100000, .slice none 0 0, .bool true, .int .i64 0, .slice none 0 0, .string ⟨#[114, 97, 116, 101]⟩, .int .i64 1, .int .i64 2, .int .u64 0, .int .u64 1000000, .slice none 0 0, .bool true, .int .i64 0, .slice none 0 0, .string ⟨#[98, 117, 114, 115, 116]⟩, .int .i64 1, .int .i64 1, .int .u64 1500, .int .u64 1000000, .slice none 0 0, .bool true, .int .i64 0, .slice none 0 0, .string ⟨#[108, 105, 109, 105, 116]⟩, .int .i64 1, .int .i64 1, .int .u64 1, .int .u64 64, .slice none 0 0, .bool true, .int .i64 0, .slice none 0 0]
def UK : Array Value := #[.string ⟨#[108, 111, 119]⟩, .int .i64 1, .int .i64 1, .int .u64 0, .int .u64 65535, .slice none 0 0, .bool true, .int .i64 0, .slice none 0 0, .string ⟨#[104, 105, 103, 104]⟩, .int .i64 1, .int .i64 1, .int .u64 0, .int .u64 65535, .slice none 0 0, .bool true, .int .i64 0, .slice none 0 0, .string ⟨#[99, 108, 97, 115, 115]⟩, .int .i64 1, .int .i64 6, .int .u64 0, .int .u64 0, .slice none 0 0, .bool true, .int .i64 0, .slice none 0 0]
def CB (gC : Nat) : Array Value := #[.string ⟨#[99, 108, 97, 115, 115]⟩, .int .i64 3, .int .i64 0, .int .u64 0, .int .u64 0, .slice none 0 0, .bool false, .int .i64 8, .slice (some ⟨gC, 0, none⟩) 4 4]
def UB (gU : Nat) : Array Value := #[.string ⟨#[114, 117, 108, 101]⟩, .int .i64 3, .int .i64 0, .int .u64 0, .int .u64 0, .slice none 0 0, .bool false, .int .i64 16, .slice (some ⟨gU, 0, none⟩) 3 3]
def PK (gC gU : Nat) : Array Value := #[.string ⟨#[117, 112]⟩, .int .i64 1, .int .i64 3, .int .u64 0, .int .u64 0, .slice none 0 0, .bool false, .int .i64 0, .slice none 0 0, .string ⟨#[99, 108, 97, 115, 115]⟩, .int .i64 3, .int .i64 0, .int .u64 0, .int .u64 0, .slice none 0 0, .bool false, .int .i64 8, .slice (some ⟨gC, 0, none⟩) 4 4, .string ⟨#[114, 117, 108, 101]⟩, .int .i64 3, .int .i64 0, .int .u64 0, .int .u64 0, .slice none 0 0, .bool false, .int .i64 16, .slice (some ⟨gU, 0, none⟩) 3 3, .string ⟨#[100, 101, 102, 97, 117, 108, 116]⟩, .int .i64 1, .int .i64 6, .int .u64 0, .int .u64 0, .slice none 0 0, .bool true, .int .i64 0, .slice none 0 0]
def PB (gP : Nat) : Array Value := #[.string ⟨#[112, 111, 114, 116]⟩, .int .i64 3, .int .i64 0, .int .u64 0, .int .u64 0, .slice none 0 0, .bool false, .int .i64 4, .slice (some ⟨gP, 0, none⟩) 4 4]
def RK (gP : Nat) : Array Value := #[.string ⟨#[115, 121, 115, 116, 101, 109]⟩, .int .i64 1, .int .i64 5, .int .u64 0, .int .u64 0, .slice none 0 0, .bool false, .int .i64 0, .slice none 0 0, .string ⟨#[112, 111, 114, 116]⟩, .int .i64 3, .int .i64 0, .int .u64 0, .int .u64 0, .slice none 0 0, .bool false, .int .i64 4, .slice (some ⟨gP, 0, none⟩) 4 4]
def ZB : Array Value := #[.string ⟨#[]⟩, .int .i64 0, .int .i64 0, .int .u64 0, .int .u64 0, .slice none 0 0, .bool false, .int .i64 0, .slice none 0 0]
/-- What the first three regions leave. -/
def L1 (w w' : World) (gC gU gc gu : Nat) : Prop := Below w.heap.size w w' ∧ Blk w' w.heap.size ZB ∧ Blk w' gC CK ∧ Blk w' gU UK ∧ w'.heap[gc]? = some (.cells #[.string ⟨#[99, 108, 97, 115, 115]⟩, .int .i64 3, .int .i64 0, .int .u64 0, .int .u64 0, .slice none 0 0, .bool false, .int .i64 8, .slice (some ⟨gC, 0, none⟩) 4 4] 34 (0, 0)) ∧ w'.heap[gu]? = some (.cells #[.string ⟨#[114, 117, 108, 101]⟩, .int .i64 3, .int .i64 0, .int .u64 0, .int .u64 0, .slice none 0 0, .bool false, .int .i64 16, .slice (some ⟨gU, 0, none⟩) 3 3] 34 (0, 0))
theorem L1.le {w V : World} {gC gU gc gu : Nat} (h : L1 w V gC gU gc gu) : w.heap.size ≤ V.heap.size := h.1.size
theorem L1.lt {w V : World} {gC gU gc gu : Nat} (h : L1 w V gC gU gc gu) : w.heap.size < V.heap.size := blk_lt h.2.1
theorem L1.below {w V V3 : World} {gC gU gc gu : Nat} (h : L1 w V gC gU gc gu) (hb : Below V.heap.size V V3) : L1 w V3 gC gU gc gu :=
  ⟨below_step h.1 hb, blk_below h.2.1 hb, blk_below h.2.2.1 hb, blk_below h.2.2.2.1 hb, blk_below h.2.2.2.2.1 hb, blk_below h.2.2.2.2.2 hb⟩
theorem L1.alloc {w V : World} {gC gU gc gu : Nat} (h : L1 w V gC gU gc gu) (o : Obj) : L1 w (V.alloc o) gC gU gc gu := h.below (below_alloc (Below.refl _ _) o)
theorem blk_apart {W : World} {g g' : Nat} {t : TypeId} {cs cs' : Array Value} {a b : ByteArray} (h : W.heap[g]? = some (.cells cs t (0, 0))) (h' : W.heap[g']? = some (.cells cs' t (0, 0))) (h1 : cs[0]? = some (.string a)) (h2 : cs'[0]? = some (.string b)) (hne : a.size ≠ b.size) : g ≠ g' := by
  rintro rfl
  rw [h] at h'
  injection h' with h'
  injection h' with h'
  rw [h', h2] at h1
  injection h1 with h1
  injection h1 with h1
  exact hne (by rw [h1])
theorem L1.far {w V : World} {gC gU gc gu : Nat} (h : L1 w V gC gU gc gu) {p : Nat} (hp : w.heap.size < p) (h1 : gC ≠ p) (h2 : gU ≠ p) (h3 : gc ≠ p) (h4 : gu ≠ p) (k : Nat) (u : Value) : L1 w (V.setCell ⟨p, k, none⟩ u) gC gU gc gu :=
  ⟨below_set h.1 (Nat.le_of_lt hp), blk_far h.2.1 (Nat.ne_of_lt hp) u, blk_far h.2.2.1 h1 u, blk_far h.2.2.2.1 h2 u, blk_far h.2.2.2.2.1 h3 u, blk_far h.2.2.2.2.2 h4 u⟩
theorem L1.set {w V : World} {gC gU gc gu p : Nat} (h : L1 w V gC gU gc gu) (hz : V.heap[p]? = some (.cells #[.string ⟨#[]⟩, .int .i64 0, .int .i64 0, .int .u64 0, .int .u64 0, .slice none 0 0, .bool false, .int .i64 0, .slice none 0 0] 34 (0, 0))) (hp : w.heap.size < p) (v0 v1 v2 v3 v4 v5 v6 v7 v8 : Value) :
    L1 w (((((((((V.setCell ⟨p, 0, none⟩ v0).setCell ⟨p, 1, none⟩ v1).setCell ⟨p, 2, none⟩ v2).setCell ⟨p, 3, none⟩ v3).setCell ⟨p, 4, none⟩ v4).setCell ⟨p, 5, none⟩ v5).setCell ⟨p, 6, none⟩ v6).setCell ⟨p, 7, none⟩ v7).setCell ⟨p, 8, none⟩ v8) gC gU gc gu := by
  have h1 : gC ≠ p := blk_apart (a := ⟨#[113, 117, 97, 110, 116, 117, 109]⟩) (b := ⟨#[]⟩) h.2.2.1 hz rfl rfl (by decide)
  have h2 : gU ≠ p := blk_apart (a := ⟨#[108, 111, 119]⟩) (b := ⟨#[]⟩) h.2.2.2.1 hz rfl rfl (by decide)
  have h3 : gc ≠ p := blk_apart (a := ⟨#[99, 108, 97, 115, 115]⟩) (b := ⟨#[]⟩) h.2.2.2.2.1 hz rfl rfl (by decide)
  have h4 : gu ≠ p := blk_apart (a := ⟨#[114, 117, 108, 101]⟩) (b := ⟨#[]⟩) h.2.2.2.2.2 hz rfl rfl (by decide)
  exact ((((((((h.far hp h1 h2 h3 h4 0 v0).far hp h1 h2 h3 h4 1 v1).far hp h1 h2 h3 h4 2 v2).far hp h1 h2 h3 h4 3 v3).far hp h1 h2 h3 h4 4 v4).far hp h1 h2 h3 h4 5 v5).far hp h1 h2 h3 h4 6 v6).far hp h1 h2 h3 h4 7 v7).far hp h1 h2 h3 h4 8 v8
theorem blk_set9 {V : World} {p : Nat} {z0 z1 z2 z3 z4 z5 z6 z7 z8 : Value} {t : TypeId} (hz : V.heap[p]? = some (.cells #[z0, z1, z2, z3, z4, z5, z6, z7, z8] t (0, 0))) (v0 v1 v2 v3 v4 v5 v6 v7 v8 : Value) :
    (((((((((V.setCell ⟨p, 0, none⟩ v0).setCell ⟨p, 1, none⟩ v1).setCell ⟨p, 2, none⟩ v2).setCell ⟨p, 3, none⟩ v3).setCell ⟨p, 4, none⟩ v4).setCell ⟨p, 5, none⟩ v5).setCell ⟨p, 6, none⟩ v6).setCell ⟨p, 7, none⟩ v7).setCell ⟨p, 8, none⟩ v8).heap[p]? = some (.cells #[v0, v1, v2, v3, v4, v5, v6, v7, v8] t (0, 0)) := by
  have b0 : (V.setCell ⟨p, 0, none⟩ v0).heap[p]? = some (.cells #[v0, z1, z2, z3, z4, z5, z6, z7, z8] t (0, 0)) := blk_set_ hz v0 rfl
  have b1 : ((V.setCell ⟨p, 0, none⟩ v0).setCell ⟨p, 1, none⟩ v1).heap[p]? = some (.cells #[v0, v1, z2, z3, z4, z5, z6, z7, z8] t (0, 0)) := blk_set_ b0 v1 rfl
  have b2 : (((V.setCell ⟨p, 0, none⟩ v0).setCell ⟨p, 1, none⟩ v1).setCell ⟨p, 2, none⟩ v2).heap[p]? = some (.cells #[v0, v1, v2, z3, z4, z5, z6, z7, z8] t (0, 0)) := blk_set_ b1 v2 rfl
  have b3 : ((((V.setCell ⟨p, 0, none⟩ v0).setCell ⟨p, 1, none⟩ v1).setCell ⟨p, 2, none⟩ v2).setCell ⟨p, 3, none⟩ v3).heap[p]? = some (.cells #[v0, v1, v2, v3, z4, z5, z6, z7, z8] t (0, 0)) := blk_set_ b2 v3 rfl
  have b4 : (((((V.setCell ⟨p, 0, none⟩ v0).setCell ⟨p, 1, none⟩ v1).setCell ⟨p, 2, none⟩ v2).setCell ⟨p, 3, none⟩ v3).setCell ⟨p, 4, none⟩ v4).heap[p]? = some (.cells #[v0, v1, v2, v3, v4, z5, z6, z7, z8] t (0, 0)) := blk_set_ b3 v4 rfl
  have b5 : ((((((V.setCell ⟨p, 0, none⟩ v0).setCell ⟨p, 1, none⟩ v1).setCell ⟨p, 2, none⟩ v2).setCell ⟨p, 3, none⟩ v3).setCell ⟨p, 4, none⟩ v4).setCell ⟨p, 5, none⟩ v5).heap[p]? = some (.cells #[v0, v1, v2, v3, v4, v5, z6, z7, z8] t (0, 0)) := blk_set_ b4 v5 rfl
  have b6 : (((((((V.setCell ⟨p, 0, none⟩ v0).setCell ⟨p, 1, none⟩ v1).setCell ⟨p, 2, none⟩ v2).setCell ⟨p, 3, none⟩ v3).setCell ⟨p, 4, none⟩ v4).setCell ⟨p, 5, none⟩ v5).setCell ⟨p, 6, none⟩ v6).heap[p]? = some (.cells #[v0, v1, v2, v3, v4, v5, v6, z7, z8] t (0, 0)) := blk_set_ b5 v6 rfl
  have b7 : ((((((((V.setCell ⟨p, 0, none⟩ v0).setCell ⟨p, 1, none⟩ v1).setCell ⟨p, 2, none⟩ v2).setCell ⟨p, 3, none⟩ v3).setCell ⟨p, 4, none⟩ v4).setCell ⟨p, 5, none⟩ v5).setCell ⟨p, 6, none⟩ v6).setCell ⟨p, 7, none⟩ v7).heap[p]? = some (.cells #[v0, v1, v2, v3, v4, v5, v6, v7, z8] t (0, 0)) := blk_set_ b6 v7 rfl
  have b8 : (((((((((V.setCell ⟨p, 0, none⟩ v0).setCell ⟨p, 1, none⟩ v1).setCell ⟨p, 2, none⟩ v2).setCell ⟨p, 3, none⟩ v3).setCell ⟨p, 4, none⟩ v4).setCell ⟨p, 5, none⟩ v5).setCell ⟨p, 6, none⟩ v6).setCell ⟨p, 7, none⟩ v7).setCell ⟨p, 8, none⟩ v8).heap[p]? = some (.cells #[v0, v1, v2, v3, v4, v5, v6, v7, v8] t (0, 0)) := blk_set_ b7 v8 rfl
  exact b8
/-- What region 3 leaves. -/
def L2 (w w' : World) (gC gU gP gp : Nat) : Prop := Below w.heap.size w w' ∧ Blk w' w.heap.size ZB ∧ Blk w' gC CK ∧ Blk w' gU UK ∧ Blk w' gP (PK gC gU) ∧ w'.heap[gp]? = some (.cells (PB gP) 34 (0, 0))
theorem L2.le {w V : World} {gC gU gc gu : Nat} (h : L2 w V gC gU gc gu) : w.heap.size ≤ V.heap.size := h.1.size
theorem L2.lt {w V : World} {gC gU gc gu : Nat} (h : L2 w V gC gU gc gu) : w.heap.size < V.heap.size := blk_lt h.2.1
theorem L2.below {w V V3 : World} {gC gU gc gu : Nat} (h : L2 w V gC gU gc gu) (hb : Below V.heap.size V V3) : L2 w V3 gC gU gc gu :=
  ⟨below_step h.1 hb, blk_below h.2.1 hb, blk_below h.2.2.1 hb, blk_below h.2.2.2.1 hb, blk_below h.2.2.2.2.1 hb, blk_below h.2.2.2.2.2 hb⟩
theorem L2.alloc {w V : World} {gC gU gc gu : Nat} (h : L2 w V gC gU gc gu) (o : Obj) : L2 w (V.alloc o) gC gU gc gu := h.below (below_alloc (Below.refl _ _) o)
theorem L2.drew {w V : World} {gC gU gc gu : Nat} (h : L2 w V gC gU gc gu) : L2 w V.drew gC gU gc gu := h.below (below_drew (Below.refl _ _))
/-- What the result's cell doesn't touch. -/
def L3 (w w' : World) (gC gU gP gR : Nat) : Prop := Below w.heap.size w w' ∧ Blk w' gC CK ∧ Blk w' gU UK ∧ Blk w' gP (PK gC gU) ∧ Blk w' gR (RK gP)
theorem first_calls (w : World) :
    Calls Tryd.prog 38 #[] w fun r w' => (∃ gR gP gC gU : Nat, r = .returned (.agg #[.string ⟨#[]⟩, .int .i64 2, .int .i64 0, .int .u64 0, .int .u64 0, .slice none 0 0, .bool false, .int .i64 0, .slice (some ⟨gR, 0, none⟩) 2 2]) ∧ Blk w' gR (RK gP) ∧ Blk w' gP (PK gC gU) ∧ Blk w' gC CK ∧ Blk w' gU UK ∧ w.heap.size ≤ gR ∧ w.heap.size ≤ gP ∧ w.heap.size ≤ gC ∧ w.heap.size ≤ gU) ∧ Below w.heap.size w w' := by
  go_enter Tryd.func38, Tryd.ntmps38
  go_wp2_with (fail)
  refine (from_calls _ _ _).mono ?_
  rintro e w0 ⟨⟨g1, g2, rfl, hL, hH, h1, h2⟩, hb0⟩
  go_wp2_with (fail)
  refine (leafFM' _ _ _ _ g1 g2 _ hL hH).mono ?_
  rintro e v0 ⟨rfl, hc0⟩
  clear hL hH h1 h2
  go_wp2_with (fail)
  refine (from_calls _ _ _).mono ?_
  rintro e w1 ⟨⟨g1, g2, rfl, hL, hH, h1, h2⟩, hb1⟩
  go_wp2_with (fail)
  refine (leafFM' _ _ _ _ g1 g2 _ hL hH).mono ?_
  rintro e v1 ⟨rfl, hc1⟩
  clear hL hH h1 h2
  go_wp2_with (fail)
  refine (from_calls _ _ _).mono ?_
  rintro e w2 ⟨⟨g1, g2, rfl, hL, hH, h1, h2⟩, hb2⟩
  go_wp2_with (fail)
  refine (leafFM' _ _ _ _ g1 g2 _ hL hH).mono ?_
  rintro e v2 ⟨rfl, hc2⟩
  clear hL hH h1 h2
  go_wp2_with (fail)
  refine (from_calls _ _ _).mono ?_
  rintro e w3 ⟨⟨g1, g2, rfl, hL, hH, h1, h2⟩, hb3⟩
  go_wp2_with (fail)
  refine (leafFM' _ _ _ _ g1 g2 _ hL hH).mono ?_
  rintro e v3 ⟨rfl, hc3⟩
  clear hL hH h1 h2
  go_wp2_with (fail)
  refine (list_raw _ _ _ _ _ _).mono ?_
  rintro e v4 ⟨rfl, hc4⟩
  go_wp2_with (fail)
  refine (from_calls _ _ _).mono ?_
  rintro e w5 ⟨⟨g1, g2, rfl, hL, hH, h1, h2⟩, hb5⟩
  go_wp2_with (fail)
  refine (leafFM' _ _ _ _ g1 g2 _ hL hH).mono ?_
  rintro e v5 ⟨rfl, hc5⟩
  clear hL hH h1 h2
  go_wp2_with (fail)
  refine (from_calls _ _ _).mono ?_
  rintro e w6 ⟨⟨g1, g2, rfl, hL, hH, h1, h2⟩, hb6⟩
  go_wp2_with (fail)
  refine (leafFM' _ _ _ _ g1 g2 _ hL hH).mono ?_
  rintro e v6 ⟨rfl, hc6⟩
  clear hL hH h1 h2
  go_wp2_with (fail)
  refine (leafM' _ _ _).mono ?_
  rintro e v7 ⟨rfl, hc7⟩
  go_wp2_with (fail)
  refine (list_raw _ _ _ _ _ _).mono ?_
  rintro e v8 ⟨rfl, hc8⟩
  go_wp2_with (fail)
  rename_i K4 hK4
  have hB4 : Below w.heap.size w v4 := by
    have e1 := below_step (below_alloc (Below.refl w.heap.size w) _) hb0
    have e2 := below_step e1 hc0
    have e3 := below_step (below_step e2 hb1) hc1
    have e4 := below_step (below_step e3 hb2) hc2
    have e5 := below_step (below_step e4 hb3) hc3
    exact below_step (below_alloc e5 _) hc4
  have hz3 : Blk v3 w.heap.size ZB := by
    have e1 := blk_below (blk_new w (.cells ZB 34)) hb0
    have e2 := blk_below e1 hc0
    have e3 := blk_below (blk_below e2 hb1) hc1
    have e4 := blk_below (blk_below e3 hb2) hc2
    exact blk_below (blk_below e4 hb3) hc3
  have hz4 : Blk v4 w.heap.size ZB := blk_below (blk_alloc hz3 _) hc4
  have hC4 : Blk v4 v3.heap.size CK := blk_below (blk_new v3 (.cells CK 34)) hc4
  have hlC : w.heap.size < v3.heap.size := blk_lt hz3
  have hlc : w.heap.size < v4.heap.size := blk_lt hz4
  have hb7 : Below (v4.alloc (.cells (CB v3.heap.size) 34)).heap.size (v4.alloc (.cells (CB v3.heap.size) 34)) v7 := below_step (below_step (below_step (below_step hb5 hc5) hb6) hc6) hc7
  have hB7 : Below w.heap.size w v7 := below_step (below_alloc hB4 _) hb7
  have hz7 : Blk v7 w.heap.size ZB := blk_below (blk_alloc hz4 _) hb7
  have hlU : w.heap.size < v7.heap.size := blk_lt hz7
  have hz8 : Blk v8 w.heap.size ZB := blk_below (blk_alloc hz7 _) hc8
  have hlu : w.heap.size < v8.heap.size := blk_lt hz8
  have hW : L1 w (v8.alloc (.cells (UB v7.heap.size) 34)).drew v3.heap.size v7.heap.size v4.heap.size v8.heap.size := by
    refine ⟨below_drew (below_alloc (below_step (below_alloc hB7 _) hc8) _), blk_drew (blk_alloc hz8 _), ?_, ?_, ?_, ?_⟩
    · exact blk_drew (blk_alloc (blk_below (blk_alloc (blk_below (blk_alloc hC4 _) hb7) _) hc8) _)
    · exact blk_drew (blk_alloc (blk_below (blk_new v7 (.cells UK 34)) hc8) _)
    · exact blk_drew (blk_alloc (blk_below (blk_alloc (blk_below (blk_new v4 (.cells (CB v3.heap.size) 34)) hb7) _) hc8) _)
    · exact blk_drew (blk_new v8 _)
  unfold UB at hW
  clear hB4 hz3 hz4 hC4 hb7 hB7 hz7 hz8 hb0 hc0 hb1 hc1 hb2 hc2 hb3 hc3 hc4 hb5 hc5 hb6 hc6 hc7 hc8
  generalize v8.alloc (.cells #[.string ⟨#[114, 117, 108, 101]⟩, .int .i64 3, .int .i64 0, .int .u64 0, .int .u64 0, .slice none 0 0, .bool false, .int .i64 16, .slice (some ⟨v7.heap.size, 0, none⟩) 3 3] 34) = W at hW ⊢
  generalize v3.heap.size = gC at *
  generalize v7.heap.size = gU at *
  generalize v4.heap.size = gc at *
  generalize v8.heap.size = gu at *
  refine start_ (n := 9) (S := fun w' => L1 w w' gC gU gc gu) (ds := []) #[false, false, false, false, false, false, false, false, false] (by kernel_rfl) rfl rfl (hW) (fun hHeld => ?_)
  refine take_ (i := 1) (N := some 29) (v := ?_) (a' := ?_) #[false, true, false, false, false, false, false, false, false] rfl rfl (by kernel_rfl) (fun _ _ _ h => h) (Or.inl ⟨by rfl, ?_⟩) hHeld ?_ ?_
  rotate_left
  · intro w' s0
    obtain ⟨_, _, _, _, sc, su⟩ := s0
    have c0 := blk_cell sc 0
    have c1 := blk_cell sc 1
    have c2 := blk_cell sc 2
    have c3 := blk_cell sc 3
    have c4 := blk_cell sc 4
    have c5 := blk_cell sc 5
    have c6 := blk_cell sc 6
    have c7 := blk_cell sc 7
    have c8 := blk_cell sc 8
    have c9 := blk_cell su 0
    have c10 := blk_cell su 1
    have c11 := blk_cell su 2
    have c12 := blk_cell su 3
    have c13 := blk_cell su 4
    have c14 := blk_cell su 5
    have c15 := blk_cell su 6
    have c16 := blk_cell su 7
    have c17 := blk_cell su 8
    go_simp
    with_reducible rfl
  rotate_left
  · simp only [Act.put, List.setIfInBounds_toArray, List.set_cons_zero, List.set_cons_succ, i64_w, i32_w]
    rfl
  refine take_ (i := 2) (N := some 30) (v := ?_) (a' := ?_) #[false, true, true, false, false, false, false, false, false] rfl rfl (by kernel_rfl) (fun _ _ _ h => h) (Or.inl ⟨by rfl, ?_⟩) hHeld ?_ ?_
  rotate_left
  · intro w' s0
    obtain ⟨_, _, _, _, sc, su⟩ := s0
    have c0 := blk_cell sc 0
    have c1 := blk_cell sc 1
    have c2 := blk_cell sc 2
    have c3 := blk_cell sc 3
    have c4 := blk_cell sc 4
    have c5 := blk_cell sc 5
    have c6 := blk_cell sc 6
    have c7 := blk_cell sc 7
    have c8 := blk_cell sc 8
    have c9 := blk_cell su 0
    have c10 := blk_cell su 1
    have c11 := blk_cell su 2
    have c12 := blk_cell su 3
    have c13 := blk_cell su 4
    have c14 := blk_cell su 5
    have c15 := blk_cell su 6
    have c16 := blk_cell su 7
    have c17 := blk_cell su 8
    go_simp
    with_reducible rfl
  rotate_left
  · simp only [Act.put, List.setIfInBounds_toArray, List.set_cons_zero, List.set_cons_succ, i64_w, i32_w]
    rfl
  refine join_ (σ := Nat × Nat × Nat) 1 #[true, true, true, true, true, true, true, true, false] (fun s => [(28, .agg #[.string ⟨#[117, 112]⟩, .int .i64 1, .int .i64 3, .int .u64 0, .int .u64 0, .slice none 0 0, .bool false, .int .i64 0, .slice none 0 0]), (31, .slice (some ⟨s.1, 0, none⟩) 1 1), (32, .agg #[.string ⟨#[100, 101, 102, 97, 117, 108, 116]⟩, .int .i64 1, .int .i64 6, .int .u64 0, .int .u64 0, .slice none 0 0, .bool true, .int .i64 0, .slice none 0 0]), (33, .slice (some ⟨s.2.1, 0, none⟩) 4 4), (34, .agg #[.string ⟨#[112, 111, 114, 116]⟩, .int .i64 3, .int .i64 0, .int .u64 0, .int .u64 0, .slice none 0 0, .bool false, .int .i64 4, .slice (some ⟨s.2.1, 0, none⟩) 4 4]), (3, .pointer (some ⟨s.2.2, 0, none⟩))]) (fun s w' => L1 w w' gC gU gc gu ∧ (w'.heap[s.1]? = some (.cells #[.func (.func 57) #[] #[]] 95 (0, 0))) ∧ (w'.heap[s.2.1]? = some (.cells (PK gC gU) 34 (0, 0)) ∧ w.heap.size ≤ s.2.1) ∧ (w'.heap[s.2.2]? = some (.cells #[.string ⟨#[]⟩, .int .i64 0, .int .i64 0, .int .u64 0, .int .u64 0, .slice none 0 0, .bool false, .int .i64 0, .slice none 0 0] 34 (0, 0)) ∧ w.heap.size < s.2.2)) ?_ ?_
  rotate_left
  · intro hJ0_3_4_5_6_7
    refine join_ (σ := Nat × Nat × Nat) 2 #[true, true, true, true, true, true, true, false, false] (fun s => [(28, .agg #[.string ⟨#[117, 112]⟩, .int .i64 1, .int .i64 3, .int .u64 0, .int .u64 0, .slice none 0 0, .bool false, .int .i64 0, .slice none 0 0]), (31, .slice (some ⟨s.1, 0, none⟩) 1 1), (32, .agg #[.string ⟨#[100, 101, 102, 97, 117, 108, 116]⟩, .int .i64 1, .int .i64 6, .int .u64 0, .int .u64 0, .slice none 0 0, .bool true, .int .i64 0, .slice none 0 0]), (33, .slice (some ⟨s.2.1, 0, none⟩) 4 4), (34, .agg #[.string ⟨#[112, 111, 114, 116]⟩, .int .i64 3, .int .i64 0, .int .u64 0, .int .u64 0, .slice none 0 0, .bool false, .int .i64 4, .slice (some ⟨s.2.1, 0, none⟩) 4 4])]) (fun s w' => L1 w w' gC gU gc gu ∧ (w'.heap[s.1]? = some (.cells #[.func (.func 57) #[] #[]] 95 (0, 0))) ∧ (w'.heap[s.2.1]? = some (.cells (PK gC gU) 34 (0, 0)) ∧ w.heap.size ≤ s.2.1) ∧ (True)) ?_ ?_
    rotate_left
    · intro hJ0_3_4_5_6
      refine join_ (σ := Nat × Nat × Nat) 2 #[true, true, true, true, true, true, false, true, false] (fun s => [(28, .agg #[.string ⟨#[117, 112]⟩, .int .i64 1, .int .i64 3, .int .u64 0, .int .u64 0, .slice none 0 0, .bool false, .int .i64 0, .slice none 0 0]), (31, .slice (some ⟨s.1, 0, none⟩) 1 1), (32, .agg #[.string ⟨#[100, 101, 102, 97, 117, 108, 116]⟩, .int .i64 1, .int .i64 6, .int .u64 0, .int .u64 0, .slice none 0 0, .bool true, .int .i64 0, .slice none 0 0]), (33, .slice (some ⟨s.2.1, 0, none⟩) 4 4), (3, .pointer (some ⟨s.2.2, 0, none⟩))]) (fun s w' => L1 w w' gC gU gc gu ∧ (w'.heap[s.1]? = some (.cells #[.func (.func 57) #[] #[]] 95 (0, 0))) ∧ (w'.heap[s.2.1]? = some (.cells (PK gC gU) 34 (0, 0)) ∧ w.heap.size ≤ s.2.1) ∧ (w'.heap[s.2.2]? = some (.cells #[.string ⟨#[]⟩, .int .i64 0, .int .i64 0, .int .u64 0, .int .u64 0, .slice none 0 0, .bool false, .int .i64 0, .slice none 0 0] 34 (0, 0)) ∧ w.heap.size < s.2.2)) ?_ ?_
      rotate_left
      · intro hJ0_3_4_5_7
        refine join_ (σ := Nat × Nat × Nat) 3 #[true, true, true, true, true, true, false, false, false] (fun s => [(28, .agg #[.string ⟨#[117, 112]⟩, .int .i64 1, .int .i64 3, .int .u64 0, .int .u64 0, .slice none 0 0, .bool false, .int .i64 0, .slice none 0 0]), (31, .slice (some ⟨s.1, 0, none⟩) 1 1), (32, .agg #[.string ⟨#[100, 101, 102, 97, 117, 108, 116]⟩, .int .i64 1, .int .i64 6, .int .u64 0, .int .u64 0, .slice none 0 0, .bool true, .int .i64 0, .slice none 0 0]), (33, .slice (some ⟨s.2.1, 0, none⟩) 4 4)]) (fun s w' => L1 w w' gC gU gc gu ∧ (w'.heap[s.1]? = some (.cells #[.func (.func 57) #[] #[]] 95 (0, 0))) ∧ (w'.heap[s.2.1]? = some (.cells (PK gC gU) 34 (0, 0)) ∧ w.heap.size ≤ s.2.1) ∧ (True)) ?_ ?_
        rotate_left
        · intro hJ0_3_4_5
          refine join_ (σ := Nat × Nat × Nat) 3 #[true, true, true, true, true, false, false, true, false] (fun s => [(28, .agg #[.string ⟨#[117, 112]⟩, .int .i64 1, .int .i64 3, .int .u64 0, .int .u64 0, .slice none 0 0, .bool false, .int .i64 0, .slice none 0 0]), (31, .slice (some ⟨s.1, 0, none⟩) 1 1), (32, .agg #[.string ⟨#[100, 101, 102, 97, 117, 108, 116]⟩, .int .i64 1, .int .i64 6, .int .u64 0, .int .u64 0, .slice none 0 0, .bool true, .int .i64 0, .slice none 0 0]), (3, .pointer (some ⟨s.2.2, 0, none⟩))]) (fun s w' => L1 w w' gC gU gc gu ∧ (w'.heap[s.1]? = some (.cells #[.func (.func 57) #[] #[]] 95 (0, 0))) ∧ (True) ∧ (w'.heap[s.2.2]? = some (.cells #[.string ⟨#[]⟩, .int .i64 0, .int .i64 0, .int .u64 0, .int .u64 0, .slice none 0 0, .bool false, .int .i64 0, .slice none 0 0] 34 (0, 0)) ∧ w.heap.size < s.2.2)) ?_ ?_
          rotate_left
          · intro hJ0_3_4_7
            refine join_ (σ := Nat × Nat × Nat) 4 #[true, true, true, true, true, false, false, false, false] (fun s => [(28, .agg #[.string ⟨#[117, 112]⟩, .int .i64 1, .int .i64 3, .int .u64 0, .int .u64 0, .slice none 0 0, .bool false, .int .i64 0, .slice none 0 0]), (31, .slice (some ⟨s.1, 0, none⟩) 1 1), (32, .agg #[.string ⟨#[100, 101, 102, 97, 117, 108, 116]⟩, .int .i64 1, .int .i64 6, .int .u64 0, .int .u64 0, .slice none 0 0, .bool true, .int .i64 0, .slice none 0 0])]) (fun s w' => L1 w w' gC gU gc gu ∧ (w'.heap[s.1]? = some (.cells #[.func (.func 57) #[] #[]] 95 (0, 0))) ∧ (True) ∧ (True)) ?_ ?_
            rotate_left
            · intro hJ0_3_4
              refine join_ (σ := Nat × Nat × Nat) 4 #[true, true, true, true, false, false, false, true, false] (fun s => [(28, .agg #[.string ⟨#[117, 112]⟩, .int .i64 1, .int .i64 3, .int .u64 0, .int .u64 0, .slice none 0 0, .bool false, .int .i64 0, .slice none 0 0]), (31, .slice (some ⟨s.1, 0, none⟩) 1 1), (3, .pointer (some ⟨s.2.2, 0, none⟩))]) (fun s w' => L1 w w' gC gU gc gu ∧ (w'.heap[s.1]? = some (.cells #[.func (.func 57) #[] #[]] 95 (0, 0))) ∧ (True) ∧ (w'.heap[s.2.2]? = some (.cells #[.string ⟨#[]⟩, .int .i64 0, .int .i64 0, .int .u64 0, .int .u64 0, .slice none 0 0, .bool false, .int .i64 0, .slice none 0 0] 34 (0, 0)) ∧ w.heap.size < s.2.2)) ?_ ?_
              rotate_left
              · intro hJ0_3_7
                refine join_ (σ := Nat × Nat × Nat) 5 #[true, true, true, true, false, false, false, false, false] (fun s => [(28, .agg #[.string ⟨#[117, 112]⟩, .int .i64 1, .int .i64 3, .int .u64 0, .int .u64 0, .slice none 0 0, .bool false, .int .i64 0, .slice none 0 0]), (31, .slice (some ⟨s.1, 0, none⟩) 1 1)]) (fun s w' => L1 w w' gC gU gc gu ∧ (w'.heap[s.1]? = some (.cells #[.func (.func 57) #[] #[]] 95 (0, 0))) ∧ (True) ∧ (True)) ?_ ?_
                rotate_left
                · intro hJ0_3
                  refine join_ (σ := Nat × Nat × Nat) 5 #[true, true, true, false, false, false, false, true, false] (fun s => [(28, .agg #[.string ⟨#[117, 112]⟩, .int .i64 1, .int .i64 3, .int .u64 0, .int .u64 0, .slice none 0 0, .bool false, .int .i64 0, .slice none 0 0]), (3, .pointer (some ⟨s.2.2, 0, none⟩))]) (fun s w' => L1 w w' gC gU gc gu ∧ (True) ∧ (True) ∧ (w'.heap[s.2.2]? = some (.cells #[.string ⟨#[]⟩, .int .i64 0, .int .i64 0, .int .u64 0, .int .u64 0, .slice none 0 0, .bool false, .int .i64 0, .slice none 0 0] 34 (0, 0)) ∧ w.heap.size < s.2.2)) ?_ ?_
                  rotate_left
                  · intro hJ0_7
                    refine join_ (σ := Nat × Nat × Nat) 5 #[false, true, true, true, false, false, false, true, false] (fun s => [(31, .slice (some ⟨s.1, 0, none⟩) 1 1), (3, .pointer (some ⟨s.2.2, 0, none⟩))]) (fun s w' => L1 w w' gC gU gc gu ∧ (w'.heap[s.1]? = some (.cells #[.func (.func 57) #[] #[]] 95 (0, 0))) ∧ (True) ∧ (w'.heap[s.2.2]? = some (.cells #[.string ⟨#[]⟩, .int .i64 0, .int .i64 0, .int .u64 0, .int .u64 0, .slice none 0 0, .bool false, .int .i64 0, .slice none 0 0] 34 (0, 0)) ∧ w.heap.size < s.2.2)) ?_ ?_
                    rotate_left
                    · intro hJ3_7
                      refine join_ (σ := Nat × Nat × Nat) 6 #[true, true, true, false, false, false, false, false, false] (fun s => [(28, .agg #[.string ⟨#[117, 112]⟩, .int .i64 1, .int .i64 3, .int .u64 0, .int .u64 0, .slice none 0 0, .bool false, .int .i64 0, .slice none 0 0])]) (fun s w' => L1 w w' gC gU gc gu ∧ (True) ∧ (True) ∧ (True)) ?_ ?_
                      rotate_left
                      · intro hJ0
                        refine join_ (σ := Nat × Nat × Nat) 6 #[false, true, true, true, false, false, false, false, false] (fun s => [(31, .slice (some ⟨s.1, 0, none⟩) 1 1)]) (fun s w' => L1 w w' gC gU gc gu ∧ (w'.heap[s.1]? = some (.cells #[.func (.func 57) #[] #[]] 95 (0, 0))) ∧ (True) ∧ (True)) ?_ ?_
                        rotate_left
                        · intro hJ3
                          refine join_ (σ := Nat × Nat × Nat) 6 #[false, true, true, false, false, false, false, true, false] (fun s => [(3, .pointer (some ⟨s.2.2, 0, none⟩))]) (fun s w' => L1 w w' gC gU gc gu ∧ (True) ∧ (True) ∧ (w'.heap[s.2.2]? = some (.cells #[.string ⟨#[]⟩, .int .i64 0, .int .i64 0, .int .u64 0, .int .u64 0, .slice none 0 0, .bool false, .int .i64 0, .slice none 0 0] 34 (0, 0)) ∧ w.heap.size < s.2.2)) ?_ ?_
                          rotate_left
                          · intro hJ7
                            refine three_ (i := 0) (j := 3) (k := 7) (Ni := some 28) (Nj := some 31) (Nk := some 3) #[true, true, true, false, false, false, false, false, false] #[false, true, true, true, false, false, false, false, false] #[false, true, true, false, false, false, false, true, false] rfl rfl rfl rfl rfl rfl (by kernel_rfl) (by decide) (by decide) (by decide) (fun K hK => ?_) (fun K hK => ?_) (fun K hK => ?_)
                            · skip
                              refine goes_ Tryd.func55 (by kernel_rfl) rfl #[.string ⟨#[117, 112]⟩, .int .i64 3, .slice none 0 0] (by rfl) rfl rfl (by simp only [List.map_toArray, List.map_cons, List.map_nil]; rfl) ?_
                              with_reducible refine (leaf0_calls _ _ _).mono ?_
                              rintro e V3 ⟨rfl, hb⟩
                              refine ⟨_, rfl, ?_⟩
                              refine hK.out _ _ (L1.below hHeld hb) (fun hHeld => ?_)
                              clear hK K
                              refine norm_ (a' := ?_) ?_ ?_
                              rotate_left
                              · show Act.put _ (some 28) _ = _
                                simp only [Act.put, List.setIfInBounds_toArray, List.set_cons_zero, List.set_cons_succ, i64_w, i32_w]
                                rfl
                              exact norm_ (by first | (simp only [putAll, Act.put, List.setIfInBounds_toArray, List.set_cons_zero, List.set_cons_succ]; done) | (simp only [putAll, Act.put, List.setIfInBounds_toArray, List.set_cons_zero, List.set_cons_succ]; rfl)) (hJ0 (0, 0, 0) _ ⟨hHeld, trivial, trivial, trivial⟩)
                            · skip
                              refine value_ (w1 := ?_) (v := ?_) (by rfl) rfl ?_ ?_
                              rotate_left 2
                              · go_simp
                                constructor
                                · rfl
                                · rfl
                              refine hK.out _ _ (L1.alloc hHeld _) (fun hHeld => ?_)
                              clear hK K
                              refine norm_ (a' := ?_) ?_ ?_
                              rotate_left
                              · show Act.put _ (some 31) _ = _
                                simp only [Act.put, List.setIfInBounds_toArray, List.set_cons_zero, List.set_cons_succ, i64_w, i32_w]
                                rfl
                              exact norm_ (by first | (simp only [putAll, Act.put, List.setIfInBounds_toArray, List.set_cons_zero, List.set_cons_succ]; done) | (simp only [putAll, Act.put, List.setIfInBounds_toArray, List.set_cons_zero, List.set_cons_succ]; rfl)) (hJ3 (W.drew.heap.size, 0, 0) _ ⟨hHeld, blk_new _ _, trivial, trivial⟩)
                            · skip
                              have hge := L1.lt hHeld
                              refine value_ (w1 := ?_) (v := ?_) (by rfl) rfl ?_ ?_
                              rotate_left 2
                              · go_simp
                                constructor
                                · rfl
                                · rfl
                              refine hK.out _ _ (L1.alloc hHeld _) (fun hHeld => ?_)
                              clear hK K
                              refine norm_ (a' := ?_) ?_ ?_
                              rotate_left
                              · show Act.put _ (some 3) _ = _
                                simp only [Act.put, List.setIfInBounds_toArray, List.set_cons_zero, List.set_cons_succ, i64_w, i32_w]
                                rfl
                              exact norm_ (by first | (simp only [putAll, Act.put, List.setIfInBounds_toArray, List.set_cons_zero, List.set_cons_succ]; done) | (simp only [putAll, Act.put, List.setIfInBounds_toArray, List.set_cons_zero, List.set_cons_succ]; rfl)) (hJ7 (0, 0, W.drew.heap.size) _ ⟨hHeld, trivial, trivial, ⟨blk_new _ _, hge⟩⟩)
                          · skip
                            rintro ⟨a3, a5, a7⟩ V ⟨hHeld, h3, h5, h7⟩
                            refine norm_ (a' := ?_) ?_ ?_
                            rotate_left
                            · simp only [putAll, Act.put, List.setIfInBounds_toArray, List.set_cons_zero, List.set_cons_succ]
                              rfl
                            refine two_ (i := 0) (j := 3) (Ni := some 28) (Nj := some 31) #[true, true, true, false, false, false, false, true, false] #[false, true, true, true, false, false, false, true, false] rfl rfl rfl rfl (by kernel_rfl) (by decide) (by decide) (fun K hK => ?_) (fun K hK => ?_)
                            · skip
                              refine goes_ Tryd.func55 (by kernel_rfl) rfl #[.string ⟨#[117, 112]⟩, .int .i64 3, .slice none 0 0] (by rfl) rfl rfl (by simp only [List.map_toArray, List.map_cons, List.map_nil]; rfl) ?_
                              with_reducible refine (leaf0_calls _ _ _).mono ?_
                              rintro e V3 ⟨rfl, hb⟩
                              refine ⟨_, rfl, ?_⟩
                              refine hK.out _ _ (L1.below hHeld hb) (fun hHeld => ?_)
                              clear hK K
                              refine norm_ (a' := ?_) ?_ ?_
                              rotate_left
                              · show Act.put _ (some 28) _ = _
                                simp only [Act.put, List.setIfInBounds_toArray, List.set_cons_zero, List.set_cons_succ, i64_w, i32_w]
                                rfl
                              exact norm_ (by first | (simp only [putAll, Act.put, List.setIfInBounds_toArray, List.set_cons_zero, List.set_cons_succ]; done) | (simp only [putAll, Act.put, List.setIfInBounds_toArray, List.set_cons_zero, List.set_cons_succ]; rfl)) (hJ0_7 (0, 0, a7) _ ⟨hHeld, trivial, trivial, ⟨blk_below (h7.1) hb, h7.2⟩⟩)
                            · skip
                              refine value_ (w1 := ?_) (v := ?_) (by rfl) rfl ?_ ?_
                              rotate_left 2
                              · go_simp
                                constructor
                                · rfl
                                · rfl
                              refine hK.out _ _ (L1.alloc hHeld _) (fun hHeld => ?_)
                              clear hK K
                              refine norm_ (a' := ?_) ?_ ?_
                              rotate_left
                              · show Act.put _ (some 31) _ = _
                                simp only [Act.put, List.setIfInBounds_toArray, List.set_cons_zero, List.set_cons_succ, i64_w, i32_w]
                                rfl
                              exact norm_ (by first | (simp only [putAll, Act.put, List.setIfInBounds_toArray, List.set_cons_zero, List.set_cons_succ]; done) | (simp only [putAll, Act.put, List.setIfInBounds_toArray, List.set_cons_zero, List.set_cons_succ]; rfl)) (hJ3_7 (V.heap.size, 0, a7) _ ⟨hHeld, blk_new _ _, trivial, ⟨blk_alloc (h7.1) _, h7.2⟩⟩)
                        · skip
                          rintro ⟨a3, a5, a7⟩ V ⟨hHeld, h3, h5, h7⟩
                          refine norm_ (a' := ?_) ?_ ?_
                          rotate_left
                          · simp only [putAll, Act.put, List.setIfInBounds_toArray, List.set_cons_zero, List.set_cons_succ]
                            rfl
                          refine two_ (i := 0) (j := 7) (Ni := some 28) (Nj := some 3) #[true, true, true, true, false, false, false, false, false] #[false, true, true, true, false, false, false, true, false] rfl rfl rfl rfl (by kernel_rfl) (by decide) (by decide) (fun K hK => ?_) (fun K hK => ?_)
                          · skip
                            refine goes_ Tryd.func55 (by kernel_rfl) rfl #[.string ⟨#[117, 112]⟩, .int .i64 3, .slice none 0 0] (by rfl) rfl rfl (by simp only [List.map_toArray, List.map_cons, List.map_nil]; rfl) ?_
                            with_reducible refine (leaf0_calls _ _ _).mono ?_
                            rintro e V3 ⟨rfl, hb⟩
                            refine ⟨_, rfl, ?_⟩
                            refine hK.out _ _ (L1.below hHeld hb) (fun hHeld => ?_)
                            clear hK K
                            refine norm_ (a' := ?_) ?_ ?_
                            rotate_left
                            · show Act.put _ (some 28) _ = _
                              simp only [Act.put, List.setIfInBounds_toArray, List.set_cons_zero, List.set_cons_succ, i64_w, i32_w]
                              rfl
                            exact norm_ (by first | (simp only [putAll, Act.put, List.setIfInBounds_toArray, List.set_cons_zero, List.set_cons_succ]; done) | (simp only [putAll, Act.put, List.setIfInBounds_toArray, List.set_cons_zero, List.set_cons_succ]; rfl)) (hJ0_3 (a3, 0, 0) _ ⟨hHeld, blk_below (h3) hb, trivial, trivial⟩)
                          · skip
                            have hge := L1.lt hHeld
                            refine value_ (w1 := ?_) (v := ?_) (by rfl) rfl ?_ ?_
                            rotate_left 2
                            · go_simp
                              constructor
                              · rfl
                              · rfl
                            refine hK.out _ _ (L1.alloc hHeld _) (fun hHeld => ?_)
                            clear hK K
                            refine norm_ (a' := ?_) ?_ ?_
                            rotate_left
                            · show Act.put _ (some 3) _ = _
                              simp only [Act.put, List.setIfInBounds_toArray, List.set_cons_zero, List.set_cons_succ, i64_w, i32_w]
                              rfl
                            exact norm_ (by first | (simp only [putAll, Act.put, List.setIfInBounds_toArray, List.set_cons_zero, List.set_cons_succ]; done) | (simp only [putAll, Act.put, List.setIfInBounds_toArray, List.set_cons_zero, List.set_cons_succ]; rfl)) (hJ3_7 (a3, 0, V.heap.size) _ ⟨hHeld, blk_alloc (h3) _, trivial, ⟨blk_new _ _, hge⟩⟩)
                      · skip
                        rintro ⟨a3, a5, a7⟩ V ⟨hHeld, h3, h5, h7⟩
                        refine norm_ (a' := ?_) ?_ ?_
                        rotate_left
                        · simp only [putAll, Act.put, List.setIfInBounds_toArray, List.set_cons_zero, List.set_cons_succ]
                          rfl
                        refine two_ (i := 3) (j := 7) (Ni := some 31) (Nj := some 3) #[true, true, true, true, false, false, false, false, false] #[true, true, true, false, false, false, false, true, false] rfl rfl rfl rfl (by kernel_rfl) (by decide) (by decide) (fun K hK => ?_) (fun K hK => ?_)
                        · skip
                          refine value_ (w1 := ?_) (v := ?_) (by rfl) rfl ?_ ?_
                          rotate_left 2
                          · go_simp
                            constructor
                            · rfl
                            · rfl
                          refine hK.out _ _ (L1.alloc hHeld _) (fun hHeld => ?_)
                          clear hK K
                          refine norm_ (a' := ?_) ?_ ?_
                          rotate_left
                          · show Act.put _ (some 31) _ = _
                            simp only [Act.put, List.setIfInBounds_toArray, List.set_cons_zero, List.set_cons_succ, i64_w, i32_w]
                            rfl
                          exact norm_ (by first | (simp only [putAll, Act.put, List.setIfInBounds_toArray, List.set_cons_zero, List.set_cons_succ]; done) | (simp only [putAll, Act.put, List.setIfInBounds_toArray, List.set_cons_zero, List.set_cons_succ]; rfl)) (hJ0_3 (V.heap.size, 0, 0) _ ⟨hHeld, blk_new _ _, trivial, trivial⟩)
                        · skip
                          have hge := L1.lt hHeld
                          refine value_ (w1 := ?_) (v := ?_) (by rfl) rfl ?_ ?_
                          rotate_left 2
                          · go_simp
                            constructor
                            · rfl
                            · rfl
                          refine hK.out _ _ (L1.alloc hHeld _) (fun hHeld => ?_)
                          clear hK K
                          refine norm_ (a' := ?_) ?_ ?_
                          rotate_left
                          · show Act.put _ (some 3) _ = _
                            simp only [Act.put, List.setIfInBounds_toArray, List.set_cons_zero, List.set_cons_succ, i64_w, i32_w]
                            rfl
                          exact norm_ (by first | (simp only [putAll, Act.put, List.setIfInBounds_toArray, List.set_cons_zero, List.set_cons_succ]; done) | (simp only [putAll, Act.put, List.setIfInBounds_toArray, List.set_cons_zero, List.set_cons_succ]; rfl)) (hJ0_7 (0, 0, V.heap.size) _ ⟨hHeld, trivial, trivial, ⟨blk_new _ _, hge⟩⟩)
                    · skip
                      rintro ⟨a3, a5, a7⟩ V ⟨hHeld, h3, h5, h7⟩
                      refine norm_ (a' := ?_) ?_ ?_
                      rotate_left
                      · simp only [putAll, Act.put, List.setIfInBounds_toArray, List.set_cons_zero, List.set_cons_succ]
                        rfl
                      refine one_ (i := 0) (N := some 28) #[true, true, true, true, false, false, false, true, false] rfl rfl (by kernel_rfl) (by decide) (fun K hK => ?_)
                      refine goes_ Tryd.func55 (by kernel_rfl) rfl #[.string ⟨#[117, 112]⟩, .int .i64 3, .slice none 0 0] (by rfl) rfl rfl (by simp only [List.map_toArray, List.map_cons, List.map_nil]; rfl) ?_
                      with_reducible refine (leaf0_calls _ _ _).mono ?_
                      rintro e V3 ⟨rfl, hb⟩
                      refine ⟨_, rfl, ?_⟩
                      refine hK.out _ _ (L1.below hHeld hb) (fun hHeld => ?_)
                      clear hK K
                      refine norm_ (a' := ?_) ?_ ?_
                      rotate_left
                      · show Act.put _ (some 28) _ = _
                        simp only [Act.put, List.setIfInBounds_toArray, List.set_cons_zero, List.set_cons_succ, i64_w, i32_w]
                        rfl
                      exact norm_ (by first | (simp only [putAll, Act.put, List.setIfInBounds_toArray, List.set_cons_zero, List.set_cons_succ]; done) | (simp only [putAll, Act.put, List.setIfInBounds_toArray, List.set_cons_zero, List.set_cons_succ]; rfl)) (hJ0_3_7 (a3, 0, a7) _ ⟨hHeld, blk_below (h3) hb, trivial, ⟨blk_below (h7.1) hb, h7.2⟩⟩)
                  · skip
                    rintro ⟨a3, a5, a7⟩ V ⟨hHeld, h3, h5, h7⟩
                    refine norm_ (a' := ?_) ?_ ?_
                    rotate_left
                    · simp only [putAll, Act.put, List.setIfInBounds_toArray, List.set_cons_zero, List.set_cons_succ]
                      rfl
                    refine one_ (i := 3) (N := some 31) #[true, true, true, true, false, false, false, true, false] rfl rfl (by kernel_rfl) (by decide) (fun K hK => ?_)
                    refine value_ (w1 := ?_) (v := ?_) (by rfl) rfl ?_ ?_
                    rotate_left 2
                    · go_simp
                      constructor
                      · rfl
                      · rfl
                    refine hK.out _ _ (L1.alloc hHeld _) (fun hHeld => ?_)
                    clear hK K
                    refine norm_ (a' := ?_) ?_ ?_
                    rotate_left
                    · show Act.put _ (some 31) _ = _
                      simp only [Act.put, List.setIfInBounds_toArray, List.set_cons_zero, List.set_cons_succ, i64_w, i32_w]
                      rfl
                    exact norm_ (by first | (simp only [putAll, Act.put, List.setIfInBounds_toArray, List.set_cons_zero, List.set_cons_succ]; done) | (simp only [putAll, Act.put, List.setIfInBounds_toArray, List.set_cons_zero, List.set_cons_succ]; rfl)) (hJ0_3_7 (V.heap.size, 0, a7) _ ⟨hHeld, blk_new _ _, trivial, ⟨blk_alloc (h7.1) _, h7.2⟩⟩)
                · skip
                  rintro ⟨a3, a5, a7⟩ V ⟨hHeld, h3, h5, h7⟩
                  refine norm_ (a' := ?_) ?_ ?_
                  rotate_left
                  · simp only [putAll, Act.put, List.setIfInBounds_toArray, List.set_cons_zero, List.set_cons_succ]
                    rfl
                  refine two_ (i := 4) (j := 7) (Ni := some 32) (Nj := some 3) #[true, true, true, true, true, false, false, false, false] #[true, true, true, true, false, false, false, true, false] rfl rfl rfl rfl (by kernel_rfl) (by decide) (by decide) (fun K hK => ?_) (fun K hK => ?_)
                  · skip
                    refine goes_ Tryd.func55 (by kernel_rfl) rfl #[.string ⟨#[100, 101, 102, 97, 117, 108, 116]⟩, .int .i64 6, .slice (some ⟨a3, 0, none⟩) 1 1] (by rfl) rfl rfl (by simp only [List.map_toArray, List.map_cons, List.map_nil]; rfl) ?_
                    with_reducible refine (leafM_calls _ _ ⟨a3, 0, none⟩ 1 _ ((blk_cell h3 0).trans rfl) (blk_lt h3)).mono ?_
                    rintro e V3 ⟨rfl, hb⟩
                    refine ⟨_, rfl, ?_⟩
                    refine hK.out _ _ (L1.below hHeld hb) (fun hHeld => ?_)
                    clear hK K
                    refine norm_ (a' := ?_) ?_ ?_
                    rotate_left
                    · show Act.put _ (some 32) _ = _
                      simp only [Act.put, List.setIfInBounds_toArray, List.set_cons_zero, List.set_cons_succ, i64_w, i32_w]
                      rfl
                    exact norm_ (by first | (simp only [putAll, Act.put, List.setIfInBounds_toArray, List.set_cons_zero, List.set_cons_succ]; done) | (simp only [putAll, Act.put, List.setIfInBounds_toArray, List.set_cons_zero, List.set_cons_succ]; rfl)) (hJ0_3_4 (a3, 0, 0) _ ⟨hHeld, blk_below (h3) hb, trivial, trivial⟩)
                  · skip
                    have hge := L1.lt hHeld
                    refine value_ (w1 := ?_) (v := ?_) (by rfl) rfl ?_ ?_
                    rotate_left 2
                    · go_simp
                      constructor
                      · rfl
                      · rfl
                    refine hK.out _ _ (L1.alloc hHeld _) (fun hHeld => ?_)
                    clear hK K
                    refine norm_ (a' := ?_) ?_ ?_
                    rotate_left
                    · show Act.put _ (some 3) _ = _
                      simp only [Act.put, List.setIfInBounds_toArray, List.set_cons_zero, List.set_cons_succ, i64_w, i32_w]
                      rfl
                    exact norm_ (by first | (simp only [putAll, Act.put, List.setIfInBounds_toArray, List.set_cons_zero, List.set_cons_succ]; done) | (simp only [putAll, Act.put, List.setIfInBounds_toArray, List.set_cons_zero, List.set_cons_succ]; rfl)) (hJ0_3_7 (a3, 0, V.heap.size) _ ⟨hHeld, blk_alloc (h3) _, trivial, ⟨blk_new _ _, hge⟩⟩)
              · skip
                rintro ⟨a3, a5, a7⟩ V ⟨hHeld, h3, h5, h7⟩
                refine norm_ (a' := ?_) ?_ ?_
                rotate_left
                · simp only [putAll, Act.put, List.setIfInBounds_toArray, List.set_cons_zero, List.set_cons_succ]
                  rfl
                refine one_ (i := 4) (N := some 32) #[true, true, true, true, true, false, false, true, false] rfl rfl (by kernel_rfl) (by decide) (fun K hK => ?_)
                refine goes_ Tryd.func55 (by kernel_rfl) rfl #[.string ⟨#[100, 101, 102, 97, 117, 108, 116]⟩, .int .i64 6, .slice (some ⟨a3, 0, none⟩) 1 1] (by rfl) rfl rfl (by simp only [List.map_toArray, List.map_cons, List.map_nil]; rfl) ?_
                with_reducible refine (leafM_calls _ _ ⟨a3, 0, none⟩ 1 _ ((blk_cell h3 0).trans rfl) (blk_lt h3)).mono ?_
                rintro e V3 ⟨rfl, hb⟩
                refine ⟨_, rfl, ?_⟩
                refine hK.out _ _ (L1.below hHeld hb) (fun hHeld => ?_)
                clear hK K
                refine norm_ (a' := ?_) ?_ ?_
                rotate_left
                · show Act.put _ (some 32) _ = _
                  simp only [Act.put, List.setIfInBounds_toArray, List.set_cons_zero, List.set_cons_succ, i64_w, i32_w]
                  rfl
                exact norm_ (by first | (simp only [putAll, Act.put, List.setIfInBounds_toArray, List.set_cons_zero, List.set_cons_succ]; done) | (simp only [putAll, Act.put, List.setIfInBounds_toArray, List.set_cons_zero, List.set_cons_succ]; rfl)) (hJ0_3_4_7 (a3, 0, a7) _ ⟨hHeld, blk_below (h3) hb, trivial, ⟨blk_below (h7.1) hb, h7.2⟩⟩)
            · skip
              rintro ⟨a3, a5, a7⟩ V ⟨hHeld, h3, h5, h7⟩
              refine norm_ (a' := ?_) ?_ ?_
              rotate_left
              · simp only [putAll, Act.put, List.setIfInBounds_toArray, List.set_cons_zero, List.set_cons_succ]
                rfl
              refine two_ (i := 5) (j := 7) (Ni := some 33) (Nj := some 3) #[true, true, true, true, true, true, false, false, false] #[true, true, true, true, true, false, false, true, false] rfl rfl rfl rfl (by kernel_rfl) (by decide) (by decide) (fun K hK => ?_) (fun K hK => ?_)
              · skip
                have hge := L1.le hHeld
                refine value_ (w1 := ?_) (v := ?_) (by rfl) rfl ?_ ?_
                rotate_left 2
                · go_simp
                  constructor
                  · rfl
                  · rfl
                refine hK.out _ _ (L1.alloc hHeld _) (fun hHeld => ?_)
                clear hK K
                refine norm_ (a' := ?_) ?_ ?_
                rotate_left
                · show Act.put _ (some 33) _ = _
                  simp only [Act.put, List.setIfInBounds_toArray, List.set_cons_zero, List.set_cons_succ, i64_w, i32_w]
                  rfl
                exact norm_ (by first | (simp only [putAll, Act.put, List.setIfInBounds_toArray, List.set_cons_zero, List.set_cons_succ]; done) | (simp only [putAll, Act.put, List.setIfInBounds_toArray, List.set_cons_zero, List.set_cons_succ]; rfl)) (hJ0_3_4_5 (a3, V.heap.size, 0) _ ⟨hHeld, blk_alloc (h3) _, ⟨blk_new _ _, hge⟩, trivial⟩)
              · skip
                have hge := L1.lt hHeld
                refine value_ (w1 := ?_) (v := ?_) (by rfl) rfl ?_ ?_
                rotate_left 2
                · go_simp
                  constructor
                  · rfl
                  · rfl
                refine hK.out _ _ (L1.alloc hHeld _) (fun hHeld => ?_)
                clear hK K
                refine norm_ (a' := ?_) ?_ ?_
                rotate_left
                · show Act.put _ (some 3) _ = _
                  simp only [Act.put, List.setIfInBounds_toArray, List.set_cons_zero, List.set_cons_succ, i64_w, i32_w]
                  rfl
                exact norm_ (by first | (simp only [putAll, Act.put, List.setIfInBounds_toArray, List.set_cons_zero, List.set_cons_succ]; done) | (simp only [putAll, Act.put, List.setIfInBounds_toArray, List.set_cons_zero, List.set_cons_succ]; rfl)) (hJ0_3_4_7 (a3, 0, V.heap.size) _ ⟨hHeld, blk_alloc (h3) _, trivial, ⟨blk_new _ _, hge⟩⟩)
          · skip
            rintro ⟨a3, a5, a7⟩ V ⟨hHeld, h3, h5, h7⟩
            refine norm_ (a' := ?_) ?_ ?_
            rotate_left
            · simp only [putAll, Act.put, List.setIfInBounds_toArray, List.set_cons_zero, List.set_cons_succ]
              rfl
            refine one_ (i := 5) (N := some 33) #[true, true, true, true, true, true, false, true, false] rfl rfl (by kernel_rfl) (by decide) (fun K hK => ?_)
            have hge := L1.le hHeld
            refine value_ (w1 := ?_) (v := ?_) (by rfl) rfl ?_ ?_
            rotate_left 2
            · go_simp
              constructor
              · rfl
              · rfl
            refine hK.out _ _ (L1.alloc hHeld _) (fun hHeld => ?_)
            clear hK K
            refine norm_ (a' := ?_) ?_ ?_
            rotate_left
            · show Act.put _ (some 33) _ = _
              simp only [Act.put, List.setIfInBounds_toArray, List.set_cons_zero, List.set_cons_succ, i64_w, i32_w]
              rfl
            exact norm_ (by first | (simp only [putAll, Act.put, List.setIfInBounds_toArray, List.set_cons_zero, List.set_cons_succ]; done) | (simp only [putAll, Act.put, List.setIfInBounds_toArray, List.set_cons_zero, List.set_cons_succ]; rfl)) (hJ0_3_4_5_7 (a3, V.heap.size, a7) _ ⟨hHeld, blk_alloc (h3) _, ⟨blk_new _ _, hge⟩, ⟨blk_alloc (h7.1) _, h7.2⟩⟩)
        · skip
          rintro ⟨a3, a5, a7⟩ V ⟨hHeld, h3, h5, h7⟩
          refine norm_ (a' := ?_) ?_ ?_
          rotate_left
          · simp only [putAll, Act.put, List.setIfInBounds_toArray, List.set_cons_zero, List.set_cons_succ]
            rfl
          refine two_ (i := 6) (j := 7) (Ni := some 34) (Nj := some 3) #[true, true, true, true, true, true, true, false, false] #[true, true, true, true, true, true, false, true, false] rfl rfl rfl rfl (by kernel_rfl) (by decide) (by decide) (fun K hK => ?_) (fun K hK => ?_)
          · skip
            refine goes_ Tryd.func54 (by kernel_rfl) rfl #[.string ⟨#[112, 111, 114, 116]⟩, .int .i64 4, .slice (some ⟨a5, 0, none⟩) 4 4] (by rfl) rfl rfl (by simp only [List.map_toArray, List.map_cons, List.map_nil]; rfl) ?_
            with_reducible refine (list_raw _ _ _ _ _ _).mono ?_
            rintro e V3 ⟨rfl, hb⟩
            refine ⟨_, rfl, ?_⟩
            refine hK.out _ _ (L1.below hHeld hb) (fun hHeld => ?_)
            clear hK K
            refine norm_ (a' := ?_) ?_ ?_
            rotate_left
            · show Act.put _ (some 34) _ = _
              simp only [Act.put, List.setIfInBounds_toArray, List.set_cons_zero, List.set_cons_succ, i64_w, i32_w]
              rfl
            exact norm_ (by first | (simp only [putAll, Act.put, List.setIfInBounds_toArray, List.set_cons_zero, List.set_cons_succ]; done) | (simp only [putAll, Act.put, List.setIfInBounds_toArray, List.set_cons_zero, List.set_cons_succ]; rfl)) (hJ0_3_4_5_6 (a3, a5, 0) _ ⟨hHeld, blk_below (h3) hb, ⟨blk_below (h5.1) hb, h5.2⟩, trivial⟩)
          · skip
            have hge := L1.lt hHeld
            refine value_ (w1 := ?_) (v := ?_) (by rfl) rfl ?_ ?_
            rotate_left 2
            · go_simp
              constructor
              · rfl
              · rfl
            refine hK.out _ _ (L1.alloc hHeld _) (fun hHeld => ?_)
            clear hK K
            refine norm_ (a' := ?_) ?_ ?_
            rotate_left
            · show Act.put _ (some 3) _ = _
              simp only [Act.put, List.setIfInBounds_toArray, List.set_cons_zero, List.set_cons_succ, i64_w, i32_w]
              rfl
            exact norm_ (by first | (simp only [putAll, Act.put, List.setIfInBounds_toArray, List.set_cons_zero, List.set_cons_succ]; done) | (simp only [putAll, Act.put, List.setIfInBounds_toArray, List.set_cons_zero, List.set_cons_succ]; rfl)) (hJ0_3_4_5_7 (a3, a5, V.heap.size) _ ⟨hHeld, blk_alloc (h3) _, ⟨blk_alloc (h5.1) _, h5.2⟩, ⟨blk_new _ _, hge⟩⟩)
      · skip
        rintro ⟨a3, a5, a7⟩ V ⟨hHeld, h3, h5, h7⟩
        refine norm_ (a' := ?_) ?_ ?_
        rotate_left
        · simp only [putAll, Act.put, List.setIfInBounds_toArray, List.set_cons_zero, List.set_cons_succ]
          rfl
        refine one_ (i := 6) (N := some 34) #[true, true, true, true, true, true, true, true, false] rfl rfl (by kernel_rfl) (by decide) (fun K hK => ?_)
        refine goes_ Tryd.func54 (by kernel_rfl) rfl #[.string ⟨#[112, 111, 114, 116]⟩, .int .i64 4, .slice (some ⟨a5, 0, none⟩) 4 4] (by rfl) rfl rfl (by simp only [List.map_toArray, List.map_cons, List.map_nil]; rfl) ?_
        with_reducible refine (list_raw _ _ _ _ _ _).mono ?_
        rintro e V3 ⟨rfl, hb⟩
        refine ⟨_, rfl, ?_⟩
        refine hK.out _ _ (L1.below hHeld hb) (fun hHeld => ?_)
        clear hK K
        refine norm_ (a' := ?_) ?_ ?_
        rotate_left
        · show Act.put _ (some 34) _ = _
          simp only [Act.put, List.setIfInBounds_toArray, List.set_cons_zero, List.set_cons_succ, i64_w, i32_w]
          rfl
        exact norm_ (by first | (simp only [putAll, Act.put, List.setIfInBounds_toArray, List.set_cons_zero, List.set_cons_succ]; done) | (simp only [putAll, Act.put, List.setIfInBounds_toArray, List.set_cons_zero, List.set_cons_succ]; rfl)) (hJ0_3_4_5_6_7 (a3, a5, a7) _ ⟨hHeld, blk_below (h3) hb, ⟨blk_below (h5.1) hb, h5.2⟩, ⟨blk_below (h7.1) hb, h7.2⟩⟩)
    · skip
      rintro ⟨a3, a5, a7⟩ V ⟨hHeld, h3, h5, h7⟩
      refine norm_ (a' := ?_) ?_ ?_
      rotate_left
      · simp only [putAll, Act.put, List.setIfInBounds_toArray, List.set_cons_zero, List.set_cons_succ]
        rfl
      refine one_ (i := 7) (N := some 3) #[true, true, true, true, true, true, true, true, false] rfl rfl (by kernel_rfl) (by decide) (fun K hK => ?_)
      have hge := L1.lt hHeld
      refine value_ (w1 := ?_) (v := ?_) (by rfl) rfl ?_ ?_
      rotate_left 2
      · go_simp
        constructor
        · rfl
        · rfl
      refine hK.out _ _ (L1.alloc hHeld _) (fun hHeld => ?_)
      clear hK K
      refine norm_ (a' := ?_) ?_ ?_
      rotate_left
      · show Act.put _ (some 3) _ = _
        simp only [Act.put, List.setIfInBounds_toArray, List.set_cons_zero, List.set_cons_succ, i64_w, i32_w]
        rfl
      exact norm_ (by first | (simp only [putAll, Act.put, List.setIfInBounds_toArray, List.set_cons_zero, List.set_cons_succ]; done) | (simp only [putAll, Act.put, List.setIfInBounds_toArray, List.set_cons_zero, List.set_cons_succ]; rfl)) (hJ0_3_4_5_6_7 (a3, a5, V.heap.size) _ ⟨hHeld, blk_alloc (h3) _, ⟨blk_alloc (h5.1) _, h5.2⟩, ⟨blk_new _ _, hge⟩⟩)
  rintro ⟨a3, a5, a7⟩ V ⟨hHeld, h3, h5, h7⟩
  refine norm_ (a' := ?_) ?_ ?_
  rotate_left
  · simp only [putAll, Act.put, List.setIfInBounds_toArray, List.set_cons_zero, List.set_cons_succ]
    rfl
  refine one_ (i := 8) (N := none) #[true, true, true, true, true, true, true, true, true] rfl rfl (by kernel_rfl) (by decide) (fun K hK => ?_)
  have kc0 : (V).cell? ⟨a7, 0, none⟩ = some (.string ⟨#[]⟩) := (blk_cell h7.1 0).trans rfl
  have kf0 := blk_frozen h7.1 0
  have kb0 : ((V).setCell ⟨a7, 0, none⟩ (.string ⟨#[112, 111, 114, 116]⟩)).heap[a7]? = some (.cells #[.string ⟨#[112, 111, 114, 116]⟩, .int .i64 0, .int .i64 0, .int .u64 0, .int .u64 0, .slice none 0 0, .bool false, .int .i64 0, .slice none 0 0] 34 (0, 0)) := blk_set_ h7.1 _ rfl
  have kc1 : ((V).setCell ⟨a7, 0, none⟩ (.string ⟨#[112, 111, 114, 116]⟩)).cell? ⟨a7, 1, none⟩ = some (.int .i64 0) := (blk_cell kb0 1).trans rfl
  have kf1 := blk_frozen kb0 1
  have kb1 : (((V).setCell ⟨a7, 0, none⟩ (.string ⟨#[112, 111, 114, 116]⟩)).setCell ⟨a7, 1, none⟩ (.int .i64 3)).heap[a7]? = some (.cells #[.string ⟨#[112, 111, 114, 116]⟩, .int .i64 3, .int .i64 0, .int .u64 0, .int .u64 0, .slice none 0 0, .bool false, .int .i64 0, .slice none 0 0] 34 (0, 0)) := blk_set_ kb0 _ rfl
  have kc2 : (((V).setCell ⟨a7, 0, none⟩ (.string ⟨#[112, 111, 114, 116]⟩)).setCell ⟨a7, 1, none⟩ (.int .i64 3)).cell? ⟨a7, 2, none⟩ = some (.int .i64 0) := (blk_cell kb1 2).trans rfl
  have kf2 := blk_frozen kb1 2
  have kb2 : ((((V).setCell ⟨a7, 0, none⟩ (.string ⟨#[112, 111, 114, 116]⟩)).setCell ⟨a7, 1, none⟩ (.int .i64 3)).setCell ⟨a7, 2, none⟩ (.int .i64 0)).heap[a7]? = some (.cells #[.string ⟨#[112, 111, 114, 116]⟩, .int .i64 3, .int .i64 0, .int .u64 0, .int .u64 0, .slice none 0 0, .bool false, .int .i64 0, .slice none 0 0] 34 (0, 0)) := blk_set_ kb1 _ rfl
  have kc3 : ((((V).setCell ⟨a7, 0, none⟩ (.string ⟨#[112, 111, 114, 116]⟩)).setCell ⟨a7, 1, none⟩ (.int .i64 3)).setCell ⟨a7, 2, none⟩ (.int .i64 0)).cell? ⟨a7, 3, none⟩ = some (.int .u64 0) := (blk_cell kb2 3).trans rfl
  have kf3 := blk_frozen kb2 3
  have kb3 : (((((V).setCell ⟨a7, 0, none⟩ (.string ⟨#[112, 111, 114, 116]⟩)).setCell ⟨a7, 1, none⟩ (.int .i64 3)).setCell ⟨a7, 2, none⟩ (.int .i64 0)).setCell ⟨a7, 3, none⟩ (.int .u64 0)).heap[a7]? = some (.cells #[.string ⟨#[112, 111, 114, 116]⟩, .int .i64 3, .int .i64 0, .int .u64 0, .int .u64 0, .slice none 0 0, .bool false, .int .i64 0, .slice none 0 0] 34 (0, 0)) := blk_set_ kb2 _ rfl
  have kc4 : (((((V).setCell ⟨a7, 0, none⟩ (.string ⟨#[112, 111, 114, 116]⟩)).setCell ⟨a7, 1, none⟩ (.int .i64 3)).setCell ⟨a7, 2, none⟩ (.int .i64 0)).setCell ⟨a7, 3, none⟩ (.int .u64 0)).cell? ⟨a7, 4, none⟩ = some (.int .u64 0) := (blk_cell kb3 4).trans rfl
  have kf4 := blk_frozen kb3 4
  have kb4 : ((((((V).setCell ⟨a7, 0, none⟩ (.string ⟨#[112, 111, 114, 116]⟩)).setCell ⟨a7, 1, none⟩ (.int .i64 3)).setCell ⟨a7, 2, none⟩ (.int .i64 0)).setCell ⟨a7, 3, none⟩ (.int .u64 0)).setCell ⟨a7, 4, none⟩ (.int .u64 0)).heap[a7]? = some (.cells #[.string ⟨#[112, 111, 114, 116]⟩, .int .i64 3, .int .i64 0, .int .u64 0, .int .u64 0, .slice none 0 0, .bool false, .int .i64 0, .slice none 0 0] 34 (0, 0)) := blk_set_ kb3 _ rfl
  have kc5 : ((((((V).setCell ⟨a7, 0, none⟩ (.string ⟨#[112, 111, 114, 116]⟩)).setCell ⟨a7, 1, none⟩ (.int .i64 3)).setCell ⟨a7, 2, none⟩ (.int .i64 0)).setCell ⟨a7, 3, none⟩ (.int .u64 0)).setCell ⟨a7, 4, none⟩ (.int .u64 0)).cell? ⟨a7, 5, none⟩ = some (.slice none 0 0) := (blk_cell kb4 5).trans rfl
  have kf5 := blk_frozen kb4 5
  have kb5 : (((((((V).setCell ⟨a7, 0, none⟩ (.string ⟨#[112, 111, 114, 116]⟩)).setCell ⟨a7, 1, none⟩ (.int .i64 3)).setCell ⟨a7, 2, none⟩ (.int .i64 0)).setCell ⟨a7, 3, none⟩ (.int .u64 0)).setCell ⟨a7, 4, none⟩ (.int .u64 0)).setCell ⟨a7, 5, none⟩ (.slice none 0 0)).heap[a7]? = some (.cells #[.string ⟨#[112, 111, 114, 116]⟩, .int .i64 3, .int .i64 0, .int .u64 0, .int .u64 0, .slice none 0 0, .bool false, .int .i64 0, .slice none 0 0] 34 (0, 0)) := blk_set_ kb4 _ rfl
  have kc6 : (((((((V).setCell ⟨a7, 0, none⟩ (.string ⟨#[112, 111, 114, 116]⟩)).setCell ⟨a7, 1, none⟩ (.int .i64 3)).setCell ⟨a7, 2, none⟩ (.int .i64 0)).setCell ⟨a7, 3, none⟩ (.int .u64 0)).setCell ⟨a7, 4, none⟩ (.int .u64 0)).setCell ⟨a7, 5, none⟩ (.slice none 0 0)).cell? ⟨a7, 6, none⟩ = some (.bool false) := (blk_cell kb5 6).trans rfl
  have kf6 := blk_frozen kb5 6
  have kb6 : ((((((((V).setCell ⟨a7, 0, none⟩ (.string ⟨#[112, 111, 114, 116]⟩)).setCell ⟨a7, 1, none⟩ (.int .i64 3)).setCell ⟨a7, 2, none⟩ (.int .i64 0)).setCell ⟨a7, 3, none⟩ (.int .u64 0)).setCell ⟨a7, 4, none⟩ (.int .u64 0)).setCell ⟨a7, 5, none⟩ (.slice none 0 0)).setCell ⟨a7, 6, none⟩ (.bool false)).heap[a7]? = some (.cells #[.string ⟨#[112, 111, 114, 116]⟩, .int .i64 3, .int .i64 0, .int .u64 0, .int .u64 0, .slice none 0 0, .bool false, .int .i64 0, .slice none 0 0] 34 (0, 0)) := blk_set_ kb5 _ rfl
  have kc7 : ((((((((V).setCell ⟨a7, 0, none⟩ (.string ⟨#[112, 111, 114, 116]⟩)).setCell ⟨a7, 1, none⟩ (.int .i64 3)).setCell ⟨a7, 2, none⟩ (.int .i64 0)).setCell ⟨a7, 3, none⟩ (.int .u64 0)).setCell ⟨a7, 4, none⟩ (.int .u64 0)).setCell ⟨a7, 5, none⟩ (.slice none 0 0)).setCell ⟨a7, 6, none⟩ (.bool false)).cell? ⟨a7, 7, none⟩ = some (.int .i64 0) := (blk_cell kb6 7).trans rfl
  have kf7 := blk_frozen kb6 7
  have kb7 : (((((((((V).setCell ⟨a7, 0, none⟩ (.string ⟨#[112, 111, 114, 116]⟩)).setCell ⟨a7, 1, none⟩ (.int .i64 3)).setCell ⟨a7, 2, none⟩ (.int .i64 0)).setCell ⟨a7, 3, none⟩ (.int .u64 0)).setCell ⟨a7, 4, none⟩ (.int .u64 0)).setCell ⟨a7, 5, none⟩ (.slice none 0 0)).setCell ⟨a7, 6, none⟩ (.bool false)).setCell ⟨a7, 7, none⟩ (.int .i64 4)).heap[a7]? = some (.cells #[.string ⟨#[112, 111, 114, 116]⟩, .int .i64 3, .int .i64 0, .int .u64 0, .int .u64 0, .slice none 0 0, .bool false, .int .i64 4, .slice none 0 0] 34 (0, 0)) := blk_set_ kb6 _ rfl
  have kc8 : (((((((((V).setCell ⟨a7, 0, none⟩ (.string ⟨#[112, 111, 114, 116]⟩)).setCell ⟨a7, 1, none⟩ (.int .i64 3)).setCell ⟨a7, 2, none⟩ (.int .i64 0)).setCell ⟨a7, 3, none⟩ (.int .u64 0)).setCell ⟨a7, 4, none⟩ (.int .u64 0)).setCell ⟨a7, 5, none⟩ (.slice none 0 0)).setCell ⟨a7, 6, none⟩ (.bool false)).setCell ⟨a7, 7, none⟩ (.int .i64 4)).cell? ⟨a7, 8, none⟩ = some (.slice none 0 0) := (blk_cell kb7 8).trans rfl
  have kf8 := blk_frozen kb7 8
  have kb8 : ((((((((((V).setCell ⟨a7, 0, none⟩ (.string ⟨#[112, 111, 114, 116]⟩)).setCell ⟨a7, 1, none⟩ (.int .i64 3)).setCell ⟨a7, 2, none⟩ (.int .i64 0)).setCell ⟨a7, 3, none⟩ (.int .u64 0)).setCell ⟨a7, 4, none⟩ (.int .u64 0)).setCell ⟨a7, 5, none⟩ (.slice none 0 0)).setCell ⟨a7, 6, none⟩ (.bool false)).setCell ⟨a7, 7, none⟩ (.int .i64 4)).setCell ⟨a7, 8, none⟩ (.slice (some ⟨a5, 0, none⟩) 4 4)).heap[a7]? = some (.cells #[.string ⟨#[112, 111, 114, 116]⟩, .int .i64 3, .int .i64 0, .int .u64 0, .int .u64 0, .slice none 0 0, .bool false, .int .i64 4, .slice (some ⟨a5, 0, none⟩) 4 4] 34 (0, 0)) := blk_set_ kb7 _ rfl
  refine skip_ (w1 := ?_) (by rfl) rfl ?_ ?_
  rotate_left
  · go_simp
    rfl
  refine hK.out _ _ (L1.set hHeld h7.1 h7.2 _ _ _ _ _ _ _ _ _) (fun hHeld => ?_)
  clear hK K
  refine done_ (by kernel_rfl) ?_
  refine hK4 _ _ ?_
  clear hK4 K4
  replace h5 : Blk V a5 (PK gC gU) ∧ w.heap.size ≤ a5 := h5
  replace h7 : Blk V a7 ZB ∧ w.heap.size < a7 := h7
  have hn5 : a5 ≠ a7 := blk_apart (a := ⟨#[117, 112]⟩) (b := ⟨#[]⟩) h5.1 h7.1 rfl rfl (by decide)
  have b9 := blk_set9 h7.1 (.string ⟨#[112, 111, 114, 116]⟩) (.int .i64 3) (.int .i64 0) (.int .u64 0) (.int .u64 0) (.slice none 0 0) (.bool false) (.int .i64 4) (.slice (some ⟨a5, 0, none⟩) 4 4)
  have hW2 : L2 w ((((((((((V.setCell ⟨a7, 0, none⟩ (.string ⟨#[112, 111, 114, 116]⟩)).setCell ⟨a7, 1, none⟩ (.int .i64 3)).setCell ⟨a7, 2, none⟩ (.int .i64 0)).setCell ⟨a7, 3, none⟩ (.int .u64 0)).setCell ⟨a7, 4, none⟩ (.int .u64 0)).setCell ⟨a7, 5, none⟩ (.slice none 0 0)).setCell ⟨a7, 6, none⟩ (.bool false)).setCell ⟨a7, 7, none⟩ (.int .i64 4)).setCell ⟨a7, 8, none⟩ (.slice (some ⟨a5, 0, none⟩) 4 4))) gC gU a5 a7 := ⟨hHeld.1, hHeld.2.1, hHeld.2.2.1, hHeld.2.2.2.1, (blk_far (blk_far (blk_far (blk_far (blk_far (blk_far (blk_far (blk_far (blk_far h5.1 hn5 _) hn5 _) hn5 _) hn5 _) hn5 _) hn5 _) hn5 _) hn5 _) hn5 _), b9⟩
  replace hW2 := L2.drew hW2
  generalize (((((((((V.setCell ⟨a7, 0, none⟩ (.string ⟨#[112, 111, 114, 116]⟩)).setCell ⟨a7, 1, none⟩ (.int .i64 3)).setCell ⟨a7, 2, none⟩ (.int .i64 0)).setCell ⟨a7, 3, none⟩ (.int .u64 0)).setCell ⟨a7, 4, none⟩ (.int .u64 0)).setCell ⟨a7, 5, none⟩ (.slice none 0 0)).setCell ⟨a7, 6, none⟩ (.bool false)).setCell ⟨a7, 7, none⟩ (.int .i64 4)).setCell ⟨a7, 8, none⟩ (.slice (some ⟨a5, 0, none⟩) 4 4)) = V2 at hW2 ⊢
  have hl5 := h5.2
  have hlP : w.heap.size < a5 := by
    rcases Nat.lt_or_ge w.heap.size a5 with h | h
    · exact h
    · exact absurd (Nat.le_antisymm hl5 h) (blk_apart (a := ⟨#[]⟩) (b := ⟨#[117, 112]⟩) hW2.2.1 hW2.2.2.2.2.1 rfl rfl (by decide))
  clear h3 h5 h7 hHeld hW hn5
  generalize a5 = gP at *
  generalize a7 = gp at *
  go_wp2_with (fail)
  refine start_ (n := 5) (S := fun w' => L2 w w' gC gU gP gp) (ds := [4]) #[false, false, false, false, false] (by kernel_rfl) rfl rfl (hW2) (fun hHeld => ?_)
  refine take_ (i := 1) (N := some 36) (v := ?_) (a' := ?_) #[false, true, false, false, false] rfl rfl (by kernel_rfl) (fun _ _ _ h => h) (Or.inl ⟨by rfl, ?_⟩) hHeld ?_ ?_
  rotate_left
  · intro w' s0
    obtain ⟨_, _, _, _, _, sp⟩ := s0
    unfold PB at sp
    have c0 := blk_cell sp 0
    have c1 := blk_cell sp 1
    have c2 := blk_cell sp 2
    have c3 := blk_cell sp 3
    have c4 := blk_cell sp 4
    have c5 := blk_cell sp 5
    have c6 := blk_cell sp 6
    have c7 := blk_cell sp 7
    have c8 := blk_cell sp 8
    go_simp
    with_reducible rfl
  rotate_left
  · simp only [Act.put, List.setIfInBounds_toArray, List.set_cons_zero, List.set_cons_succ, i64_w, i32_w]
    rfl
  refine one_ (i := 0) (N := some 35) #[true, true, false, false, false] rfl rfl (by kernel_rfl) (by decide) (fun K hK => ?_)
  refine goes_ Tryd.func55 (by kernel_rfl) rfl #[.string ⟨#[115, 121, 115, 116, 101, 109]⟩, .int .i64 5, .slice none 0 0] (by rfl) rfl rfl (by simp only [List.map_toArray, List.map_cons, List.map_nil]; rfl) ?_
  with_reducible refine (leaf0_calls _ _ _).mono ?_
  rintro e V3 ⟨rfl, hb⟩
  refine ⟨_, rfl, ?_⟩
  refine hK.out _ _ (L2.below hHeld hb) (fun hHeld => ?_)
  clear hK K
  refine norm_ (a' := ?_) ?_ ?_
  rotate_left
  · show Act.put _ (some 35) _ = _
    simp only [Act.put, List.setIfInBounds_toArray, List.set_cons_zero, List.set_cons_succ, i64_w, i32_w]
    rfl
  refine one_ (i := 2) (N := some 37) #[true, true, true, false, false] rfl rfl (by kernel_rfl) (by decide) (fun K hK => ?_)
  have hge := L2.lt hHeld
  refine value_ (w1 := ?_) (v := ?_) (by rfl) rfl ?_ ?_
  rotate_left 2
  · go_simp
    constructor
    · rfl
    · rfl
  refine hK.out _ _ (L2.alloc hHeld _) (fun hHeld => ?_)
  clear hK K
  refine norm_ (a' := ?_) ?_ ?_
  rotate_left
  · show Act.put _ (some 37) _ = _
    simp only [Act.put, List.setIfInBounds_toArray, List.set_cons_zero, List.set_cons_succ, i64_w, i32_w]
    rfl
  refine pure_ (i := 3) (N := some 38) (v := ?_) (a' := ?_) #[true, true, true, true, false] rfl rfl (by kernel_rfl) (fun _ _ _ h => h) (Or.inl ⟨by rfl, ?_⟩) ?_ ?_
  rotate_left
  · intro w'
    go_simp
    with_reducible rfl
  rotate_left
  · simp only [Act.put, List.setIfInBounds_toArray, List.set_cons_zero, List.set_cons_succ, i64_w, i32_w]
    rfl
  refine last_ (i := 4) (N := none) #[true, true, true, true, true] rfl rfl (by kernel_rfl) (by decide) (fun K hK => ?_)
  have hR5 : (V3.alloc (.cells #[.string ⟨#[115, 121, 115, 116, 101, 109]⟩, .int .i64 1, .int .i64 5, .int .u64 0, .int .u64 0, .slice none 0 0, .bool false, .int .i64 0, .slice none 0 0, .string ⟨#[112, 111, 114, 116]⟩, .int .i64 3, .int .i64 0, .int .u64 0, .int .u64 0, .slice none 0 0, .bool false, .int .i64 4, .slice (some ⟨gP, 0, none⟩) 4 4] 34)).heap[V3.heap.size]? = some (.cells #[.string ⟨#[115, 121, 115, 116, 101, 109]⟩, .int .i64 1, .int .i64 5, .int .u64 0, .int .u64 0, .slice none 0 0, .bool false, .int .i64 0, .slice none 0 0, .string ⟨#[112, 111, 114, 116]⟩, .int .i64 3, .int .i64 0, .int .u64 0, .int .u64 0, .slice none 0 0, .bool false, .int .i64 4, .slice (some ⟨gP, 0, none⟩) 4 4] 34 (0, 0)) := blk_new _ _
  generalize V3.alloc (Obj.cells #[.string ⟨#[115, 121, 115, 116, 101, 109]⟩, .int .i64 1, .int .i64 5, .int .u64 0, .int .u64 0, .slice none 0 0, .bool false, .int .i64 0, .slice none 0 0, .string ⟨#[112, 111, 114, 116]⟩, .int .i64 3, .int .i64 0, .int .u64 0, .int .u64 0, .slice none 0 0, .bool false, .int .i64 4, .slice (some ⟨gP, 0, none⟩) 4 4] 34) = V4 at *
  generalize V3.heap.size = gR at *
  have hz5 := hHeld.2.1
  unfold ZB Blk at hz5
  have kc0 : (V4).cell? ⟨w.heap.size, 0, none⟩ = some (.string ⟨#[]⟩) := (blk_cell hz5 0).trans rfl
  have kf0 := blk_frozen hz5 0
  have kb0 : ((V4).setCell ⟨w.heap.size, 0, none⟩ (.string ⟨#[]⟩)).heap[w.heap.size]? = some (.cells #[.string ⟨#[]⟩, .int .i64 0, .int .i64 0, .int .u64 0, .int .u64 0, .slice none 0 0, .bool false, .int .i64 0, .slice none 0 0] 34 (0, 0)) := blk_set_ hz5 _ rfl
  have kc1 : ((V4).setCell ⟨w.heap.size, 0, none⟩ (.string ⟨#[]⟩)).cell? ⟨w.heap.size, 1, none⟩ = some (.int .i64 0) := (blk_cell kb0 1).trans rfl
  have kf1 := blk_frozen kb0 1
  have kb1 : (((V4).setCell ⟨w.heap.size, 0, none⟩ (.string ⟨#[]⟩)).setCell ⟨w.heap.size, 1, none⟩ (.int .i64 2)).heap[w.heap.size]? = some (.cells #[.string ⟨#[]⟩, .int .i64 2, .int .i64 0, .int .u64 0, .int .u64 0, .slice none 0 0, .bool false, .int .i64 0, .slice none 0 0] 34 (0, 0)) := blk_set_ kb0 _ rfl
  have kc2 : (((V4).setCell ⟨w.heap.size, 0, none⟩ (.string ⟨#[]⟩)).setCell ⟨w.heap.size, 1, none⟩ (.int .i64 2)).cell? ⟨w.heap.size, 2, none⟩ = some (.int .i64 0) := (blk_cell kb1 2).trans rfl
  have kf2 := blk_frozen kb1 2
  have kb2 : ((((V4).setCell ⟨w.heap.size, 0, none⟩ (.string ⟨#[]⟩)).setCell ⟨w.heap.size, 1, none⟩ (.int .i64 2)).setCell ⟨w.heap.size, 2, none⟩ (.int .i64 0)).heap[w.heap.size]? = some (.cells #[.string ⟨#[]⟩, .int .i64 2, .int .i64 0, .int .u64 0, .int .u64 0, .slice none 0 0, .bool false, .int .i64 0, .slice none 0 0] 34 (0, 0)) := blk_set_ kb1 _ rfl
  have kc3 : ((((V4).setCell ⟨w.heap.size, 0, none⟩ (.string ⟨#[]⟩)).setCell ⟨w.heap.size, 1, none⟩ (.int .i64 2)).setCell ⟨w.heap.size, 2, none⟩ (.int .i64 0)).cell? ⟨w.heap.size, 3, none⟩ = some (.int .u64 0) := (blk_cell kb2 3).trans rfl
  have kf3 := blk_frozen kb2 3
  have kb3 : (((((V4).setCell ⟨w.heap.size, 0, none⟩ (.string ⟨#[]⟩)).setCell ⟨w.heap.size, 1, none⟩ (.int .i64 2)).setCell ⟨w.heap.size, 2, none⟩ (.int .i64 0)).setCell ⟨w.heap.size, 3, none⟩ (.int .u64 0)).heap[w.heap.size]? = some (.cells #[.string ⟨#[]⟩, .int .i64 2, .int .i64 0, .int .u64 0, .int .u64 0, .slice none 0 0, .bool false, .int .i64 0, .slice none 0 0] 34 (0, 0)) := blk_set_ kb2 _ rfl
  have kc4 : (((((V4).setCell ⟨w.heap.size, 0, none⟩ (.string ⟨#[]⟩)).setCell ⟨w.heap.size, 1, none⟩ (.int .i64 2)).setCell ⟨w.heap.size, 2, none⟩ (.int .i64 0)).setCell ⟨w.heap.size, 3, none⟩ (.int .u64 0)).cell? ⟨w.heap.size, 4, none⟩ = some (.int .u64 0) := (blk_cell kb3 4).trans rfl
  have kf4 := blk_frozen kb3 4
  have kb4 : ((((((V4).setCell ⟨w.heap.size, 0, none⟩ (.string ⟨#[]⟩)).setCell ⟨w.heap.size, 1, none⟩ (.int .i64 2)).setCell ⟨w.heap.size, 2, none⟩ (.int .i64 0)).setCell ⟨w.heap.size, 3, none⟩ (.int .u64 0)).setCell ⟨w.heap.size, 4, none⟩ (.int .u64 0)).heap[w.heap.size]? = some (.cells #[.string ⟨#[]⟩, .int .i64 2, .int .i64 0, .int .u64 0, .int .u64 0, .slice none 0 0, .bool false, .int .i64 0, .slice none 0 0] 34 (0, 0)) := blk_set_ kb3 _ rfl
  have kc5 : ((((((V4).setCell ⟨w.heap.size, 0, none⟩ (.string ⟨#[]⟩)).setCell ⟨w.heap.size, 1, none⟩ (.int .i64 2)).setCell ⟨w.heap.size, 2, none⟩ (.int .i64 0)).setCell ⟨w.heap.size, 3, none⟩ (.int .u64 0)).setCell ⟨w.heap.size, 4, none⟩ (.int .u64 0)).cell? ⟨w.heap.size, 5, none⟩ = some (.slice none 0 0) := (blk_cell kb4 5).trans rfl
  have kf5 := blk_frozen kb4 5
  have kb5 : (((((((V4).setCell ⟨w.heap.size, 0, none⟩ (.string ⟨#[]⟩)).setCell ⟨w.heap.size, 1, none⟩ (.int .i64 2)).setCell ⟨w.heap.size, 2, none⟩ (.int .i64 0)).setCell ⟨w.heap.size, 3, none⟩ (.int .u64 0)).setCell ⟨w.heap.size, 4, none⟩ (.int .u64 0)).setCell ⟨w.heap.size, 5, none⟩ (.slice none 0 0)).heap[w.heap.size]? = some (.cells #[.string ⟨#[]⟩, .int .i64 2, .int .i64 0, .int .u64 0, .int .u64 0, .slice none 0 0, .bool false, .int .i64 0, .slice none 0 0] 34 (0, 0)) := blk_set_ kb4 _ rfl
  have kc6 : (((((((V4).setCell ⟨w.heap.size, 0, none⟩ (.string ⟨#[]⟩)).setCell ⟨w.heap.size, 1, none⟩ (.int .i64 2)).setCell ⟨w.heap.size, 2, none⟩ (.int .i64 0)).setCell ⟨w.heap.size, 3, none⟩ (.int .u64 0)).setCell ⟨w.heap.size, 4, none⟩ (.int .u64 0)).setCell ⟨w.heap.size, 5, none⟩ (.slice none 0 0)).cell? ⟨w.heap.size, 6, none⟩ = some (.bool false) := (blk_cell kb5 6).trans rfl
  have kf6 := blk_frozen kb5 6
  have kb6 : ((((((((V4).setCell ⟨w.heap.size, 0, none⟩ (.string ⟨#[]⟩)).setCell ⟨w.heap.size, 1, none⟩ (.int .i64 2)).setCell ⟨w.heap.size, 2, none⟩ (.int .i64 0)).setCell ⟨w.heap.size, 3, none⟩ (.int .u64 0)).setCell ⟨w.heap.size, 4, none⟩ (.int .u64 0)).setCell ⟨w.heap.size, 5, none⟩ (.slice none 0 0)).setCell ⟨w.heap.size, 6, none⟩ (.bool false)).heap[w.heap.size]? = some (.cells #[.string ⟨#[]⟩, .int .i64 2, .int .i64 0, .int .u64 0, .int .u64 0, .slice none 0 0, .bool false, .int .i64 0, .slice none 0 0] 34 (0, 0)) := blk_set_ kb5 _ rfl
  have kc7 : ((((((((V4).setCell ⟨w.heap.size, 0, none⟩ (.string ⟨#[]⟩)).setCell ⟨w.heap.size, 1, none⟩ (.int .i64 2)).setCell ⟨w.heap.size, 2, none⟩ (.int .i64 0)).setCell ⟨w.heap.size, 3, none⟩ (.int .u64 0)).setCell ⟨w.heap.size, 4, none⟩ (.int .u64 0)).setCell ⟨w.heap.size, 5, none⟩ (.slice none 0 0)).setCell ⟨w.heap.size, 6, none⟩ (.bool false)).cell? ⟨w.heap.size, 7, none⟩ = some (.int .i64 0) := (blk_cell kb6 7).trans rfl
  have kf7 := blk_frozen kb6 7
  have kb7 : (((((((((V4).setCell ⟨w.heap.size, 0, none⟩ (.string ⟨#[]⟩)).setCell ⟨w.heap.size, 1, none⟩ (.int .i64 2)).setCell ⟨w.heap.size, 2, none⟩ (.int .i64 0)).setCell ⟨w.heap.size, 3, none⟩ (.int .u64 0)).setCell ⟨w.heap.size, 4, none⟩ (.int .u64 0)).setCell ⟨w.heap.size, 5, none⟩ (.slice none 0 0)).setCell ⟨w.heap.size, 6, none⟩ (.bool false)).setCell ⟨w.heap.size, 7, none⟩ (.int .i64 0)).heap[w.heap.size]? = some (.cells #[.string ⟨#[]⟩, .int .i64 2, .int .i64 0, .int .u64 0, .int .u64 0, .slice none 0 0, .bool false, .int .i64 0, .slice none 0 0] 34 (0, 0)) := blk_set_ kb6 _ rfl
  have kc8 : (((((((((V4).setCell ⟨w.heap.size, 0, none⟩ (.string ⟨#[]⟩)).setCell ⟨w.heap.size, 1, none⟩ (.int .i64 2)).setCell ⟨w.heap.size, 2, none⟩ (.int .i64 0)).setCell ⟨w.heap.size, 3, none⟩ (.int .u64 0)).setCell ⟨w.heap.size, 4, none⟩ (.int .u64 0)).setCell ⟨w.heap.size, 5, none⟩ (.slice none 0 0)).setCell ⟨w.heap.size, 6, none⟩ (.bool false)).setCell ⟨w.heap.size, 7, none⟩ (.int .i64 0)).cell? ⟨w.heap.size, 8, none⟩ = some (.slice none 0 0) := (blk_cell kb7 8).trans rfl
  have kf8 := blk_frozen kb7 8
  have kb8 : ((((((((((V4).setCell ⟨w.heap.size, 0, none⟩ (.string ⟨#[]⟩)).setCell ⟨w.heap.size, 1, none⟩ (.int .i64 2)).setCell ⟨w.heap.size, 2, none⟩ (.int .i64 0)).setCell ⟨w.heap.size, 3, none⟩ (.int .u64 0)).setCell ⟨w.heap.size, 4, none⟩ (.int .u64 0)).setCell ⟨w.heap.size, 5, none⟩ (.slice none 0 0)).setCell ⟨w.heap.size, 6, none⟩ (.bool false)).setCell ⟨w.heap.size, 7, none⟩ (.int .i64 0)).setCell ⟨w.heap.size, 8, none⟩ (.slice (some ⟨gR, 0, none⟩) 2 2)).heap[w.heap.size]? = some (.cells #[.string ⟨#[]⟩, .int .i64 2, .int .i64 0, .int .u64 0, .int .u64 0, .slice none 0 0, .bool false, .int .i64 0, .slice (some ⟨gR, 0, none⟩) 2 2] 34 (0, 0)) := blk_set_ kb7 _ rfl
  refine skip_ (w1 := ?_) (by rfl) rfl ?_ ?_
  rotate_left
  · go_simp
    rfl
  refine hK.out _ _ ?_
  clear hK K
  refine done_ (by kernel_rfl) ?_
  first | go_end0 | ((try simp only [Exit.inBlock, Exit.then]); try go_wp2; refine bodyPost_ret (results_cell_row rfl _ _ w.heap.size 34 #[.string ⟨#[]⟩, .int .i64 2, .int .i64 0, .int .u64 0, .int .u64 0, .slice none 0 0, .bool false, .int .i64 0, .slice (some ⟨gR, 0, none⟩) 2 2] (0, 0) _ rfl kb8 Tryd.underlying34 rfl (by kernel_rfl)) rfl ?_)
  exact ⟨⟨gR, gP, gC, gU, rfl, (blk_far (blk_far (blk_far (blk_far (blk_far (blk_far (blk_far (blk_far (blk_far hR5 (Nat.ne_of_gt hge) _) (Nat.ne_of_gt hge) _) (Nat.ne_of_gt hge) _) (Nat.ne_of_gt hge) _) (Nat.ne_of_gt hge) _) (Nat.ne_of_gt hge) _) (Nat.ne_of_gt hge) _) (Nat.ne_of_gt hge) _) (Nat.ne_of_gt hge) _), (blk_far (blk_far (blk_far (blk_far (blk_far (blk_far (blk_far (blk_far (blk_far hHeld.2.2.2.2.1 (Nat.ne_of_gt hlP) _) (Nat.ne_of_gt hlP) _) (Nat.ne_of_gt hlP) _) (Nat.ne_of_gt hlP) _) (Nat.ne_of_gt hlP) _) (Nat.ne_of_gt hlP) _) (Nat.ne_of_gt hlP) _) (Nat.ne_of_gt hlP) _) (Nat.ne_of_gt hlP) _), (blk_far (blk_far (blk_far (blk_far (blk_far (blk_far (blk_far (blk_far (blk_far hHeld.2.2.1 (Nat.ne_of_gt hlC) _) (Nat.ne_of_gt hlC) _) (Nat.ne_of_gt hlC) _) (Nat.ne_of_gt hlC) _) (Nat.ne_of_gt hlC) _) (Nat.ne_of_gt hlC) _) (Nat.ne_of_gt hlC) _) (Nat.ne_of_gt hlC) _) (Nat.ne_of_gt hlC) _), (blk_far (blk_far (blk_far (blk_far (blk_far (blk_far (blk_far (blk_far (blk_far hHeld.2.2.2.1 (Nat.ne_of_gt hlU) _) (Nat.ne_of_gt hlU) _) (Nat.ne_of_gt hlU) _) (Nat.ne_of_gt hlU) _) (Nat.ne_of_gt hlU) _) (Nat.ne_of_gt hlU) _) (Nat.ne_of_gt hlU) _) (Nat.ne_of_gt hlU) _) (Nat.ne_of_gt hlU) _), Nat.le_of_lt hge, hl5, Nat.le_of_lt hlC, Nat.le_of_lt hlU⟩, (below_set (below_set (below_set (below_set (below_set (below_set (below_set (below_set (below_set hHeld.1 (Nat.le_refl _)) (Nat.le_refl _)) (Nat.le_refl _)) (Nat.le_refl _)) (Nat.le_refl _)) (Nat.le_refl _)) (Nat.le_refl _)) (Nat.le_refl _)) (Nat.le_refl _))⟩
end Go.Proofs.YtbbkchclefkikaaDoor.Spec
