import Derived.Test.YthmohmmbhjpbcaaGreatDoorEvKnownTwo
set_option linter.unusedVariables false
set_option linter.unusedSimpArgs false
set_option maxHeartbeats 1000000
namespace Go.Proofs.YthmohmmbhjpbcaaGreatDoor.Ev.Seat
open Go Ev Go.Proofs
def p_r08_Take_6 : Piece T (ByteArray × Int × Bool × ByteArray × Int × Int × Int × Int × (List ByteArray) × Bool × Int × (List Tollbarref07S) × Int × Int × ByteArray × Int × Int × ByteArray) (ByteArray × ByteArray × Int × Int × Int × Int × (List ByteArray) × Bool × Int × (List Tollbarref07S) × Int × Int × ByteArray × Int × Int × ByteArray) where
 dcS env H ds := match env 1, env 2, env 4, env 6, env 7, env 27, H, ds with
  | .v (.s a0), .ptr 0 0, .ptr 1 0, .ptr 2 0, .v (.i .u64 a1), .v (.b a2), [.cells 34 none [.v (.s a3), .v (.i .i64 a4), .v (.i .i64 a5), .v (.i .u64 a6), .v (.i .u64 a7), .v (.sl 9 a8), .v (.b a9), .v (.i .i64 a10), .v (.sl 34 a11)], .cells 27 none [.v (.i .i64 a12), .v (.i .u64 a13), .v (.s a14)], .cells 27 none [.v (.i .i64 a15), .v (.i .u64 a16), .v (.s a17)]], [] => some (a0, a1, a2, a3, a4, a5, a6, a7, a8, a9, a10, a11, a12, a13, a14, a15, a16, a17)
  | _, _, _, _, _, _, _, _ => none
 slS := fun (a0, a1, a2, _) => [(1, .v (.s a0)), (2, .ptr 0 0), (4, .ptr 1 0), (6, .ptr 2 0), (7, .v (.i .u64 a1)), (27, .v (.b a2))]
 obS := fun (_, _, _, a3, a4, a5, a6, a7, a8, a9, a10, a11, a12, a13, a14, a15, a16, a17) => [.cells 34 none [.v (.s a3), .v (.i .i64 a4), .v (.i .i64 a5), .v (.i .u64 a6), .v (.i .u64 a7), .v (.sl 9 a8), .v (.b a9), .v (.i .i64 a10), .v (.sl 34 a11)], .cells 27 none [.v (.i .i64 a12), .v (.i .u64 a13), .v (.s a14)], .cells 27 none [.v (.i .i64 a15), .v (.i .u64 a16), .v (.s a17)]]
 dsS := fun _ => []
 dcE x env H ds := match x, env 1, env 2, env 4, env 6, H, ds with
  | .normal, .v (.s a0), .ptr 0 0, .ptr 1 0, .ptr 2 0, [.cells 34 none [.v (.s a1), .v (.i .i64 a2), .v (.i .i64 a3), .v (.i .u64 a4), .v (.i .u64 a5), .v (.sl 9 a6), .v (.b a7), .v (.i .i64 a8), .v (.sl 34 a9)], .cells 27 none [.v (.i .i64 a10), .v (.i .u64 a11), .v (.s a12)], .cells 27 none [.v (.i .i64 a13), .v (.i .u64 a14), .v (.s a15)]], [] => some (a0, a1, a2, a3, a4, a5, a6, a7, a8, a9, a10, a11, a12, a13, a14, a15)
  | _, _, _, _, _, _, _ => none
 exE := fun _ => .normal
 slE := fun (a0, _) => [(1, .v (.s a0)), (2, .ptr 0 0), (4, .ptr 1 0), (6, .ptr 2 0)]
 obE := fun (_, a1, a2, a3, a4, a5, a6, a7, a8, a9, a10, a11, a12, a13, a14, a15) => [.cells 34 none [.v (.s a1), .v (.i .i64 a2), .v (.i .i64 a3), .v (.i .u64 a4), .v (.i .u64 a5), .v (.sl 9 a6), .v (.b a7), .v (.i .i64 a8), .v (.sl 34 a9)], .cells 27 none [.v (.i .i64 a10), .v (.i .u64 a11), .v (.s a12)], .cells 27 none [.v (.i .i64 a13), .v (.i .u64 a14), .v (.s a15)]]
 dsE := fun _ => []
 goE := fun _ (a0, a1, a2, a3, a4, a5, a6, a7, a8, a9, a10, a11, a12, a13, a14, a15) k => k .normal [(1, .v (.s a0)), (2, .ptr 0 0), (4, .ptr 1 0), (6, .ptr 2 0)] [.cells 34 none [.v (.s a1), .v (.i .i64 a2), .v (.i .i64 a3), .v (.i .u64 a4), .v (.i .u64 a5), .v (.sl 9 a6), .v (.b a7), .v (.i .i64 a8), .v (.sl 34 a9)], .cells 27 none [.v (.i .i64 a10), .v (.i .u64 a11), .v (.s a12)], .cells 27 none [.v (.i .i64 a13), .v (.i .u64 a14), .v (.s a15)]] []
theorem p_r08_Take_6_ok : PieceOk p_r08_Take_6 := by
 refine ⟨fun env H ds s h => ?_, fun x env H ds e h => ?_, fun R e k => by kernel_rfl⟩ <;> (simp only [p_r08_Take_6] at h ⊢; split at h <;> first | (cases h; simp only [List.forall_mem_cons]; simp_all; done) | (cases h; done))
theorem p_r08_Take_6_ct (κ : Nat) (m : Int) : CutOk Tryz.prog C (G m) Tryz.f18.ntmps 0 (pieceOf (.cnd 27 11) (getBody Tryz.f18)) (p_r08_Take_6.cut (gcN 0 [1, 2, 4, 6, 7, 27]) (fun (a0, a1, a2, a3, a4, a5, a6, a7, a8, a9, a10, a11, a12, a13, a14, a15, a16, a17) => r08_Take.v6 κ a0 a1 a2 a3 a4 a5 a6 a7 a8 a9 a10 a11 a12 a13 a14 a15 a16 a17)) :=
 Piece.join p_r08_Take_6_ok C_ok mixed (gam74_ok κ m) gcN_ok (xN_ok gcN_ok (ex_cons gcN_ok (ex_nil)) gcN_ok gcN_ok) (cut := (ct_r08_Take_8 κ)) (X := (xN (gcN 0 [1, 2, 4, 6]) [(0, (gcN 0 [1, 2, 4, 6]))] (gcN 0 [4, 5]) (gcN 0 [1000000]))) (cuts_by (l := [(pieceOf (.cnd 34 12) (getBody Tryz.f18), cc_r08_Take_8 κ)]) (by kernel_rfl) (all_cons (cc_r08_Take_8_ok κ m) (all_nil))) (fun s => by kernel_rfl)
def cc_r08_Take_9 (κ : Nat) : Cut T := p_r08_Take_6.cut (gcN 0 [1, 2, 4, 6, 7, 27]) (fun (a0, a1, a2, a3, a4, a5, a6, a7, a8, a9, a10, a11, a12, a13, a14, a15, a16, a17) => r08_Take.v6 κ a0 a1 a2 a3 a4 a5 a6 a7 a8 a9 a10 a11 a12 a13 a14 a15 a16 a17)
theorem cc_r08_Take_9_ok (κ : Nat) (m : Int) : CutOk Tryz.prog C (G m) Tryz.f18.ntmps 0 (pieceOf (.cnd 27 11) (getBody Tryz.f18)) (cc_r08_Take_9 κ) := p_r08_Take_6_ct κ m
def ct_r08_Take_9 (κ : Nat) : Key → Option (Cut T) := addCut (ct_r08_Take_4 κ) (.cnd 27 11) (cc_r08_Take_9 κ)
def p_r08_Take_5 : Piece T (ByteArray × Int × Int × Bool × ByteArray × Int × Int × Int × Int × (List ByteArray) × Bool × Int × (List Tollbarref07S) × Int × Int × ByteArray × Int × Int × ByteArray) (ByteArray × ByteArray × Int × Int × Int × Int × (List ByteArray) × Bool × Int × (List Tollbarref07S) × Int × Int × ByteArray × Int × Int × ByteArray) where
 dcS env H ds := match env 1, env 2, env 4, env 6, env 7, env 18, env 21, H, ds with
  | .v (.s a0), .ptr 0 0, .ptr 1 0, .ptr 2 0, .v (.i .u64 a1), .v (.i .i64 a2), .v (.b a3), [.cells 34 none [.v (.s a4), .v (.i .i64 a5), .v (.i .i64 a6), .v (.i .u64 a7), .v (.i .u64 a8), .v (.sl 9 a9), .v (.b a10), .v (.i .i64 a11), .v (.sl 34 a12)], .cells 27 none [.v (.i .i64 a13), .v (.i .u64 a14), .v (.s a15)], .cells 27 none [.v (.i .i64 a16), .v (.i .u64 a17), .v (.s a18)]], [] => some (a0, a1, a2, a3, a4, a5, a6, a7, a8, a9, a10, a11, a12, a13, a14, a15, a16, a17, a18)
  | _, _, _, _, _, _, _, _, _ => none
 slS := fun (a0, a1, a2, a3, _) => [(1, .v (.s a0)), (2, .ptr 0 0), (4, .ptr 1 0), (6, .ptr 2 0), (7, .v (.i .u64 a1)), (18, .v (.i .i64 a2)), (21, .v (.b a3))]
 obS := fun (_, _, _, _, a4, a5, a6, a7, a8, a9, a10, a11, a12, a13, a14, a15, a16, a17, a18) => [.cells 34 none [.v (.s a4), .v (.i .i64 a5), .v (.i .i64 a6), .v (.i .u64 a7), .v (.i .u64 a8), .v (.sl 9 a9), .v (.b a10), .v (.i .i64 a11), .v (.sl 34 a12)], .cells 27 none [.v (.i .i64 a13), .v (.i .u64 a14), .v (.s a15)], .cells 27 none [.v (.i .i64 a16), .v (.i .u64 a17), .v (.s a18)]]
 dsS := fun _ => []
 dcE x env H ds := match x, env 1, env 2, env 4, env 6, H, ds with
  | .normal, .v (.s a0), .ptr 0 0, .ptr 1 0, .ptr 2 0, [.cells 34 none [.v (.s a1), .v (.i .i64 a2), .v (.i .i64 a3), .v (.i .u64 a4), .v (.i .u64 a5), .v (.sl 9 a6), .v (.b a7), .v (.i .i64 a8), .v (.sl 34 a9)], .cells 27 none [.v (.i .i64 a10), .v (.i .u64 a11), .v (.s a12)], .cells 27 none [.v (.i .i64 a13), .v (.i .u64 a14), .v (.s a15)]], [] => some (a0, a1, a2, a3, a4, a5, a6, a7, a8, a9, a10, a11, a12, a13, a14, a15)
  | _, _, _, _, _, _, _ => none
 exE := fun _ => .normal
 slE := fun (a0, _) => [(1, .v (.s a0)), (2, .ptr 0 0), (4, .ptr 1 0), (6, .ptr 2 0)]
 obE := fun (_, a1, a2, a3, a4, a5, a6, a7, a8, a9, a10, a11, a12, a13, a14, a15) => [.cells 34 none [.v (.s a1), .v (.i .i64 a2), .v (.i .i64 a3), .v (.i .u64 a4), .v (.i .u64 a5), .v (.sl 9 a6), .v (.b a7), .v (.i .i64 a8), .v (.sl 34 a9)], .cells 27 none [.v (.i .i64 a10), .v (.i .u64 a11), .v (.s a12)], .cells 27 none [.v (.i .i64 a13), .v (.i .u64 a14), .v (.s a15)]]
 dsE := fun _ => []
 goE := fun _ (a0, a1, a2, a3, a4, a5, a6, a7, a8, a9, a10, a11, a12, a13, a14, a15) k => k .normal [(1, .v (.s a0)), (2, .ptr 0 0), (4, .ptr 1 0), (6, .ptr 2 0)] [.cells 34 none [.v (.s a1), .v (.i .i64 a2), .v (.i .i64 a3), .v (.i .u64 a4), .v (.i .u64 a5), .v (.sl 9 a6), .v (.b a7), .v (.i .i64 a8), .v (.sl 34 a9)], .cells 27 none [.v (.i .i64 a10), .v (.i .u64 a11), .v (.s a12)], .cells 27 none [.v (.i .i64 a13), .v (.i .u64 a14), .v (.s a15)]] []
theorem p_r08_Take_5_ok : PieceOk p_r08_Take_5 := by
 refine ⟨fun env H ds s h => ?_, fun x env H ds e h => ?_, fun R e k => by kernel_rfl⟩ <;> (simp only [p_r08_Take_5] at h ⊢; split at h <;> first | (cases h; simp only [List.forall_mem_cons]; simp_all; done) | (cases h; done))
theorem p_r08_Take_5_ct (κ : Nat) (m : Int) : CutOk Tryz.prog C (G m) Tryz.f18.ntmps 0 (pieceOf (.cnd 21 9) (getBody Tryz.f18)) (p_r08_Take_5.cut (gcN 0 [1, 2, 4, 6, 7, 18, 21]) (fun (a0, a1, a2, a3, a4, a5, a6, a7, a8, a9, a10, a11, a12, a13, a14, a15, a16, a17, a18) => r08_Take.v5 κ a0 a1 a2 a3 a4 a5 a6 a7 a8 a9 a10 a11 a12 a13 a14 a15 a16 a17 a18)) :=
 Piece.join p_r08_Take_5_ok C_ok mixed (gam74_ok κ m) gcN_ok (xN_ok gcN_ok (ex_cons gcN_ok (ex_nil)) gcN_ok gcN_ok) (cut := (ct_r08_Take_9 κ)) (X := (xN (gcN 0 [1, 2, 4, 6]) [(0, (gcN 0 [1, 2, 4, 6]))] (gcN 0 [4, 5]) (gcN 0 [1000000]))) (cuts_by (l := [(pieceOf (.cnd 27 11) (getBody Tryz.f18), cc_r08_Take_9 κ)]) (by kernel_rfl) (all_cons (cc_r08_Take_9_ok κ m) (all_nil))) (fun s => by kernel_rfl)
def cc_r08_Take_10 (κ : Nat) : Cut T := p_r08_Take_5.cut (gcN 0 [1, 2, 4, 6, 7, 18, 21]) (fun (a0, a1, a2, a3, a4, a5, a6, a7, a8, a9, a10, a11, a12, a13, a14, a15, a16, a17, a18) => r08_Take.v5 κ a0 a1 a2 a3 a4 a5 a6 a7 a8 a9 a10 a11 a12 a13 a14 a15 a16 a17 a18)
theorem cc_r08_Take_10_ok (κ : Nat) (m : Int) : CutOk Tryz.prog C (G m) Tryz.f18.ntmps 0 (pieceOf (.cnd 21 9) (getBody Tryz.f18)) (cc_r08_Take_10 κ) := p_r08_Take_5_ct κ m
def ct_r08_Take_10 (κ : Nat) : Key → Option (Cut T) := addCut (ct_r08_Take_4 κ) (.cnd 21 9) (cc_r08_Take_10 κ)
def p_r08_Take_0 : Piece T (ByteArray × Int × Int × ByteArray × Int × Int × Int × Int × (List ByteArray) × Bool × Int × (List Tollbarref07S) × Int × Int × ByteArray × Int × Int × ByteArray) (ByteArray × ByteArray × Int × Int × Int × Int × (List ByteArray) × Bool × Int × (List Tollbarref07S) × Int × Int × ByteArray × Int × Int × ByteArray) where
 dcS env H ds := match env 1, env 2, env 4, env 6, env 7, env 18, H, ds with
  | .v (.s a0), .ptr 0 0, .ptr 1 0, .ptr 2 0, .v (.i .u64 a1), .v (.i .i64 a2), [.cells 34 none [.v (.s a3), .v (.i .i64 a4), .v (.i .i64 a5), .v (.i .u64 a6), .v (.i .u64 a7), .v (.sl 9 a8), .v (.b a9), .v (.i .i64 a10), .v (.sl 34 a11)], .cells 27 none [.v (.i .i64 a12), .v (.i .u64 a13), .v (.s a14)], .cells 27 none [.v (.i .i64 a15), .v (.i .u64 a16), .v (.s a17)]], [] => some (a0, a1, a2, a3, a4, a5, a6, a7, a8, a9, a10, a11, a12, a13, a14, a15, a16, a17)
  | _, _, _, _, _, _, _, _ => none
 slS := fun (a0, a1, a2, _) => [(1, .v (.s a0)), (2, .ptr 0 0), (4, .ptr 1 0), (6, .ptr 2 0), (7, .v (.i .u64 a1)), (18, .v (.i .i64 a2))]
 obS := fun (_, _, _, a3, a4, a5, a6, a7, a8, a9, a10, a11, a12, a13, a14, a15, a16, a17) => [.cells 34 none [.v (.s a3), .v (.i .i64 a4), .v (.i .i64 a5), .v (.i .u64 a6), .v (.i .u64 a7), .v (.sl 9 a8), .v (.b a9), .v (.i .i64 a10), .v (.sl 34 a11)], .cells 27 none [.v (.i .i64 a12), .v (.i .u64 a13), .v (.s a14)], .cells 27 none [.v (.i .i64 a15), .v (.i .u64 a16), .v (.s a17)]]
 dsS := fun _ => []
 dcE x env H ds := match x, env 1, env 2, env 4, env 6, H, ds with
  | .normal, .v (.s a0), .ptr 0 0, .ptr 1 0, .ptr 2 0, [.cells 34 none [.v (.s a1), .v (.i .i64 a2), .v (.i .i64 a3), .v (.i .u64 a4), .v (.i .u64 a5), .v (.sl 9 a6), .v (.b a7), .v (.i .i64 a8), .v (.sl 34 a9)], .cells 27 none [.v (.i .i64 a10), .v (.i .u64 a11), .v (.s a12)], .cells 27 none [.v (.i .i64 a13), .v (.i .u64 a14), .v (.s a15)]], [] => some (a0, a1, a2, a3, a4, a5, a6, a7, a8, a9, a10, a11, a12, a13, a14, a15)
  | _, _, _, _, _, _, _ => none
 exE := fun _ => .normal
 slE := fun (a0, _) => [(1, .v (.s a0)), (2, .ptr 0 0), (4, .ptr 1 0), (6, .ptr 2 0)]
 obE := fun (_, a1, a2, a3, a4, a5, a6, a7, a8, a9, a10, a11, a12, a13, a14, a15) => [.cells 34 none [.v (.s a1), .v (.i .i64 a2), .v (.i .i64 a3), .v (.i .u64 a4), .v (.i .u64 a5), .v (.sl 9 a6), .v (.b a7), .v (.i .i64 a8), .v (.sl 34 a9)], .cells 27 none [.v (.i .i64 a10), .v (.i .u64 a11), .v (.s a12)], .cells 27 none [.v (.i .i64 a13), .v (.i .u64 a14), .v (.s a15)]]
 dsE := fun _ => []
 goE := fun _ (a0, a1, a2, a3, a4, a5, a6, a7, a8, a9, a10, a11, a12, a13, a14, a15) k => k .normal [(1, .v (.s a0)), (2, .ptr 0 0), (4, .ptr 1 0), (6, .ptr 2 0)] [.cells 34 none [.v (.s a1), .v (.i .i64 a2), .v (.i .i64 a3), .v (.i .u64 a4), .v (.i .u64 a5), .v (.sl 9 a6), .v (.b a7), .v (.i .i64 a8), .v (.sl 34 a9)], .cells 27 none [.v (.i .i64 a10), .v (.i .u64 a11), .v (.s a12)], .cells 27 none [.v (.i .i64 a13), .v (.i .u64 a14), .v (.s a15)]] []
theorem p_r08_Take_0_ok : PieceOk p_r08_Take_0 := by
 refine ⟨fun env H ds s h => ?_, fun x env H ds e h => ?_, fun R e k => by kernel_rfl⟩ <;> (simp only [p_r08_Take_0] at h ⊢; split at h <;> first | (cases h; simp only [List.forall_mem_cons]; simp_all; done) | (cases h; done))
theorem p_r08_Take_0_ct (κ : Nat) (m : Int) : CutOk Tryz.prog C (G m) Tryz.f18.ntmps 0 (pieceOf (.blk 0) (getBody Tryz.f18)) (p_r08_Take_0.cut (gcN 0 [1, 2, 4, 6, 7, 18]) (fun (a0, a1, a2, a3, a4, a5, a6, a7, a8, a9, a10, a11, a12, a13, a14, a15, a16, a17) => r08_Take.v0 κ a0 a1 a2 a3 a4 a5 a6 a7 a8 a9 a10 a11 a12 a13 a14 a15 a16 a17)) :=
 Piece.join p_r08_Take_0_ok C_ok mixed (gam74_ok κ m) gcN_ok (xN_ok gcN_ok (ex_nil) gcN_ok gcN_ok) (cut := (ct_r08_Take_10 κ)) (X := (xN (gcN 0 [1, 2, 4, 6]) [] (gcN 0 [4, 5]) (gcN 0 [1000000]))) (cuts_by (l := [(pieceOf (.cnd 21 7) (getBody Tryz.f18), cc_r08_Take_4 κ), (pieceOf (.cnd 21 9) (getBody Tryz.f18), cc_r08_Take_10 κ)]) (by kernel_rfl) (all_cons (cc_r08_Take_4_ok κ m) (all_cons (cc_r08_Take_10_ok κ m) (all_nil)))) (fun s => by kernel_rfl)
def cc_r08_Take_11 (κ : Nat) : Cut T := p_r08_Take_0.cut (gcN 0 [1, 2, 4, 6, 7, 18]) (fun (a0, a1, a2, a3, a4, a5, a6, a7, a8, a9, a10, a11, a12, a13, a14, a15, a16, a17) => r08_Take.v0 κ a0 a1 a2 a3 a4 a5 a6 a7 a8 a9 a10 a11 a12 a13 a14 a15 a16 a17)
theorem cc_r08_Take_11_ok (κ : Nat) (m : Int) : CutOk Tryz.prog C (G m) Tryz.f18.ntmps 0 (pieceOf (.blk 0) (getBody Tryz.f18)) (cc_r08_Take_11 κ) := p_r08_Take_0_ct κ m
def ct_r08_Take_11 (κ : Nat) : Key → Option (Cut T) := addCut noCut (.blk 0) (cc_r08_Take_11 κ)
def p_r08_Take_12 : Piece T (ByteArray × ByteArray × Int × Int × Int × Int × (List ByteArray) × Bool × Int × (List Tollbarref07S) × Int × Int × ByteArray × Int × Int × ByteArray) (Bool × Int × Int × ByteArray × Int × Int × ByteArray) where
 dcS env H ds := match env 1, env 2, env 4, env 6, H, ds with
  | .v (.s a0), .ptr 0 0, .ptr 1 0, .ptr 2 0, [.cells 34 none [.v (.s a1), .v (.i .i64 a2), .v (.i .i64 a3), .v (.i .u64 a4), .v (.i .u64 a5), .v (.sl 9 a6), .v (.b a7), .v (.i .i64 a8), .v (.sl 34 a9)], .cells 27 none [.v (.i .i64 a10), .v (.i .u64 a11), .v (.s a12)], .cells 27 none [.v (.i .i64 a13), .v (.i .u64 a14), .v (.s a15)]], [] => some (a0, a1, a2, a3, a4, a5, a6, a7, a8, a9, a10, a11, a12, a13, a14, a15)
  | _, _, _, _, _, _ => none
 slS := fun (a0, _) => [(1, .v (.s a0)), (2, .ptr 0 0), (4, .ptr 1 0), (6, .ptr 2 0)]
 obS := fun (_, a1, a2, a3, a4, a5, a6, a7, a8, a9, a10, a11, a12, a13, a14, a15) => [.cells 34 none [.v (.s a1), .v (.i .i64 a2), .v (.i .i64 a3), .v (.i .u64 a4), .v (.i .u64 a5), .v (.sl 9 a6), .v (.b a7), .v (.i .i64 a8), .v (.sl 34 a9)], .cells 27 none [.v (.i .i64 a10), .v (.i .u64 a11), .v (.s a12)], .cells 27 none [.v (.i .i64 a13), .v (.i .u64 a14), .v (.s a15)]]
 dsS := fun _ => []
 dcE x env H ds := match x, env 4, env 6, env 51, H, ds with
  | .normal, .ptr 0 0, .ptr 1 0, .v (.b a0), [.cells 27 none [.v (.i .i64 a1), .v (.i .u64 a2), .v (.s a3)], .cells 27 none [.v (.i .i64 a4), .v (.i .u64 a5), .v (.s a6)]], [] => some (a0, a1, a2, a3, a4, a5, a6)
  | _, _, _, _, _, _ => none
 exE := fun _ => .normal
 slE := fun (a0, _) => [(4, .ptr 0 0), (6, .ptr 1 0), (51, .v (.b a0))]
 obE := fun (_, a1, a2, a3, a4, a5, a6) => [.cells 27 none [.v (.i .i64 a1), .v (.i .u64 a2), .v (.s a3)], .cells 27 none [.v (.i .i64 a4), .v (.i .u64 a5), .v (.s a6)]]
 dsE := fun _ => []
 goE := fun _ (a0, a1, a2, a3, a4, a5, a6) k => k .normal [(4, .ptr 0 0), (6, .ptr 1 0), (51, .v (.b a0))] [.cells 27 none [.v (.i .i64 a1), .v (.i .u64 a2), .v (.s a3)], .cells 27 none [.v (.i .i64 a4), .v (.i .u64 a5), .v (.s a6)]] []
theorem p_r08_Take_12_ok : PieceOk p_r08_Take_12 := by
 refine ⟨fun env H ds s h => ?_, fun x env H ds e h => ?_, fun R e k => by kernel_rfl⟩ <;> (simp only [p_r08_Take_12] at h ⊢; split at h <;> first | (cases h; simp only [List.forall_mem_cons]; simp_all; done) | (cases h; done))
theorem p_r08_Take_12_ct (κ : Nat) (m : Int) : CutOk Tryz.prog C (G m) Tryz.f18.ntmps 0 (pieceOf (.reg 12) (getBody Tryz.f18)) (p_r08_Take_12.cut (gcN 0 [1, 2, 4, 6]) (fun (a0, a1, a2, a3, a4, a5, a6, a7, a8, a9, a10, a11, a12, a13, a14, a15) => r08_Take.v12 κ a0 a1 a2 a3 a4 a5 a6 a7 a8 a9 a10 a11 a12 a13 a14 a15)) :=
 Piece.join p_r08_Take_12_ok C_ok mixed (gam74_ok κ m) gcN_ok (xN_ok gcN_ok (ex_nil) gcN_ok gcN_ok) (cut := (ct_r08_Take_11 κ)) (X := (xN (gcN 0 [4, 6, 51]) [] (gcN 0 [4, 5]) (gcN 0 [1000000]))) (cuts_by (l := []) (by kernel_rfl) (all_nil)) (fun s => by kernel_rfl)
def cc_r08_Take_13 (κ : Nat) : Cut T := p_r08_Take_12.cut (gcN 0 [1, 2, 4, 6]) (fun (a0, a1, a2, a3, a4, a5, a6, a7, a8, a9, a10, a11, a12, a13, a14, a15) => r08_Take.v12 κ a0 a1 a2 a3 a4 a5 a6 a7 a8 a9 a10 a11 a12 a13 a14 a15)
theorem cc_r08_Take_13_ok (κ : Nat) (m : Int) : CutOk Tryz.prog C (G m) Tryz.f18.ntmps 0 (pieceOf (.reg 12) (getBody Tryz.f18)) (cc_r08_Take_13 κ) := p_r08_Take_12_ct κ m
def ct_r08_Take_13 (κ : Nat) : Key → Option (Cut T) := addCut (ct_r08_Take_11 κ) (.reg 12) (cc_r08_Take_13 κ)
def sp_r08_Take : Spec T (ByteArray × Int × Int × Int × Int × (List ByteArray) × Bool × Int × (List Tollbarref07S) × ByteArray) (Int × Int × ByteArray × Int) where
 dcI a H := match a, H with
  | [(.agg [.v (.s a0), .v (.i .i64 a1), .v (.i .i64 a2), .v (.i .u64 a3), .v (.i .u64 a4), .v (.sl 9 a5), .v (.b a6), .v (.i .i64 a7), .v (.sl 34 a8)]), .v (.s a9)], [] => some (a0, a1, a2, a3, a4, a5, a6, a7, a8, a9)
  | _, _ => none
 ecA := fun (a0, a1, a2, a3, a4, a5, a6, a7, a8, a9) => [(.agg [.v (.s a0), .v (.i .i64 a1), .v (.i .i64 a2), .v (.i .u64 a3), .v (.i .u64 a4), .v (.sl 9 a5), .v (.b a6), .v (.i .i64 a7), .v (.sl 34 a8)]), .v (.s a9)]
 ecH := fun _ => []
 dcO o := match o with
  | .ret (.tup [(.agg [.v (.i .i64 a0), .v (.i .u64 a1), .v (.s a2)]), .v (.i .i64 a3)]) [] => some (a0, a1, a2, a3)
  | _ => none
 goO := fun _ (a0, a1, a2, a3) k => k (.ret (.tup [(.agg [.v (.i .i64 a0), .v (.i .u64 a1), .v (.s a2)]), .v (.i .i64 a3)]) [])
 ecO := fun (a0, a1, a2, a3) => .ret (.tup [(.agg [.v (.i .i64 a0), .v (.i .u64 a1), .v (.s a2)]), .v (.i .i64 a3)]) []
theorem sp_r08_Take_ok : SpecOk sp_r08_Take := by
 refine ⟨fun a H i h => ?_, fun o x h => ?_, fun R e k => by kernel_rfl⟩ <;> (simp only [sp_r08_Take] at h ⊢; split at h <;> first | (cases h; exact ⟨rfl, rfl⟩) | (cases h; rfl) | (cases h; done))
theorem ok_r08_Take (κ : Nat) (m : Int) : EOk Tryz.prog C (G m) 18 (sp_r08_Take.entry (fun (a0, a1, a2, a3, a4, a5, a6, a7, a8, a9) => r08_Take κ a0 a1 a2 a3 a4 a5 a6 a7 a8 a9)) :=
 Spec.ok sp_r08_Take_ok C_ok mixed (gam74_ok κ m) (cut := (ct_r08_Take_13 κ)) (NR := (gcN 0 [0])) (NP := (gcN 0 [0])) (nB := 0) Tryz.func18 (c := (getBody Tryz.f18)) (by kernel_rfl) (by kernel_rfl) (fun i => by kernel_rfl) gcN_ok gcN_ok (cuts_by (l := [(pieceOf (.blk 0) (getBody Tryz.f18), cc_r08_Take_11 κ), (pieceOf (.reg 12) (getBody Tryz.f18), cc_r08_Take_13 κ)]) (by kernel_rfl) (all_cons (cc_r08_Take_11_ok κ m) (all_cons (cc_r08_Take_13_ok κ m) (all_nil)))) (fun i => by kernel_rfl)
noncomputable def gam75 (κ : Nat) : Gam T := (gam74 κ).addS 18 sp_r08_Take (fun (a0, a1, a2, a3, a4, a5, a6, a7, a8, a9) => r08_Take κ a0 a1 a2 a3 a4 a5 a6 a7 a8 a9)
theorem gam75_ok (κ : Nat) (m : Int) : GOk Tryz.prog C (G m) (gam75 κ) := (gam74_ok κ m).addS (ok_r08_Take κ m)
def p_l08_ValueReads_0 : Piece T (ByteArray × (List Int) × Bool × ByteArray × Int × Int × Int × Int × (List ByteArray) × Bool × Int × (List SpecSpec) × ByteArray × Int × Int × Int × Int × (List ByteArray) × Bool × Int × (List Tollbarref07S)) (ByteArray × (List Int) × Bool × ByteArray × Int × Int × Int × Int × (List ByteArray) × Bool × Int × (List SpecSpec) × ByteArray × Int × Int × Int × Int × (List ByteArray) × Bool × Int × (List Tollbarref07S)) where
 dcS env H ds := match env 1, env 2, env 8, env 9, env 10, H, ds with
  | .v (.s a0), .v (.sl 5 a1), .ptr 0 0, .ptr 1 0, .v (.b a2), [.cells 31 none [.v (.s a3), .v (.i .i64 a4), .v (.i .i64 a5), .v (.i .u64 a6), .v (.i .u64 a7), .v (.sl 9 a8), .v (.b a9), .v (.i .i64 a10), .v (.sl 31 a11)], .cells 34 none [.v (.s a12), .v (.i .i64 a13), .v (.i .i64 a14), .v (.i .u64 a15), .v (.i .u64 a16), .v (.sl 9 a17), .v (.b a18), .v (.i .i64 a19), .v (.sl 34 a20)]], [] => some (a0, a1, a2, a3, a4, a5, a6, a7, a8, a9, a10, a11, a12, a13, a14, a15, a16, a17, a18, a19, a20)
  | _, _, _, _, _, _, _ => none
 slS := fun (a0, a1, a2, _) => [(1, .v (.s a0)), (2, .v (.sl 5 a1)), (8, .ptr 0 0), (9, .ptr 1 0), (10, .v (.b a2))]
 obS := fun (_, _, _, a3, a4, a5, a6, a7, a8, a9, a10, a11, a12, a13, a14, a15, a16, a17, a18, a19, a20) => [.cells 31 none [.v (.s a3), .v (.i .i64 a4), .v (.i .i64 a5), .v (.i .u64 a6), .v (.i .u64 a7), .v (.sl 9 a8), .v (.b a9), .v (.i .i64 a10), .v (.sl 31 a11)], .cells 34 none [.v (.s a12), .v (.i .i64 a13), .v (.i .i64 a14), .v (.i .u64 a15), .v (.i .u64 a16), .v (.sl 9 a17), .v (.b a18), .v (.i .i64 a19), .v (.sl 34 a20)]]
 dsS := fun _ => []
 dcE x env H ds := match x, env 1, env 2, env 8, env 9, env 39, H, ds with
  | .normal, .v (.s a0), .v (.sl 5 a1), .ptr 0 0, .ptr 1 0, .v (.b a2), [.cells 31 none [.v (.s a3), .v (.i .i64 a4), .v (.i .i64 a5), .v (.i .u64 a6), .v (.i .u64 a7), .v (.sl 9 a8), .v (.b a9), .v (.i .i64 a10), .v (.sl 31 a11)], .cells 34 none [.v (.s a12), .v (.i .i64 a13), .v (.i .i64 a14), .v (.i .u64 a15), .v (.i .u64 a16), .v (.sl 9 a17), .v (.b a18), .v (.i .i64 a19), .v (.sl 34 a20)]], [] => some (a0, a1, a2, a3, a4, a5, a6, a7, a8, a9, a10, a11, a12, a13, a14, a15, a16, a17, a18, a19, a20)
  | _, _, _, _, _, _, _, _ => none
 exE := fun _ => .normal
 slE := fun (a0, a1, a2, _) => [(1, .v (.s a0)), (2, .v (.sl 5 a1)), (8, .ptr 0 0), (9, .ptr 1 0), (39, .v (.b a2))]
 obE := fun (_, _, _, a3, a4, a5, a6, a7, a8, a9, a10, a11, a12, a13, a14, a15, a16, a17, a18, a19, a20) => [.cells 31 none [.v (.s a3), .v (.i .i64 a4), .v (.i .i64 a5), .v (.i .u64 a6), .v (.i .u64 a7), .v (.sl 9 a8), .v (.b a9), .v (.i .i64 a10), .v (.sl 31 a11)], .cells 34 none [.v (.s a12), .v (.i .i64 a13), .v (.i .i64 a14), .v (.i .u64 a15), .v (.i .u64 a16), .v (.sl 9 a17), .v (.b a18), .v (.i .i64 a19), .v (.sl 34 a20)]]
 dsE := fun _ => []
 goE := fun _ (a0, a1, a2, a3, a4, a5, a6, a7, a8, a9, a10, a11, a12, a13, a14, a15, a16, a17, a18, a19, a20) k => k .normal [(1, .v (.s a0)), (2, .v (.sl 5 a1)), (8, .ptr 0 0), (9, .ptr 1 0), (39, .v (.b a2))] [.cells 31 none [.v (.s a3), .v (.i .i64 a4), .v (.i .i64 a5), .v (.i .u64 a6), .v (.i .u64 a7), .v (.sl 9 a8), .v (.b a9), .v (.i .i64 a10), .v (.sl 31 a11)], .cells 34 none [.v (.s a12), .v (.i .i64 a13), .v (.i .i64 a14), .v (.i .u64 a15), .v (.i .u64 a16), .v (.sl 9 a17), .v (.b a18), .v (.i .i64 a19), .v (.sl 34 a20)]] []
theorem p_l08_ValueReads_0_ok : PieceOk p_l08_ValueReads_0 := by
 refine ⟨fun env H ds s h => ?_, fun x env H ds e h => ?_, fun R e k => by kernel_rfl⟩ <;> (simp only [p_l08_ValueReads_0] at h ⊢; split at h <;> first | (cases h; simp only [List.forall_mem_cons]; simp_all; done) | (cases h; done))
theorem p_l08_ValueReads_0_ct (κ : Nat) (m : Int) : CutOk Tryz.prog C (G m) Tryz.f4.ntmps 0 (pieceOf (.reg 5) (getBody Tryz.f4)) (p_l08_ValueReads_0.cut (gcN 0 [1, 2, 8, 9, 10]) (fun (a0, a1, a2, a3, a4, a5, a6, a7, a8, a9, a10, a11, a12, a13, a14, a15, a16, a17, a18, a19, a20) => l08_ValueReads.v0 κ a0 a1 a2 a3 a4 a5 a6 a7 a8 a9 a10 a11 a12 a13 a14 a15 a16 a17 a18 a19 a20)) :=
 Piece.join p_l08_ValueReads_0_ok C_ok mixed (gam70_ok κ m) gcN_ok (xN_ok gcN_ok (ex_nil) gcN_ok gcN_ok) (cut := noCut) (X := (xN (gcN 0 [1, 2, 8, 9, 39]) [] (gcN 0 [6]) (gcN 0 [1000000]))) (cuts_by (l := []) (by kernel_rfl) (all_nil)) (fun s => by kernel_rfl)
def cc_l08_ValueReads_1 (κ : Nat) : Cut T := p_l08_ValueReads_0.cut (gcN 0 [1, 2, 8, 9, 10]) (fun (a0, a1, a2, a3, a4, a5, a6, a7, a8, a9, a10, a11, a12, a13, a14, a15, a16, a17, a18, a19, a20) => l08_ValueReads.v0 κ a0 a1 a2 a3 a4 a5 a6 a7 a8 a9 a10 a11 a12 a13 a14 a15 a16 a17 a18 a19 a20)
theorem cc_l08_ValueReads_1_ok (κ : Nat) (m : Int) : CutOk Tryz.prog C (G m) Tryz.f4.ntmps 0 (pieceOf (.reg 5) (getBody Tryz.f4)) (cc_l08_ValueReads_1 κ) := p_l08_ValueReads_0_ct κ m
def ct_l08_ValueReads_1 (κ : Nat) : Key → Option (Cut T) := addCut noCut (.reg 5) (cc_l08_ValueReads_1 κ)
def p_l08_ValueReads_2 : Piece T ((List Int) × Int × Int × Int × Int × ByteArray × Int × Int × Int × Int × (List ByteArray) × Bool × Int × (List SpecSpec) × Int × Int × ByteArray × Int × Int × ByteArray × Int × Int × ByteArray × Int × Int × ByteArray) ((List Int) × Int × Int × Bool × ByteArray × Int × Int × Int × Int × (List ByteArray) × Bool × Int × (List SpecSpec) × Int × Int × ByteArray × Int × Int × ByteArray) where
 dcS env H ds := match env 2, env 8, env 11, env 12, env 13, env 14, env 15, env 16, env 17, env 18, H, ds with
  | .v (.sl 5 a0), .ptr 0 0, .ptr 1 0, .v (.i .i64 a1), .ptr 2 0, .v (.i .i64 a2), .ptr 3 0, .v (.i .i64 a3), .ptr 4 0, .v (.i .i64 a4), [.cells 31 none [.v (.s a5), .v (.i .i64 a6), .v (.i .i64 a7), .v (.i .u64 a8), .v (.i .u64 a9), .v (.sl 9 a10), .v (.b a11), .v (.i .i64 a12), .v (.sl 31 a13)], .cells 27 none [.v (.i .i64 a14), .v (.i .u64 a15), .v (.s a16)], .cells 27 none [.v (.i .i64 a17), .v (.i .u64 a18), .v (.s a19)], .cells 27 none [.v (.i .i64 a20), .v (.i .u64 a21), .v (.s a22)], .cells 27 none [.v (.i .i64 a23), .v (.i .u64 a24), .v (.s a25)]], [] => some (a0, a1, a2, a3, a4, a5, a6, a7, a8, a9, a10, a11, a12, a13, a14, a15, a16, a17, a18, a19, a20, a21, a22, a23, a24, a25)
  | _, _, _, _, _, _, _, _, _, _, _, _ => none
 slS := fun (a0, a1, a2, a3, a4, _) => [(2, .v (.sl 5 a0)), (8, .ptr 0 0), (11, .ptr 1 0), (12, .v (.i .i64 a1)), (13, .ptr 2 0), (14, .v (.i .i64 a2)), (15, .ptr 3 0), (16, .v (.i .i64 a3)), (17, .ptr 4 0), (18, .v (.i .i64 a4))]
 obS := fun (_, _, _, _, _, a5, a6, a7, a8, a9, a10, a11, a12, a13, a14, a15, a16, a17, a18, a19, a20, a21, a22, a23, a24, a25) => [.cells 31 none [.v (.s a5), .v (.i .i64 a6), .v (.i .i64 a7), .v (.i .u64 a8), .v (.i .u64 a9), .v (.sl 9 a10), .v (.b a11), .v (.i .i64 a12), .v (.sl 31 a13)], .cells 27 none [.v (.i .i64 a14), .v (.i .u64 a15), .v (.s a16)], .cells 27 none [.v (.i .i64 a17), .v (.i .u64 a18), .v (.s a19)], .cells 27 none [.v (.i .i64 a20), .v (.i .u64 a21), .v (.s a22)], .cells 27 none [.v (.i .i64 a23), .v (.i .u64 a24), .v (.s a25)]]
 dsS := fun _ => []
 dcE x env H ds := match x, env 2, env 8, env 11, env 12, env 15, env 16, env 82, H, ds with
  | .normal, .v (.sl 5 a0), .ptr 0 0, .ptr 1 0, .v (.i .i64 a1), .ptr 2 0, .v (.i .i64 a2), .v (.b a3), [.cells 31 none [.v (.s a4), .v (.i .i64 a5), .v (.i .i64 a6), .v (.i .u64 a7), .v (.i .u64 a8), .v (.sl 9 a9), .v (.b a10), .v (.i .i64 a11), .v (.sl 31 a12)], .cells 27 none [.v (.i .i64 a13), .v (.i .u64 a14), .v (.s a15)], .cells 27 none [.v (.i .i64 a16), .v (.i .u64 a17), .v (.s a18)]], [] => some (a0, a1, a2, a3, a4, a5, a6, a7, a8, a9, a10, a11, a12, a13, a14, a15, a16, a17, a18)
  | _, _, _, _, _, _, _, _, _, _ => none
 exE := fun _ => .normal
 slE := fun (a0, a1, a2, a3, _) => [(2, .v (.sl 5 a0)), (8, .ptr 0 0), (11, .ptr 1 0), (12, .v (.i .i64 a1)), (15, .ptr 2 0), (16, .v (.i .i64 a2)), (82, .v (.b a3))]
 obE := fun (_, _, _, _, a4, a5, a6, a7, a8, a9, a10, a11, a12, a13, a14, a15, a16, a17, a18) => [.cells 31 none [.v (.s a4), .v (.i .i64 a5), .v (.i .i64 a6), .v (.i .u64 a7), .v (.i .u64 a8), .v (.sl 9 a9), .v (.b a10), .v (.i .i64 a11), .v (.sl 31 a12)], .cells 27 none [.v (.i .i64 a13), .v (.i .u64 a14), .v (.s a15)], .cells 27 none [.v (.i .i64 a16), .v (.i .u64 a17), .v (.s a18)]]
 dsE := fun _ => []
 goE := fun _ (a0, a1, a2, a3, a4, a5, a6, a7, a8, a9, a10, a11, a12, a13, a14, a15, a16, a17, a18) k => k .normal [(2, .v (.sl 5 a0)), (8, .ptr 0 0), (11, .ptr 1 0), (12, .v (.i .i64 a1)), (15, .ptr 2 0), (16, .v (.i .i64 a2)), (82, .v (.b a3))] [.cells 31 none [.v (.s a4), .v (.i .i64 a5), .v (.i .i64 a6), .v (.i .u64 a7), .v (.i .u64 a8), .v (.sl 9 a9), .v (.b a10), .v (.i .i64 a11), .v (.sl 31 a12)], .cells 27 none [.v (.i .i64 a13), .v (.i .u64 a14), .v (.s a15)], .cells 27 none [.v (.i .i64 a16), .v (.i .u64 a17), .v (.s a18)]] []
theorem p_l08_ValueReads_2_ok : PieceOk p_l08_ValueReads_2 := by
 refine ⟨fun env H ds s h => ?_, fun x env H ds e h => ?_, fun R e k => by kernel_rfl⟩ <;> (simp only [p_l08_ValueReads_2] at h ⊢; split at h <;> first | (cases h; simp only [List.forall_mem_cons]; simp_all; done) | (cases h; done))
theorem p_l08_ValueReads_2_ct (κ : Nat) (m : Int) : CutOk Tryz.prog C (G m) Tryz.f4.ntmps 0 (pieceOf (.reg 11) (getBody Tryz.f4)) (p_l08_ValueReads_2.cut (gcN 0 [2, 8, 11, 12, 13, 14, 15, 16, 17, 18]) (fun (a0, a1, a2, a3, a4, a5, a6, a7, a8, a9, a10, a11, a12, a13, a14, a15, a16, a17, a18, a19, a20, a21, a22, a23, a24, a25) => l08_ValueReads.v2 κ a0 a1 a2 a3 a4 a5 a6 a7 a8 a9 a10 a11 a12 a13 a14 a15 a16 a17 a18 a19 a20 a21 a22 a23 a24 a25)) :=
 Piece.join p_l08_ValueReads_2_ok C_ok mixed (gam75_ok κ m) gcN_ok (xN_ok gcN_ok (ex_nil) gcN_ok gcN_ok) (cut := (ct_l08_ValueReads_1 κ)) (X := (xN (gcN 0 [2, 8, 11, 12, 15, 16, 82]) [] (gcN 0 [6]) (gcN 0 [1000000]))) (cuts_by (l := []) (by kernel_rfl) (all_nil)) (fun s => by kernel_rfl)
def cc_l08_ValueReads_3 (κ : Nat) : Cut T := p_l08_ValueReads_2.cut (gcN 0 [2, 8, 11, 12, 13, 14, 15, 16, 17, 18]) (fun (a0, a1, a2, a3, a4, a5, a6, a7, a8, a9, a10, a11, a12, a13, a14, a15, a16, a17, a18, a19, a20, a21, a22, a23, a24, a25) => l08_ValueReads.v2 κ a0 a1 a2 a3 a4 a5 a6 a7 a8 a9 a10 a11 a12 a13 a14 a15 a16 a17 a18 a19 a20 a21 a22 a23 a24 a25)
theorem cc_l08_ValueReads_3_ok (κ : Nat) (m : Int) : CutOk Tryz.prog C (G m) Tryz.f4.ntmps 0 (pieceOf (.reg 11) (getBody Tryz.f4)) (cc_l08_ValueReads_3 κ) := p_l08_ValueReads_2_ct κ m
def ct_l08_ValueReads_3 (κ : Nat) : Key → Option (Cut T) := addCut (ct_l08_ValueReads_1 κ) (.reg 11) (cc_l08_ValueReads_3 κ)
def p_l08_ValueReads_4 : Piece T ((List Int) × Int × Int × ByteArray × Int × Int × Int × Int × (List ByteArray) × Bool × Int × (List SpecSpec) × Int × Int × ByteArray × Int × Int × ByteArray) (Bool) where
 dcS env H ds := match env 2, env 8, env 11, env 12, env 15, env 16, H, ds with
  | .v (.sl 5 a0), .ptr 0 0, .ptr 1 0, .v (.i .i64 a1), .ptr 2 0, .v (.i .i64 a2), [.cells 31 none [.v (.s a3), .v (.i .i64 a4), .v (.i .i64 a5), .v (.i .u64 a6), .v (.i .u64 a7), .v (.sl 9 a8), .v (.b a9), .v (.i .i64 a10), .v (.sl 31 a11)], .cells 27 none [.v (.i .i64 a12), .v (.i .u64 a13), .v (.s a14)], .cells 27 none [.v (.i .i64 a15), .v (.i .u64 a16), .v (.s a17)]], [] => some (a0, a1, a2, a3, a4, a5, a6, a7, a8, a9, a10, a11, a12, a13, a14, a15, a16, a17)
  | _, _, _, _, _, _, _, _ => none
 slS := fun (a0, a1, a2, _) => [(2, .v (.sl 5 a0)), (8, .ptr 0 0), (11, .ptr 1 0), (12, .v (.i .i64 a1)), (15, .ptr 2 0), (16, .v (.i .i64 a2))]
 obS := fun (_, _, _, a3, a4, a5, a6, a7, a8, a9, a10, a11, a12, a13, a14, a15, a16, a17) => [.cells 31 none [.v (.s a3), .v (.i .i64 a4), .v (.i .i64 a5), .v (.i .u64 a6), .v (.i .u64 a7), .v (.sl 9 a8), .v (.b a9), .v (.i .i64 a10), .v (.sl 31 a11)], .cells 27 none [.v (.i .i64 a12), .v (.i .u64 a13), .v (.s a14)], .cells 27 none [.v (.i .i64 a15), .v (.i .u64 a16), .v (.s a17)]]
 dsS := fun _ => []
 dcE x env H ds := match x, env 6, H, ds with
  | .normal, .v (.b a0), [], [] => some a0
  | _, _, _, _ => none
 exE := fun a0 => .normal
 slE := fun a0 => [(6, .v (.b a0))]
 obE := fun a0 => []
 dsE := fun a0 => []
 goE := fun _ a0 k => k .normal [(6, .v (.b a0))] [] []
theorem p_l08_ValueReads_4_ok : PieceOk p_l08_ValueReads_4 := by
 refine ⟨fun env H ds s h => ?_, fun x env H ds e h => ?_, fun R e k => by kernel_rfl⟩ <;> (simp only [p_l08_ValueReads_4] at h ⊢; split at h <;> first | (cases h; simp only [List.forall_mem_cons]; simp_all; done) | (cases h; done))
theorem p_l08_ValueReads_4_ct (κ : Nat) (m : Int) : CutOk Tryz.prog C (G m) Tryz.f4.ntmps 0 (pieceOf (.reg 13) (getBody Tryz.f4)) (p_l08_ValueReads_4.cut (gcN 0 [2, 8, 11, 12, 15, 16]) (fun (a0, a1, a2, a3, a4, a5, a6, a7, a8, a9, a10, a11, a12, a13, a14, a15, a16, a17) => l08_ValueReads.v4 κ a0 a1 a2 a3 a4 a5 a6 a7 a8 a9 a10 a11 a12 a13 a14 a15 a16 a17)) :=
 Piece.join p_l08_ValueReads_4_ok C_ok mixed (gam75_ok κ m) gcN_ok (xN_ok gcN_ok (ex_nil) gcN_ok gcN_ok) (cut := (ct_l08_ValueReads_3 κ)) (X := (xN (gcN 0 [6]) [] (gcN 0 [6]) (gcN 0 [1000000]))) (cuts_by (l := []) (by kernel_rfl) (all_nil)) (fun s => by kernel_rfl)
def cc_l08_ValueReads_5 (κ : Nat) : Cut T := p_l08_ValueReads_4.cut (gcN 0 [2, 8, 11, 12, 15, 16]) (fun (a0, a1, a2, a3, a4, a5, a6, a7, a8, a9, a10, a11, a12, a13, a14, a15, a16, a17) => l08_ValueReads.v4 κ a0 a1 a2 a3 a4 a5 a6 a7 a8 a9 a10 a11 a12 a13 a14 a15 a16 a17)
theorem cc_l08_ValueReads_5_ok (κ : Nat) (m : Int) : CutOk Tryz.prog C (G m) Tryz.f4.ntmps 0 (pieceOf (.reg 13) (getBody Tryz.f4)) (cc_l08_ValueReads_5 κ) := p_l08_ValueReads_4_ct κ m
def ct_l08_ValueReads_5 (κ : Nat) : Key → Option (Cut T) := addCut (ct_l08_ValueReads_3 κ) (.reg 13) (cc_l08_ValueReads_5 κ)
def sp_l08_ValueReads : Spec T (Int × (List ByteArray) × ByteArray × (List Int)) (Bool) where
 dcI a H := match a, H with
  | [(.agg [.v (.i .i64 a0), .v (.sl 9 a1)]), .v (.s a2), .v (.sl 5 a3)], [] => some (a0, a1, a2, a3)
  | _, _ => none
 ecA := fun (a0, a1, a2, a3) => [(.agg [.v (.i .i64 a0), .v (.sl 9 a1)]), .v (.s a2), .v (.sl 5 a3)]
 ecH := fun _ => []
 dcO o := match o with
  | .ret (.v (.b a0)) [] => some a0
  | _ => none
 goO := fun _ a0 k => k (.ret (.v (.b a0)) [])
 ecO := fun a0 => .ret (.v (.b a0)) []
theorem sp_l08_ValueReads_ok : SpecOk sp_l08_ValueReads := by
 refine ⟨fun a H i h => ?_, fun o x h => ?_, fun R e k => by kernel_rfl⟩ <;> (simp only [sp_l08_ValueReads] at h ⊢; split at h <;> first | (cases h; exact ⟨rfl, rfl⟩) | (cases h; rfl) | (cases h; done))
theorem ok_l08_ValueReads (κ : Nat) (m : Int) : EOk Tryz.prog C (G m) 4 (sp_l08_ValueReads.entry (fun (a0, a1, a2, a3) => l08_ValueReads κ a0 a1 a2 a3)) :=
 Spec.ok sp_l08_ValueReads_ok C_ok mixed (gam75_ok κ m) (cut := (ct_l08_ValueReads_5 κ)) (NR := (gcN 0 [0])) (NP := (gcN 0 [0])) (nB := 0) Tryz.func4 (c := (getBody Tryz.f4)) (by kernel_rfl) (by kernel_rfl) (fun i => by kernel_rfl) gcN_ok gcN_ok (cuts_by (l := [(pieceOf (.reg 5) (getBody Tryz.f4), cc_l08_ValueReads_1 κ), (pieceOf (.reg 11) (getBody Tryz.f4), cc_l08_ValueReads_3 κ), (pieceOf (.reg 13) (getBody Tryz.f4), cc_l08_ValueReads_5 κ)]) (by kernel_rfl) (all_cons (cc_l08_ValueReads_1_ok κ m) (all_cons (cc_l08_ValueReads_3_ok κ m) (all_cons (cc_l08_ValueReads_5_ok κ m) (all_nil))))) (fun i => by kernel_rfl)
noncomputable def gam76 (κ : Nat) : Gam T := (gam75 κ).addS 4 sp_l08_ValueReads (fun (a0, a1, a2, a3) => l08_ValueReads κ a0 a1 a2 a3)
theorem gam76_ok (κ : Nat) (m : Int) : GOk Tryz.prog C (G m) (gam76 κ) := (gam75_ok κ m).addS (ok_l08_ValueReads κ m)
end Go.Proofs.YthmohmmbhjpbcaaGreatDoor.Ev.Seat
