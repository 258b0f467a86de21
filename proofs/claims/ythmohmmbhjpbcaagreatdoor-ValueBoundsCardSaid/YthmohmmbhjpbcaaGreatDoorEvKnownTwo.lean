import Derived.Test.YthmohmmbhjpbcaaGreatDoorEvKnownOne
set_option linter.unusedVariables false
set_option linter.unusedSimpArgs false
set_option maxHeartbeats 1000000
namespace Go.Proofs.YthmohmmbhjpbcaaGreatDoor.Ev.Seat
open Go Ev Go.Proofs
def p_r07_At_5 : Piece T ((List ByteArray) × Int × Int × ByteArray × Int × Int × Int × Int × Bool × Int × ByteArray × Int × Int × Int × Int × (List ByteArray) × Bool × Int × (List Tollbarref07S)) ((List ByteArray) × Int × Int × Bool × ByteArray × Int × Int × Int × Int × Bool × Int × ByteArray × Int × Int × Int × Int × (List ByteArray) × Bool × Int × (List Tollbarref07S)) where
 dcS env H ds := match env 1, env 4, env 6, env 7, env 8, H, ds with
  | .v (.sl 9 a0), .ptr 0 0, .ptr 1 0, .v (.i .i64 a1), .v (.i .i64 a2), [.cells 34 none [.v (.s a3), .v (.i .i64 a4), .v (.i .i64 a5), .v (.i .u64 a6), .v (.i .u64 a7), .cap0, .v (.b a8), .v (.i .i64 a9), .cap0], .cells 34 none [.v (.s a10), .v (.i .i64 a11), .v (.i .i64 a12), .v (.i .u64 a13), .v (.i .u64 a14), .v (.sl 9 a15), .v (.b a16), .v (.i .i64 a17), .v (.sl 34 a18)]], [] => some (a0, a1, a2, a3, a4, a5, a6, a7, a8, a9, a10, a11, a12, a13, a14, a15, a16, a17, a18)
  | _, _, _, _, _, _, _ => none
 slS := fun (a0, a1, a2, _) => [(1, .v (.sl 9 a0)), (4, .ptr 0 0), (6, .ptr 1 0), (7, .v (.i .i64 a1)), (8, .v (.i .i64 a2))]
 obS := fun (_, _, _, a3, a4, a5, a6, a7, a8, a9, a10, a11, a12, a13, a14, a15, a16, a17, a18) => [.cells 34 none [.v (.s a3), .v (.i .i64 a4), .v (.i .i64 a5), .v (.i .u64 a6), .v (.i .u64 a7), .cap0, .v (.b a8), .v (.i .i64 a9), .cap0], .cells 34 none [.v (.s a10), .v (.i .i64 a11), .v (.i .i64 a12), .v (.i .u64 a13), .v (.i .u64 a14), .v (.sl 9 a15), .v (.b a16), .v (.i .i64 a17), .v (.sl 34 a18)]]
 dsS := fun _ => []
 dcE x env H ds := match x, env 1, env 4, env 6, env 7, env 8, env 22, H, ds with
  | .normal, .v (.sl 9 a0), .ptr 0 0, .ptr 1 0, .v (.i .i64 a1), .v (.i .i64 a2), .v (.b a3), [.cells 34 none [.v (.s a4), .v (.i .i64 a5), .v (.i .i64 a6), .v (.i .u64 a7), .v (.i .u64 a8), .cap0, .v (.b a9), .v (.i .i64 a10), .cap0], .cells 34 none [.v (.s a11), .v (.i .i64 a12), .v (.i .i64 a13), .v (.i .u64 a14), .v (.i .u64 a15), .v (.sl 9 a16), .v (.b a17), .v (.i .i64 a18), .v (.sl 34 a19)]], [] => some (a0, a1, a2, a3, a4, a5, a6, a7, a8, a9, a10, a11, a12, a13, a14, a15, a16, a17, a18, a19)
  | _, _, _, _, _, _, _, _, _ => none
 exE := fun _ => .normal
 slE := fun (a0, a1, a2, a3, _) => [(1, .v (.sl 9 a0)), (4, .ptr 0 0), (6, .ptr 1 0), (7, .v (.i .i64 a1)), (8, .v (.i .i64 a2)), (22, .v (.b a3))]
 obE := fun (_, _, _, _, a4, a5, a6, a7, a8, a9, a10, a11, a12, a13, a14, a15, a16, a17, a18, a19) => [.cells 34 none [.v (.s a4), .v (.i .i64 a5), .v (.i .i64 a6), .v (.i .u64 a7), .v (.i .u64 a8), .cap0, .v (.b a9), .v (.i .i64 a10), .cap0], .cells 34 none [.v (.s a11), .v (.i .i64 a12), .v (.i .i64 a13), .v (.i .u64 a14), .v (.i .u64 a15), .v (.sl 9 a16), .v (.b a17), .v (.i .i64 a18), .v (.sl 34 a19)]]
 dsE := fun _ => []
 goE := fun _ (a0, a1, a2, a3, a4, a5, a6, a7, a8, a9, a10, a11, a12, a13, a14, a15, a16, a17, a18, a19) k => k .normal [(1, .v (.sl 9 a0)), (4, .ptr 0 0), (6, .ptr 1 0), (7, .v (.i .i64 a1)), (8, .v (.i .i64 a2)), (22, .v (.b a3))] [.cells 34 none [.v (.s a4), .v (.i .i64 a5), .v (.i .i64 a6), .v (.i .u64 a7), .v (.i .u64 a8), .cap0, .v (.b a9), .v (.i .i64 a10), .cap0], .cells 34 none [.v (.s a11), .v (.i .i64 a12), .v (.i .i64 a13), .v (.i .u64 a14), .v (.i .u64 a15), .v (.sl 9 a16), .v (.b a17), .v (.i .i64 a18), .v (.sl 34 a19)]] []
theorem p_r07_At_5_ok : PieceOk p_r07_At_5 := by
 refine ⟨fun env H ds s h => ?_, fun x env H ds e h => ?_, fun R e k => by kernel_rfl⟩ <;> (simp only [p_r07_At_5] at h ⊢; split at h <;> first | (cases h; simp only [List.forall_mem_cons]; simp_all; done) | (cases h; done))
theorem p_r07_At_5_ct (κ : Nat) (m : Int) : CutOk Tryz.prog C (G m) Tryz.f20.ntmps 0 (pieceOf (.reg 3) (getBody Tryz.f20)) (p_r07_At_5.cut (gcN 0 [1, 4, 6, 7, 8]) (fun (a0, a1, a2, a3, a4, a5, a6, a7, a8, a9, a10, a11, a12, a13, a14, a15, a16, a17, a18) => r07_At.v5 κ a0 a1 a2 a3 a4 a5 a6 a7 a8 a9 a10 a11 a12 a13 a14 a15 a16 a17 a18)) :=
 Piece.join p_r07_At_5_ok C_ok mixed (gam55_ok κ m) gcN_ok (xN_ok gcN_ok (ex_cons gcN_ok (ex_nil)) gcN_ok gcN_ok) (cut := noCut) (X := (xN (gcN 0 [1, 4, 6, 7, 8, 22]) [(0, (gcN 0 [4, 6, 7]))] (gcN 0 [4, 5]) (gcN 0 [1000000]))) (cuts_by (l := []) (by kernel_rfl) (all_nil)) (fun s => by kernel_rfl)
def cc_r07_At_6 (κ : Nat) : Cut T := p_r07_At_5.cut (gcN 0 [1, 4, 6, 7, 8]) (fun (a0, a1, a2, a3, a4, a5, a6, a7, a8, a9, a10, a11, a12, a13, a14, a15, a16, a17, a18) => r07_At.v5 κ a0 a1 a2 a3 a4 a5 a6 a7 a8 a9 a10 a11 a12 a13 a14 a15 a16 a17 a18)
theorem cc_r07_At_6_ok (κ : Nat) (m : Int) : CutOk Tryz.prog C (G m) Tryz.f20.ntmps 0 (pieceOf (.reg 3) (getBody Tryz.f20)) (cc_r07_At_6 κ) := p_r07_At_5_ct κ m
def ct_r07_At_6 (κ : Nat) : Key → Option (Cut T) := addCut noCut (.reg 3) (cc_r07_At_6 κ)
def p_r07_At_4 : Piece T ((List ByteArray) × Int × Int × ByteArray × Int × Int × Int × Int × Bool × Int × ByteArray × Int × Int × Int × Int × (List ByteArray) × Bool × Int × (List Tollbarref07S)) ((Int × ByteArray × Int × Int × Int × Int × Bool × Int × ByteArray × Int × Int × Int × Int × (List ByteArray) × Bool × Int × (List Tollbarref07S)) ⊕ (Int × ByteArray × Int × Int × Int × Int × Bool × Int)) where
 dcS env H ds := match env 1, env 4, env 6, env 7, env 8, H, ds with
  | .v (.sl 9 a0), .ptr 0 0, .ptr 1 0, .v (.i .i64 a1), .v (.i .i64 a2), [.cells 34 none [.v (.s a3), .v (.i .i64 a4), .v (.i .i64 a5), .v (.i .u64 a6), .v (.i .u64 a7), .cap0, .v (.b a8), .v (.i .i64 a9), .cap0], .cells 34 none [.v (.s a10), .v (.i .i64 a11), .v (.i .i64 a12), .v (.i .u64 a13), .v (.i .u64 a14), .v (.sl 9 a15), .v (.b a16), .v (.i .i64 a17), .v (.sl 34 a18)]], [] => some (a0, a1, a2, a3, a4, a5, a6, a7, a8, a9, a10, a11, a12, a13, a14, a15, a16, a17, a18)
  | _, _, _, _, _, _, _ => none
 slS := fun (a0, a1, a2, _) => [(1, .v (.sl 9 a0)), (4, .ptr 0 0), (6, .ptr 1 0), (7, .v (.i .i64 a1)), (8, .v (.i .i64 a2))]
 obS := fun (_, _, _, a3, a4, a5, a6, a7, a8, a9, a10, a11, a12, a13, a14, a15, a16, a17, a18) => [.cells 34 none [.v (.s a3), .v (.i .i64 a4), .v (.i .i64 a5), .v (.i .u64 a6), .v (.i .u64 a7), .cap0, .v (.b a8), .v (.i .i64 a9), .cap0], .cells 34 none [.v (.s a10), .v (.i .i64 a11), .v (.i .i64 a12), .v (.i .u64 a13), .v (.i .u64 a14), .v (.sl 9 a15), .v (.b a16), .v (.i .i64 a17), .v (.sl 34 a18)]]
 dsS := fun _ => []
 dcE x env H ds := match x, env 4, env 5, env 6, env 7, H, ds with
  | .normal, .ptr 0 0, _, .ptr 1 0, .v (.i .i64 a0), [.cells 34 none [.v (.s a1), .v (.i .i64 a2), .v (.i .i64 a3), .v (.i .u64 a4), .v (.i .u64 a5), .cap0, .v (.b a6), .v (.i .i64 a7), .cap0], .cells 34 none [.v (.s a8), .v (.i .i64 a9), .v (.i .i64 a10), .v (.i .u64 a11), .v (.i .u64 a12), .v (.sl 9 a13), .v (.b a14), .v (.i .i64 a15), .v (.sl 34 a16)]], [] => some (.inl (a0, a1, a2, a3, a4, a5, a6, a7, a8, a9, a10, a11, a12, a13, a14, a15, a16))
  | .ret, .ptr 0 0, .v (.i .i64 a0), _, _, [.cells 34 none [.v (.s a1), .v (.i .i64 a2), .v (.i .i64 a3), .v (.i .u64 a4), .v (.i .u64 a5), .cap0, .v (.b a6), .v (.i .i64 a7), .cap0]], [] => some (.inr (a0, a1, a2, a3, a4, a5, a6, a7))
  | _, _, _, _, _, _, _ => none
 exE := fun x => match x with
  | (.inl (a0, a1, a2, a3, a4, a5, a6, a7, a8, a9, a10, a11, a12, a13, a14, a15, a16)) => .normal
  | (.inr (a0, a1, a2, a3, a4, a5, a6, a7)) => .ret
 slE := fun x => match x with
  | (.inl (a0, a1, a2, a3, a4, a5, a6, a7, a8, a9, a10, a11, a12, a13, a14, a15, a16)) => [(4, .ptr 0 0), (6, .ptr 1 0), (7, .v (.i .i64 a0))]
  | (.inr (a0, a1, a2, a3, a4, a5, a6, a7)) => [(4, .ptr 0 0), (5, .v (.i .i64 a0))]
 obE := fun x => match x with
  | (.inl (a0, a1, a2, a3, a4, a5, a6, a7, a8, a9, a10, a11, a12, a13, a14, a15, a16)) => [.cells 34 none [.v (.s a1), .v (.i .i64 a2), .v (.i .i64 a3), .v (.i .u64 a4), .v (.i .u64 a5), .cap0, .v (.b a6), .v (.i .i64 a7), .cap0], .cells 34 none [.v (.s a8), .v (.i .i64 a9), .v (.i .i64 a10), .v (.i .u64 a11), .v (.i .u64 a12), .v (.sl 9 a13), .v (.b a14), .v (.i .i64 a15), .v (.sl 34 a16)]]
  | (.inr (a0, a1, a2, a3, a4, a5, a6, a7)) => [.cells 34 none [.v (.s a1), .v (.i .i64 a2), .v (.i .i64 a3), .v (.i .u64 a4), .v (.i .u64 a5), .cap0, .v (.b a6), .v (.i .i64 a7), .cap0]]
 dsE := fun x => match x with
  | (.inl (a0, a1, a2, a3, a4, a5, a6, a7, a8, a9, a10, a11, a12, a13, a14, a15, a16)) => []
  | (.inr (a0, a1, a2, a3, a4, a5, a6, a7)) => []
 goE := fun _ x k => match x with
  | (.inl (a0, a1, a2, a3, a4, a5, a6, a7, a8, a9, a10, a11, a12, a13, a14, a15, a16)) => k .normal [(4, .ptr 0 0), (6, .ptr 1 0), (7, .v (.i .i64 a0))] [.cells 34 none [.v (.s a1), .v (.i .i64 a2), .v (.i .i64 a3), .v (.i .u64 a4), .v (.i .u64 a5), .cap0, .v (.b a6), .v (.i .i64 a7), .cap0], .cells 34 none [.v (.s a8), .v (.i .i64 a9), .v (.i .i64 a10), .v (.i .u64 a11), .v (.i .u64 a12), .v (.sl 9 a13), .v (.b a14), .v (.i .i64 a15), .v (.sl 34 a16)]] []
  | (.inr (a0, a1, a2, a3, a4, a5, a6, a7)) => k .ret [(4, .ptr 0 0), (5, .v (.i .i64 a0))] [.cells 34 none [.v (.s a1), .v (.i .i64 a2), .v (.i .i64 a3), .v (.i .u64 a4), .v (.i .u64 a5), .cap0, .v (.b a6), .v (.i .i64 a7), .cap0]] []
theorem p_r07_At_4_ok : PieceOk p_r07_At_4 := by
 refine ⟨fun env H ds s h => ?_, fun x env H ds e h => ?_, fun R e k => by rcases e with e | e <;> kernel_rfl⟩
 · simp only [p_r07_At_4] at h ⊢; split at h <;> first | (cases h; simp only [List.forall_mem_cons]; simp_all; done) | (cases h; done)
 · simp only [p_r07_At_4] at h ⊢; split at h <;> first | (cases h; simp only [List.forall_mem_cons]; simp_all; done) | (cases h; done)
theorem p_r07_At_4_ct (κ : Nat) (m : Int) : CutOk Tryz.prog C (G m) Tryz.f20.ntmps 0 (pieceOf (.blk 0) (getBody Tryz.f20)) (p_r07_At_4.cut (andN (gcN 0 [1, 4, 6, 7, 8]) (andN (slC 1 5 [] 9) (andN (slC 1 8 [] 34) (gcN 0 [1, 4, 6, 7, 8])))) (r07_At.l4 κ κ)) :=
 Piece.loop p_r07_At_4_ok C_ok mixed (gam55_ok κ m) (andN_ok gcN_ok (andN_ok (slC_ok C_ok) (andN_ok (slC_ok C_ok) gcN_ok))) (xN_ok gcN_ok (ex_nil) gcN_ok gcN_ok) (cut := (ct_r07_At_6 κ)) (X := (xN (gcN 0 [4, 6, 7]) [] (gcN 0 [4, 5]) (gcN 0 [1000000]))) (id := 0) (body := bodyOf (pieceOf (.blk 0) (getBody Tryz.f20))) (cuts_by (l := [(pieceOf (.reg 3) (getBody Tryz.f20), cc_r07_At_6 κ)]) (by kernel_rfl) (all_cons (cc_r07_At_6_ok κ m) (all_nil))) (f := r07_At.l4 κ) (fun s => by kernel_rfl) (fun k s => by kernel_rfl) κ
def cc_r07_At_7 (κ : Nat) : Cut T := p_r07_At_4.cut (andN (gcN 0 [1, 4, 6, 7, 8]) (andN (slC 1 5 [] 9) (andN (slC 1 8 [] 34) (gcN 0 [1, 4, 6, 7, 8])))) (r07_At.l4 κ κ)
theorem cc_r07_At_7_ok (κ : Nat) (m : Int) : CutOk Tryz.prog C (G m) Tryz.f20.ntmps 0 (pieceOf (.blk 0) (getBody Tryz.f20)) (cc_r07_At_7 κ) := p_r07_At_4_ct κ m
def ct_r07_At_7 (κ : Nat) : Key → Option (Cut T) := addCut noCut (.blk 0) (cc_r07_At_7 κ)
def sp_r07_At : Spec T (Int × (List ByteArray)) (ByteArray × Int × Int × Int × Int × (List ByteArray) × Bool × Int × (List Tollbarref07S) × Int) where
 dcI a H := match a, H with
  | [.v (.i .i64 a0), .v (.sl 9 a1)], [] => some (a0, a1)
  | _, _ => none
 ecA := fun (a0, a1) => [.v (.i .i64 a0), .v (.sl 9 a1)]
 ecH := fun _ => []
 dcO o := match o with
  | .ret (.tup [(.agg [.v (.s a0), .v (.i .i64 a1), .v (.i .i64 a2), .v (.i .u64 a3), .v (.i .u64 a4), .v (.sl 9 a5), .v (.b a6), .v (.i .i64 a7), .v (.sl 34 a8)]), .v (.i .i64 a9)]) [] => some (a0, a1, a2, a3, a4, a5, a6, a7, a8, a9)
  | _ => none
 goO := fun _ (a0, a1, a2, a3, a4, a5, a6, a7, a8, a9) k => k (.ret (.tup [(.agg [.v (.s a0), .v (.i .i64 a1), .v (.i .i64 a2), .v (.i .u64 a3), .v (.i .u64 a4), .v (.sl 9 a5), .v (.b a6), .v (.i .i64 a7), .v (.sl 34 a8)]), .v (.i .i64 a9)]) [])
 ecO := fun (a0, a1, a2, a3, a4, a5, a6, a7, a8, a9) => .ret (.tup [(.agg [.v (.s a0), .v (.i .i64 a1), .v (.i .i64 a2), .v (.i .u64 a3), .v (.i .u64 a4), .v (.sl 9 a5), .v (.b a6), .v (.i .i64 a7), .v (.sl 34 a8)]), .v (.i .i64 a9)]) []
theorem sp_r07_At_ok : SpecOk sp_r07_At := by
 refine ⟨fun a H i h => ?_, fun o x h => ?_, fun R e k => by kernel_rfl⟩ <;> (simp only [sp_r07_At] at h ⊢; split at h <;> first | (cases h; exact ⟨rfl, rfl⟩) | (cases h; rfl) | (cases h; done))
theorem ok_r07_At (κ : Nat) (m : Int) : EOk Tryz.prog C (G m) 20 (sp_r07_At.entry (fun (a0, a1) => r07_At κ a0 a1)) :=
 Spec.ok sp_r07_At_ok C_ok mixed (gam55_ok κ m) (cut := (ct_r07_At_7 κ)) (NR := (andN (slS 0 [0, 5] 9) (andN (slS 0 [0, 8] 34) (gcN 0 [0])))) (NP := (gcN 0 [0])) (nB := 0) Tryz.func20 (c := (getBody Tryz.f20)) (by kernel_rfl) (by kernel_rfl) (fun i => by kernel_rfl) (andN_ok (slS_ok C_ok) (andN_ok (slS_ok C_ok) gcN_ok)) gcN_ok (cuts_by (l := [(pieceOf (.blk 0) (getBody Tryz.f20), cc_r07_At_7 κ)]) (by kernel_rfl) (all_cons (cc_r07_At_7_ok κ m) (all_nil))) (fun i => by kernel_rfl)
noncomputable def gam56 (κ : Nat) : Gam T := (gam55 κ).addS 20 sp_r07_At (fun (a0, a1) => r07_At κ a0 a1)
theorem gam56_ok (κ : Nat) (m : Int) : GOk Tryz.prog C (G m) (gam56 κ) := (gam55_ok κ m).addS (ok_r07_At κ m)
def p_l08_both_0 : Piece T (Int × Int × ByteArray × Int × Int × Int × Int × Bool × Int × ByteArray × Int × Int × Int × Int × Bool × Int × ByteArray × Int × Int × Int × Int × (List ByteArray) × Bool × Int × (List SpecSpec) × ByteArray × Int × Int × Int × Int × (List ByteArray) × Bool × Int × (List Tollbarref07S)) (Bool × ByteArray × Int × Int × Int × Int × (List ByteArray) × Bool × Int × (List SpecSpec) × ByteArray × Int × Int × Int × Int × (List ByteArray) × Bool × Int × (List Tollbarref07S)) where
 dcS env H ds := match env 2, env 3, env 5, env 6, env 7, env 8, H, ds with
  | .ptr 0 0, .ptr 1 0, .ptr 2 0, .v (.i .i64 a0), .ptr 3 0, .v (.i .i64 a1), [.cells 31 none [.v (.s a2), .v (.i .i64 a3), .v (.i .i64 a4), .v (.i .u64 a5), .v (.i .u64 a6), .cap0, .v (.b a7), .v (.i .i64 a8), .cap0], .cells 34 none [.v (.s a9), .v (.i .i64 a10), .v (.i .i64 a11), .v (.i .u64 a12), .v (.i .u64 a13), .cap0, .v (.b a14), .v (.i .i64 a15), .cap0], .cells 31 none [.v (.s a16), .v (.i .i64 a17), .v (.i .i64 a18), .v (.i .u64 a19), .v (.i .u64 a20), .v (.sl 9 a21), .v (.b a22), .v (.i .i64 a23), .v (.sl 31 a24)], .cells 34 none [.v (.s a25), .v (.i .i64 a26), .v (.i .i64 a27), .v (.i .u64 a28), .v (.i .u64 a29), .v (.sl 9 a30), .v (.b a31), .v (.i .i64 a32), .v (.sl 34 a33)]], [] => some (a0, a1, a2, a3, a4, a5, a6, a7, a8, a9, a10, a11, a12, a13, a14, a15, a16, a17, a18, a19, a20, a21, a22, a23, a24, a25, a26, a27, a28, a29, a30, a31, a32, a33)
  | _, _, _, _, _, _, _, _ => none
 slS := fun (a0, a1, _) => [(2, .ptr 0 0), (3, .ptr 1 0), (5, .ptr 2 0), (6, .v (.i .i64 a0)), (7, .ptr 3 0), (8, .v (.i .i64 a1))]
 obS := fun (_, _, a2, a3, a4, a5, a6, a7, a8, a9, a10, a11, a12, a13, a14, a15, a16, a17, a18, a19, a20, a21, a22, a23, a24, a25, a26, a27, a28, a29, a30, a31, a32, a33) => [.cells 31 none [.v (.s a2), .v (.i .i64 a3), .v (.i .i64 a4), .v (.i .u64 a5), .v (.i .u64 a6), .cap0, .v (.b a7), .v (.i .i64 a8), .cap0], .cells 34 none [.v (.s a9), .v (.i .i64 a10), .v (.i .i64 a11), .v (.i .u64 a12), .v (.i .u64 a13), .cap0, .v (.b a14), .v (.i .i64 a15), .cap0], .cells 31 none [.v (.s a16), .v (.i .i64 a17), .v (.i .i64 a18), .v (.i .u64 a19), .v (.i .u64 a20), .v (.sl 9 a21), .v (.b a22), .v (.i .i64 a23), .v (.sl 31 a24)], .cells 34 none [.v (.s a25), .v (.i .i64 a26), .v (.i .i64 a27), .v (.i .u64 a28), .v (.i .u64 a29), .v (.sl 9 a30), .v (.b a31), .v (.i .i64 a32), .v (.sl 34 a33)]]
 dsS := fun _ => []
 dcE x env H ds := match x, env 2, env 3, env 4, H, ds with
  | .normal, .ptr 0 0, .ptr 1 0, .v (.b a0), [.cells 31 none [.v (.s a1), .v (.i .i64 a2), .v (.i .i64 a3), .v (.i .u64 a4), .v (.i .u64 a5), .v (.sl 9 a6), .v (.b a7), .v (.i .i64 a8), .v (.sl 31 a9)], .cells 34 none [.v (.s a10), .v (.i .i64 a11), .v (.i .i64 a12), .v (.i .u64 a13), .v (.i .u64 a14), .v (.sl 9 a15), .v (.b a16), .v (.i .i64 a17), .v (.sl 34 a18)]], [] => some (a0, a1, a2, a3, a4, a5, a6, a7, a8, a9, a10, a11, a12, a13, a14, a15, a16, a17, a18)
  | _, _, _, _, _, _ => none
 exE := fun _ => .normal
 slE := fun (a0, _) => [(2, .ptr 0 0), (3, .ptr 1 0), (4, .v (.b a0))]
 obE := fun (_, a1, a2, a3, a4, a5, a6, a7, a8, a9, a10, a11, a12, a13, a14, a15, a16, a17, a18) => [.cells 31 none [.v (.s a1), .v (.i .i64 a2), .v (.i .i64 a3), .v (.i .u64 a4), .v (.i .u64 a5), .v (.sl 9 a6), .v (.b a7), .v (.i .i64 a8), .v (.sl 31 a9)], .cells 34 none [.v (.s a10), .v (.i .i64 a11), .v (.i .i64 a12), .v (.i .u64 a13), .v (.i .u64 a14), .v (.sl 9 a15), .v (.b a16), .v (.i .i64 a17), .v (.sl 34 a18)]]
 dsE := fun _ => []
 goE := fun _ (a0, a1, a2, a3, a4, a5, a6, a7, a8, a9, a10, a11, a12, a13, a14, a15, a16, a17, a18) k => k .normal [(2, .ptr 0 0), (3, .ptr 1 0), (4, .v (.b a0))] [.cells 31 none [.v (.s a1), .v (.i .i64 a2), .v (.i .i64 a3), .v (.i .u64 a4), .v (.i .u64 a5), .v (.sl 9 a6), .v (.b a7), .v (.i .i64 a8), .v (.sl 31 a9)], .cells 34 none [.v (.s a10), .v (.i .i64 a11), .v (.i .i64 a12), .v (.i .u64 a13), .v (.i .u64 a14), .v (.sl 9 a15), .v (.b a16), .v (.i .i64 a17), .v (.sl 34 a18)]] []
theorem p_l08_both_0_ok : PieceOk p_l08_both_0 := by
 refine ⟨fun env H ds s h => ?_, fun x env H ds e h => ?_, fun R e k => by kernel_rfl⟩ <;> (simp only [p_l08_both_0] at h ⊢; split at h <;> first | (cases h; simp only [List.forall_mem_cons]; simp_all; done) | (cases h; done))
theorem p_l08_both_0_ct (κ : Nat) (m : Int) : CutOk Tryz.prog C (G m) Tryz.f8.ntmps 0 (pieceOf (.reg 5) (getBody Tryz.f8)) (p_l08_both_0.cut (gcN 0 [2, 3, 5, 6, 7, 8]) (fun (a0, a1, a2, a3, a4, a5, a6, a7, a8, a9, a10, a11, a12, a13, a14, a15, a16, a17, a18, a19, a20, a21, a22, a23, a24, a25, a26, a27, a28, a29, a30, a31, a32, a33) => l08_both.v0 κ a0 a1 a2 a3 a4 a5 a6 a7 a8 a9 a10 a11 a12 a13 a14 a15 a16 a17 a18 a19 a20 a21 a22 a23 a24 a25 a26 a27 a28 a29 a30 a31 a32 a33)) :=
 Piece.join p_l08_both_0_ok C_ok mixed (gam56_ok κ m) gcN_ok (xN_ok gcN_ok (ex_nil) gcN_ok gcN_ok) (cut := noCut) (X := (xN (gcN 0 [2, 3, 4]) [] (gcN 0 [2, 3, 4]) (gcN 0 [1000000]))) (cuts_by (l := []) (by kernel_rfl) (all_nil)) (fun s => by kernel_rfl)
def cc_l08_both_1 (κ : Nat) : Cut T := p_l08_both_0.cut (gcN 0 [2, 3, 5, 6, 7, 8]) (fun (a0, a1, a2, a3, a4, a5, a6, a7, a8, a9, a10, a11, a12, a13, a14, a15, a16, a17, a18, a19, a20, a21, a22, a23, a24, a25, a26, a27, a28, a29, a30, a31, a32, a33) => l08_both.v0 κ a0 a1 a2 a3 a4 a5 a6 a7 a8 a9 a10 a11 a12 a13 a14 a15 a16 a17 a18 a19 a20 a21 a22 a23 a24 a25 a26 a27 a28 a29 a30 a31 a32 a33)
theorem cc_l08_both_1_ok (κ : Nat) (m : Int) : CutOk Tryz.prog C (G m) Tryz.f8.ntmps 0 (pieceOf (.reg 5) (getBody Tryz.f8)) (cc_l08_both_1 κ) := p_l08_both_0_ct κ m
def ct_l08_both_1 (κ : Nat) : Key → Option (Cut T) := addCut noCut (.reg 5) (cc_l08_both_1 κ)
def sp_l08_both : Spec T (Int × (List ByteArray)) (ByteArray × Int × Int × Int × Int × (List ByteArray) × Bool × Int × (List SpecSpec) × ByteArray × Int × Int × Int × Int × (List ByteArray) × Bool × Int × (List Tollbarref07S) × Bool) where
 dcI a H := match a, H with
  | [(.agg [.v (.i .i64 a0), .v (.sl 9 a1)])], [] => some (a0, a1)
  | _, _ => none
 ecA := fun (a0, a1) => [(.agg [.v (.i .i64 a0), .v (.sl 9 a1)])]
 ecH := fun _ => []
 dcO o := match o with
  | .ret (.tup [(.agg [.v (.s a0), .v (.i .i64 a1), .v (.i .i64 a2), .v (.i .u64 a3), .v (.i .u64 a4), .v (.sl 9 a5), .v (.b a6), .v (.i .i64 a7), .v (.sl 31 a8)]), (.agg [.v (.s a9), .v (.i .i64 a10), .v (.i .i64 a11), .v (.i .u64 a12), .v (.i .u64 a13), .v (.sl 9 a14), .v (.b a15), .v (.i .i64 a16), .v (.sl 34 a17)]), .v (.b a18)]) [] => some (a0, a1, a2, a3, a4, a5, a6, a7, a8, a9, a10, a11, a12, a13, a14, a15, a16, a17, a18)
  | _ => none
 goO := fun _ (a0, a1, a2, a3, a4, a5, a6, a7, a8, a9, a10, a11, a12, a13, a14, a15, a16, a17, a18) k => k (.ret (.tup [(.agg [.v (.s a0), .v (.i .i64 a1), .v (.i .i64 a2), .v (.i .u64 a3), .v (.i .u64 a4), .v (.sl 9 a5), .v (.b a6), .v (.i .i64 a7), .v (.sl 31 a8)]), (.agg [.v (.s a9), .v (.i .i64 a10), .v (.i .i64 a11), .v (.i .u64 a12), .v (.i .u64 a13), .v (.sl 9 a14), .v (.b a15), .v (.i .i64 a16), .v (.sl 34 a17)]), .v (.b a18)]) [])
 ecO := fun (a0, a1, a2, a3, a4, a5, a6, a7, a8, a9, a10, a11, a12, a13, a14, a15, a16, a17, a18) => .ret (.tup [(.agg [.v (.s a0), .v (.i .i64 a1), .v (.i .i64 a2), .v (.i .u64 a3), .v (.i .u64 a4), .v (.sl 9 a5), .v (.b a6), .v (.i .i64 a7), .v (.sl 31 a8)]), (.agg [.v (.s a9), .v (.i .i64 a10), .v (.i .i64 a11), .v (.i .u64 a12), .v (.i .u64 a13), .v (.sl 9 a14), .v (.b a15), .v (.i .i64 a16), .v (.sl 34 a17)]), .v (.b a18)]) []
theorem sp_l08_both_ok : SpecOk sp_l08_both := by
 refine ⟨fun a H i h => ?_, fun o x h => ?_, fun R e k => by kernel_rfl⟩ <;> (simp only [sp_l08_both] at h ⊢; split at h <;> first | (cases h; exact ⟨rfl, rfl⟩) | (cases h; rfl) | (cases h; done))
theorem ok_l08_both (κ : Nat) (m : Int) : EOk Tryz.prog C (G m) 8 (sp_l08_both.entry (fun (a0, a1) => l08_both κ a0 a1)) :=
 Spec.ok sp_l08_both_ok C_ok mixed (gam56_ok κ m) (cut := (ct_l08_both_1 κ)) (NR := (andN (slS 0 [0, 5] 9) (andN (slS 0 [0, 8] 31) (andN (slS 0 [1, 5] 9) (andN (slS 0 [1, 8] 34) (gcN 0 [0])))))) (NP := (gcN 0 [0])) (nB := 0) Tryz.func8 (c := (getBody Tryz.f8)) (by kernel_rfl) (by kernel_rfl) (fun i => by kernel_rfl) (andN_ok (slS_ok C_ok) (andN_ok (slS_ok C_ok) (andN_ok (slS_ok C_ok) (andN_ok (slS_ok C_ok) gcN_ok)))) gcN_ok (cuts_by (l := [(pieceOf (.reg 5) (getBody Tryz.f8), cc_l08_both_1 κ)]) (by kernel_rfl) (all_cons (cc_l08_both_1_ok κ m) (all_nil))) (fun i => by kernel_rfl)
noncomputable def gam57 (κ : Nat) : Gam T := (gam56 κ).addS 8 sp_l08_both (fun (a0, a1) => l08_both κ a0 a1)
theorem gam57_ok (κ : Nat) (m : Int) : GOk Tryz.prog C (G m) (gam57 κ) := (gam56_ok κ m).addS (ok_l08_both κ m)
def p_l08_ValueBounds_0 : Piece T (Int × Bool × ByteArray × Int × Int × Int × Int × (List ByteArray) × Bool × Int × (List SpecSpec)) (Int × Bool × ByteArray × Int × Int × Int × Int × (List ByteArray) × Bool × Int × (List SpecSpec)) where
 dcS env H ds := match env 1, env 6, env 8, H, ds with
  | .v (.i .u64 a0), .ptr 0 0, .v (.b a1), [.cells 31 none [.v (.s a2), .v (.i .i64 a3), .v (.i .i64 a4), .v (.i .u64 a5), .v (.i .u64 a6), .v (.sl 9 a7), .v (.b a8), .v (.i .i64 a9), .v (.sl 31 a10)]], [] => some (a0, a1, a2, a3, a4, a5, a6, a7, a8, a9, a10)
  | _, _, _, _, _ => none
 slS := fun (a0, a1, _) => [(1, .v (.i .u64 a0)), (6, .ptr 0 0), (8, .v (.b a1))]
 obS := fun (_, _, a2, a3, a4, a5, a6, a7, a8, a9, a10) => [.cells 31 none [.v (.s a2), .v (.i .i64 a3), .v (.i .i64 a4), .v (.i .u64 a5), .v (.i .u64 a6), .v (.sl 9 a7), .v (.b a8), .v (.i .i64 a9), .v (.sl 31 a10)]]
 dsS := fun _ => []
 dcE x env H ds := match x, env 1, env 6, env 38, H, ds with
  | .normal, .v (.i .u64 a0), .ptr 0 0, .v (.b a1), [.cells 31 none [.v (.s a2), .v (.i .i64 a3), .v (.i .i64 a4), .v (.i .u64 a5), .v (.i .u64 a6), .v (.sl 9 a7), .v (.b a8), .v (.i .i64 a9), .v (.sl 31 a10)]], [] => some (a0, a1, a2, a3, a4, a5, a6, a7, a8, a9, a10)
  | _, _, _, _, _, _ => none
 exE := fun _ => .normal
 slE := fun (a0, a1, _) => [(1, .v (.i .u64 a0)), (6, .ptr 0 0), (38, .v (.b a1))]
 obE := fun (_, _, a2, a3, a4, a5, a6, a7, a8, a9, a10) => [.cells 31 none [.v (.s a2), .v (.i .i64 a3), .v (.i .i64 a4), .v (.i .u64 a5), .v (.i .u64 a6), .v (.sl 9 a7), .v (.b a8), .v (.i .i64 a9), .v (.sl 31 a10)]]
 dsE := fun _ => []
 goE := fun _ (a0, a1, a2, a3, a4, a5, a6, a7, a8, a9, a10) k => k .normal [(1, .v (.i .u64 a0)), (6, .ptr 0 0), (38, .v (.b a1))] [.cells 31 none [.v (.s a2), .v (.i .i64 a3), .v (.i .i64 a4), .v (.i .u64 a5), .v (.i .u64 a6), .v (.sl 9 a7), .v (.b a8), .v (.i .i64 a9), .v (.sl 31 a10)]] []
theorem p_l08_ValueBounds_0_ok : PieceOk p_l08_ValueBounds_0 := by
 refine ⟨fun env H ds s h => ?_, fun x env H ds e h => ?_, fun R e k => by kernel_rfl⟩ <;> (simp only [p_l08_ValueBounds_0] at h ⊢; split at h <;> first | (cases h; simp only [List.forall_mem_cons]; simp_all; done) | (cases h; done))
theorem p_l08_ValueBounds_0_ct (κ : Nat) (m : Int) : CutOk Tryz.prog C (G m) Tryz.f5.ntmps 0 (pieceOf (.reg 5) (getBody Tryz.f5)) (p_l08_ValueBounds_0.cut (gcN 0 [1, 6, 8]) (fun (a0, a1, a2, a3, a4, a5, a6, a7, a8, a9, a10) => l08_ValueBounds.v0 κ a0 a1 a2 a3 a4 a5 a6 a7 a8 a9 a10)) :=
 Piece.join p_l08_ValueBounds_0_ok C_ok mixed (gam57_ok κ m) gcN_ok (xN_ok gcN_ok (ex_nil) gcN_ok gcN_ok) (cut := noCut) (X := (xN (gcN 0 [1, 6, 38]) [] (gcN 0 [4]) (gcN 0 [1000000]))) (cuts_by (l := []) (by kernel_rfl) (all_nil)) (fun s => by kernel_rfl)
def cc_l08_ValueBounds_1 (κ : Nat) : Cut T := p_l08_ValueBounds_0.cut (gcN 0 [1, 6, 8]) (fun (a0, a1, a2, a3, a4, a5, a6, a7, a8, a9, a10) => l08_ValueBounds.v0 κ a0 a1 a2 a3 a4 a5 a6 a7 a8 a9 a10)
theorem cc_l08_ValueBounds_1_ok (κ : Nat) (m : Int) : CutOk Tryz.prog C (G m) Tryz.f5.ntmps 0 (pieceOf (.reg 5) (getBody Tryz.f5)) (cc_l08_ValueBounds_1 κ) := p_l08_ValueBounds_0_ct κ m
def ct_l08_ValueBounds_1 (κ : Nat) : Key → Option (Cut T) := addCut noCut (.reg 5) (cc_l08_ValueBounds_1 κ)
def p_l08_ValueBounds_2 : Piece T (Int × ByteArray × Int × Int × Int × Int × (List ByteArray) × Bool × Int × (List SpecSpec)) (Int × Bool × ByteArray × Int × Int × Int × Int × (List ByteArray) × Bool × Int × (List SpecSpec)) where
 dcS env H ds := match env 1, env 6, H, ds with
  | .v (.i .u64 a0), .ptr 0 0, [.cells 31 none [.v (.s a1), .v (.i .i64 a2), .v (.i .i64 a3), .v (.i .u64 a4), .v (.i .u64 a5), .v (.sl 9 a6), .v (.b a7), .v (.i .i64 a8), .v (.sl 31 a9)]], [] => some (a0, a1, a2, a3, a4, a5, a6, a7, a8, a9)
  | _, _, _, _ => none
 slS := fun (a0, _) => [(1, .v (.i .u64 a0)), (6, .ptr 0 0)]
 obS := fun (_, a1, a2, a3, a4, a5, a6, a7, a8, a9) => [.cells 31 none [.v (.s a1), .v (.i .i64 a2), .v (.i .i64 a3), .v (.i .u64 a4), .v (.i .u64 a5), .v (.sl 9 a6), .v (.b a7), .v (.i .i64 a8), .v (.sl 31 a9)]]
 dsS := fun _ => []
 dcE x env H ds := match x, env 1, env 6, env 9, H, ds with
  | .normal, .v (.i .u64 a0), .ptr 0 0, .v (.b a1), [.cells 31 none [.v (.s a2), .v (.i .i64 a3), .v (.i .i64 a4), .v (.i .u64 a5), .v (.i .u64 a6), .v (.sl 9 a7), .v (.b a8), .v (.i .i64 a9), .v (.sl 31 a10)]], [] => some (a0, a1, a2, a3, a4, a5, a6, a7, a8, a9, a10)
  | _, _, _, _, _, _ => none
 exE := fun _ => .normal
 slE := fun (a0, a1, _) => [(1, .v (.i .u64 a0)), (6, .ptr 0 0), (9, .v (.b a1))]
 obE := fun (_, _, a2, a3, a4, a5, a6, a7, a8, a9, a10) => [.cells 31 none [.v (.s a2), .v (.i .i64 a3), .v (.i .i64 a4), .v (.i .u64 a5), .v (.i .u64 a6), .v (.sl 9 a7), .v (.b a8), .v (.i .i64 a9), .v (.sl 31 a10)]]
 dsE := fun _ => []
 goE := fun _ (a0, a1, a2, a3, a4, a5, a6, a7, a8, a9, a10) k => k .normal [(1, .v (.i .u64 a0)), (6, .ptr 0 0), (9, .v (.b a1))] [.cells 31 none [.v (.s a2), .v (.i .i64 a3), .v (.i .i64 a4), .v (.i .u64 a5), .v (.i .u64 a6), .v (.sl 9 a7), .v (.b a8), .v (.i .i64 a9), .v (.sl 31 a10)]] []
theorem p_l08_ValueBounds_2_ok : PieceOk p_l08_ValueBounds_2 := by
 refine ⟨fun env H ds s h => ?_, fun x env H ds e h => ?_, fun R e k => by kernel_rfl⟩ <;> (simp only [p_l08_ValueBounds_2] at h ⊢; split at h <;> first | (cases h; simp only [List.forall_mem_cons]; simp_all; done) | (cases h; done))
theorem p_l08_ValueBounds_2_ct (κ : Nat) (m : Int) : CutOk Tryz.prog C (G m) Tryz.f5.ntmps 0 (pieceOf (.reg 7) (getBody Tryz.f5)) (p_l08_ValueBounds_2.cut (gcN 0 [1, 6]) (fun (a0, a1, a2, a3, a4, a5, a6, a7, a8, a9) => l08_ValueBounds.v2 κ a0 a1 a2 a3 a4 a5 a6 a7 a8 a9)) :=
 Piece.join p_l08_ValueBounds_2_ok C_ok mixed (gam57_ok κ m) gcN_ok (xN_ok gcN_ok (ex_nil) gcN_ok gcN_ok) (cut := (ct_l08_ValueBounds_1 κ)) (X := (xN (gcN 0 [1, 6, 9]) [] (gcN 0 [4]) (gcN 0 [1000000]))) (cuts_by (l := []) (by kernel_rfl) (all_nil)) (fun s => by kernel_rfl)
def cc_l08_ValueBounds_3 (κ : Nat) : Cut T := p_l08_ValueBounds_2.cut (gcN 0 [1, 6]) (fun (a0, a1, a2, a3, a4, a5, a6, a7, a8, a9) => l08_ValueBounds.v2 κ a0 a1 a2 a3 a4 a5 a6 a7 a8 a9)
theorem cc_l08_ValueBounds_3_ok (κ : Nat) (m : Int) : CutOk Tryz.prog C (G m) Tryz.f5.ntmps 0 (pieceOf (.reg 7) (getBody Tryz.f5)) (cc_l08_ValueBounds_3 κ) := p_l08_ValueBounds_2_ct κ m
def ct_l08_ValueBounds_3 (κ : Nat) : Key → Option (Cut T) := addCut (ct_l08_ValueBounds_1 κ) (.reg 7) (cc_l08_ValueBounds_3 κ)
def p_l08_ValueBounds_4 : Piece T (Int × Bool × Bool × Bool × Bool × ByteArray × Int × Int × Int × Int × (List ByteArray) × Bool × Int × (List SpecSpec)) (Bool) where
 dcS env H ds := match env 1, env 6, env 9, env 10, env 11, env 12, H, ds with
  | .v (.i .u64 a0), .ptr 0 0, .v (.b a1), .v (.b a2), .v (.b a3), .v (.b a4), [.cells 31 none [.v (.s a5), .v (.i .i64 a6), .v (.i .i64 a7), .v (.i .u64 a8), .v (.i .u64 a9), .v (.sl 9 a10), .v (.b a11), .v (.i .i64 a12), .v (.sl 31 a13)]], [] => some (a0, a1, a2, a3, a4, a5, a6, a7, a8, a9, a10, a11, a12, a13)
  | _, _, _, _, _, _, _, _ => none
 slS := fun (a0, a1, a2, a3, a4, _) => [(1, .v (.i .u64 a0)), (6, .ptr 0 0), (9, .v (.b a1)), (10, .v (.b a2)), (11, .v (.b a3)), (12, .v (.b a4))]
 obS := fun (_, _, _, _, _, a5, a6, a7, a8, a9, a10, a11, a12, a13) => [.cells 31 none [.v (.s a5), .v (.i .i64 a6), .v (.i .i64 a7), .v (.i .u64 a8), .v (.i .u64 a9), .v (.sl 9 a10), .v (.b a11), .v (.i .i64 a12), .v (.sl 31 a13)]]
 dsS := fun _ => []
 dcE x env H ds := match x, env 4, H, ds with
  | .normal, .v (.b a0), [], [] => some a0
  | _, _, _, _ => none
 exE := fun a0 => .normal
 slE := fun a0 => [(4, .v (.b a0))]
 obE := fun a0 => []
 dsE := fun a0 => []
 goE := fun _ a0 k => k .normal [(4, .v (.b a0))] [] []
theorem p_l08_ValueBounds_4_ok : PieceOk p_l08_ValueBounds_4 := by
 refine ⟨fun env H ds s h => ?_, fun x env H ds e h => ?_, fun R e k => by kernel_rfl⟩ <;> (simp only [p_l08_ValueBounds_4] at h ⊢; split at h <;> first | (cases h; simp only [List.forall_mem_cons]; simp_all; done) | (cases h; done))
theorem p_l08_ValueBounds_4_ct (κ : Nat) (m : Int) : CutOk Tryz.prog C (G m) Tryz.f5.ntmps 0 (pieceOf (.reg 11) (getBody Tryz.f5)) (p_l08_ValueBounds_4.cut (gcN 0 [1, 6, 9, 10, 11, 12]) (fun (a0, a1, a2, a3, a4, a5, a6, a7, a8, a9, a10, a11, a12, a13) => l08_ValueBounds.v4 κ a0 a1 a2 a3 a4 a5 a6 a7 a8 a9 a10 a11 a12 a13)) :=
 Piece.join p_l08_ValueBounds_4_ok C_ok mixed (gam57_ok κ m) gcN_ok (xN_ok gcN_ok (ex_nil) gcN_ok gcN_ok) (cut := (ct_l08_ValueBounds_3 κ)) (X := (xN (gcN 0 [4]) [] (gcN 0 [4]) (gcN 0 [1000000]))) (cuts_by (l := []) (by kernel_rfl) (all_nil)) (fun s => by kernel_rfl)
def cc_l08_ValueBounds_5 (κ : Nat) : Cut T := p_l08_ValueBounds_4.cut (gcN 0 [1, 6, 9, 10, 11, 12]) (fun (a0, a1, a2, a3, a4, a5, a6, a7, a8, a9, a10, a11, a12, a13) => l08_ValueBounds.v4 κ a0 a1 a2 a3 a4 a5 a6 a7 a8 a9 a10 a11 a12 a13)
theorem cc_l08_ValueBounds_5_ok (κ : Nat) (m : Int) : CutOk Tryz.prog C (G m) Tryz.f5.ntmps 0 (pieceOf (.reg 11) (getBody Tryz.f5)) (cc_l08_ValueBounds_5 κ) := p_l08_ValueBounds_4_ct κ m
def ct_l08_ValueBounds_5 (κ : Nat) : Key → Option (Cut T) := addCut (ct_l08_ValueBounds_3 κ) (.reg 11) (cc_l08_ValueBounds_5 κ)
def sp_l08_ValueBounds : Spec T (Int × (List ByteArray) × Int) (Bool) where
 dcI a H := match a, H with
  | [(.agg [.v (.i .i64 a0), .v (.sl 9 a1)]), .v (.i .u64 a2)], [] => some (a0, a1, a2)
  | _, _ => none
 ecA := fun (a0, a1, a2) => [(.agg [.v (.i .i64 a0), .v (.sl 9 a1)]), .v (.i .u64 a2)]
 ecH := fun _ => []
 dcO o := match o with
  | .ret (.v (.b a0)) [] => some a0
  | _ => none
 goO := fun _ a0 k => k (.ret (.v (.b a0)) [])
 ecO := fun a0 => .ret (.v (.b a0)) []
theorem sp_l08_ValueBounds_ok : SpecOk sp_l08_ValueBounds := by
 refine ⟨fun a H i h => ?_, fun o x h => ?_, fun R e k => by kernel_rfl⟩ <;> (simp only [sp_l08_ValueBounds] at h ⊢; split at h <;> first | (cases h; exact ⟨rfl, rfl⟩) | (cases h; rfl) | (cases h; done))
theorem ok_l08_ValueBounds (κ : Nat) (m : Int) : EOk Tryz.prog C (G m) 5 (sp_l08_ValueBounds.entry (fun (a0, a1, a2) => l08_ValueBounds κ a0 a1 a2)) :=
 Spec.ok sp_l08_ValueBounds_ok C_ok mixed (gam57_ok κ m) (cut := (ct_l08_ValueBounds_5 κ)) (NR := (gcN 0 [0])) (NP := (gcN 0 [0])) (nB := 0) Tryz.func5 (c := (getBody Tryz.f5)) (by kernel_rfl) (by kernel_rfl) (fun i => by kernel_rfl) gcN_ok gcN_ok (cuts_by (l := [(pieceOf (.reg 5) (getBody Tryz.f5), cc_l08_ValueBounds_1 κ), (pieceOf (.reg 7) (getBody Tryz.f5), cc_l08_ValueBounds_3 κ), (pieceOf (.reg 11) (getBody Tryz.f5), cc_l08_ValueBounds_5 κ)]) (by kernel_rfl) (all_cons (cc_l08_ValueBounds_1_ok κ m) (all_cons (cc_l08_ValueBounds_3_ok κ m) (all_cons (cc_l08_ValueBounds_5_ok κ m) (all_nil))))) (fun i => by kernel_rfl)
noncomputable def gam58 (κ : Nat) : Gam T := (gam57 κ).addS 5 sp_l08_ValueBounds (fun (a0, a1, a2) => l08_ValueBounds κ a0 a1 a2)
theorem gam58_ok (κ : Nat) (m : Int) : GOk Tryz.prog C (G m) (gam58 κ) := (gam57_ok κ m).addS (ok_l08_ValueBounds κ m)
end Go.Proofs.YthmohmmbhjpbcaaGreatDoor.Ev.Seat
