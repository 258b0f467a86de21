import Derived.Test.YtfoeekaanngoiaaDoorEvKnownOne
set_option linter.unusedVariables false
set_option linter.unusedSimpArgs false
namespace Go.Proofs.YtfoeekaanngoiaaDoor.Ev.Seat
open Go Ev Go.Proofs
theorem p_tollbarlaw05_awake_2_ct (κ : Nat) (m : Int) : CutOk Tryd.prog C (G m) Tryd.f8.ntmps 0 (pieceOf (.reg 5) (getBody Tryd.f8)) (p_tollbarlaw05_awake_2.cut (gcN 0 [1]) (fun a0 => tollbarlaw05_awake.v2 κ a0)) :=
  Piece.join p_tollbarlaw05_awake_2_ok C_ok mixed (gam27_ok κ m) gcN_ok (xN_ok gcN_ok (ex_nil) gcN_ok gcN_ok) (cut := (ct_tollbarlaw05_awake_1 κ)) (X := (xN (gcN 0 [0]) [] (gcN 0 [0]) (gcN 0 [1000000]))) (cuts_by (l := []) (by kernel_rfl) (all_nil)) (fun s => by kernel_rfl)
def cc_tollbarlaw05_awake_3 (κ : Nat) : Cut T := p_tollbarlaw05_awake_2.cut (gcN 0 [1]) (fun a0 => tollbarlaw05_awake.v2 κ a0)
theorem cc_tollbarlaw05_awake_3_ok (κ : Nat) (m : Int) : CutOk Tryd.prog C (G m) Tryd.f8.ntmps 0 (pieceOf (.reg 5) (getBody Tryd.f8)) (cc_tollbarlaw05_awake_3 κ) := p_tollbarlaw05_awake_2_ct κ m
def ct_tollbarlaw05_awake_3 (κ : Nat) : Key → Option (Cut T) := addCut (ct_tollbarlaw05_awake_1 κ) (.reg 5) (cc_tollbarlaw05_awake_3 κ)
def sp_tollbarlaw05_awake : Spec T (Unit) (Bool) where
  dcI a H := match a, H with
    | [], [] => some ()
    | _, _ => none
  ecA := fun _ => []
  ecH := fun _ => []
  dcO o := match o with
    | .ret (.v (.b a0)) [] => some a0
    | _ => none
  goO := fun _ a0 k => k (.ret (.v (.b a0)) [])
  ecO := fun a0 => .ret (.v (.b a0)) []
theorem sp_tollbarlaw05_awake_ok : SpecOk sp_tollbarlaw05_awake := by
  refine ⟨fun a H i h => ?_, fun o x h => ?_, fun R e k => by kernel_rfl⟩
  · simp only [sp_tollbarlaw05_awake] at h ⊢; split at h <;> first | (cases h; exact ⟨rfl, rfl⟩) | (cases h; done)
  · simp only [sp_tollbarlaw05_awake] at h ⊢; split at h <;> first | (cases h; rfl) | (cases h; done)
theorem ok_tollbarlaw05_awake (κ : Nat) (m : Int) : EOk Tryd.prog C (G m) 8 (sp_tollbarlaw05_awake.entry (fun _ => tollbarlaw05_awake κ )) :=
  Spec.ok sp_tollbarlaw05_awake_ok C_ok mixed (gam27_ok κ m) (cut := (ct_tollbarlaw05_awake_3 κ)) (NR := (gcN 0 [0])) (NP := (gcN 0 [0])) (nB := 0) Tryd.func8 (c := (getBody Tryd.f8)) (by kernel_rfl) (by kernel_rfl) (fun i => by kernel_rfl) gcN_ok gcN_ok (cuts_by (l := [(pieceOf (.reg 3) (getBody Tryd.f8), cc_tollbarlaw05_awake_1 κ), (pieceOf (.reg 5) (getBody Tryd.f8), cc_tollbarlaw05_awake_3 κ)]) (by kernel_rfl) (all_cons (cc_tollbarlaw05_awake_1_ok κ m) (all_cons (cc_tollbarlaw05_awake_3_ok κ m) (all_nil)))) (fun i => by kernel_rfl)
noncomputable def gam28 (κ : Nat) : Gam T := (gam27 κ).addS 8 sp_tollbarlaw05_awake (fun _ => tollbarlaw05_awake κ )
theorem gam28_ok (κ : Nat) (m : Int) : GOk Tryd.prog C (G m) (gam28 κ) := (gam27_ok κ m).addS (ok_tollbarlaw05_awake κ m)
def sp_tollbarref05_size : Spec T (Int) (Int) where
  dcI a H := match a, H with
    | [(.v (.i .i32 a0))], [] => some a0
    | _, _ => none
  ecA := fun a0 => [(.v (.i .i32 a0))]
  ecH := fun a0 => []
  dcO o := match o with
    | .ret (.v (.i .i64 a0)) [] => some a0
    | _ => none
  goO := fun _ a0 k => k (.ret (.v (.i .i64 a0)) [])
  ecO := fun a0 => .ret (.v (.i .i64 a0)) []
theorem sp_tollbarref05_size_ok : SpecOk sp_tollbarref05_size := by
  refine ⟨fun a H i h => ?_, fun o x h => ?_, fun R e k => by kernel_rfl⟩
  · simp only [sp_tollbarref05_size] at h ⊢; split at h <;> first | (cases h; exact ⟨rfl, rfl⟩) | (cases h; done)
  · simp only [sp_tollbarref05_size] at h ⊢; split at h <;> first | (cases h; rfl) | (cases h; done)
theorem ok_tollbarref05_size (κ : Nat) (m : Int) : EOk Tryd.prog C (G m) 36 (sp_tollbarref05_size.entry (fun a0 => tollbarref05_size κ a0)) :=
  Spec.ok sp_tollbarref05_size_ok C_ok mixed (gam28_ok κ m) (cut := noCut) (NR := (gcN 0 [0])) (NP := (gcN 0 [0])) (nB := 0) Tryd.func36 (c := (getBody Tryd.f36)) (by kernel_rfl) (by kernel_rfl) (fun i => by kernel_rfl) gcN_ok gcN_ok (cuts_by (l := []) (by kernel_rfl) (all_nil)) (fun i => by kernel_rfl)
noncomputable def gam29 (κ : Nat) : Gam T := (gam28 κ).addS 36 sp_tollbarref05_size (fun a0 => tollbarref05_size κ a0)
theorem gam29_ok (κ : Nat) (m : Int) : GOk Tryd.prog C (G m) (gam29 κ) := (gam28_ok κ m).addS (ok_tollbarref05_size κ m)
def p_tollbarref05_Signs_18 : Piece T (ByteArray × Int × Int × Int × Int × Int × (List Tollbarref05S) × ByteArray × Nat) (ByteArray × Int × Int × Int × Int × Int × Bool × (List Tollbarref05S) × ByteArray × Nat) where
  dcS env H ds := match env 0, env 3, env 4, env 5, env 6, env 7, env 8, env 11, H, ds with
    | (.v (.s a0)), (.own 0), (.v (.i .i64 a1)), (.v (.i .i64 a2)), (.v (.i .i64 a3)), (.v (.i .i32 a4)), (.v (.i .i64 a5)), (.ptr 1 0), [(.row 50 a6 true), (.siter a7 a8)], [] => some (a0, a1, a2, a3, a4, a5, a6, a7, a8)
    | _, _, _, _, _, _, _, _, _, _ => none
  slS := fun (a0, a1, a2, a3, a4, a5, a6, a7, a8) => [(0, (.v (.s a0))), (3, (.own 0)), (4, (.v (.i .i64 a1))), (5, (.v (.i .i64 a2))), (6, (.v (.i .i64 a3))), (7, (.v (.i .i32 a4))), (8, (.v (.i .i64 a5))), (11, (.ptr 1 0))]
  obS := fun (a0, a1, a2, a3, a4, a5, a6, a7, a8) => [(.row 50 a6 true), (.siter a7 a8)]
  dsS := fun (a0, a1, a2, a3, a4, a5, a6, a7, a8) => []
  dcE x env H ds := match x, env 0, env 3, env 4, env 5, env 6, env 7, env 8, env 9, env 11, H, ds with
    | .normal, (.v (.s a0)), (.own 0), (.v (.i .i64 a1)), (.v (.i .i64 a2)), (.v (.i .i64 a3)), (.v (.i .i32 a4)), (.v (.i .i64 a5)), (.v (.b a6)), (.ptr 1 0), [(.row 50 a7 true), (.siter a8 a9)], [] => some (a0, a1, a2, a3, a4, a5, a6, a7, a8, a9)
    | _, _, _, _, _, _, _, _, _, _, _, _ => none
  exE := fun (a0, a1, a2, a3, a4, a5, a6, a7, a8, a9) => .normal
  slE := fun (a0, a1, a2, a3, a4, a5, a6, a7, a8, a9) => [(0, (.v (.s a0))), (3, (.own 0)), (4, (.v (.i .i64 a1))), (5, (.v (.i .i64 a2))), (6, (.v (.i .i64 a3))), (7, (.v (.i .i32 a4))), (8, (.v (.i .i64 a5))), (9, (.v (.b a6))), (11, (.ptr 1 0))]
  obE := fun (a0, a1, a2, a3, a4, a5, a6, a7, a8, a9) => [(.row 50 a7 true), (.siter a8 a9)]
  dsE := fun (a0, a1, a2, a3, a4, a5, a6, a7, a8, a9) => []
  goE := fun _ (a0, a1, a2, a3, a4, a5, a6, a7, a8, a9) k => k .normal [(0, (.v (.s a0))), (3, (.own 0)), (4, (.v (.i .i64 a1))), (5, (.v (.i .i64 a2))), (6, (.v (.i .i64 a3))), (7, (.v (.i .i32 a4))), (8, (.v (.i .i64 a5))), (9, (.v (.b a6))), (11, (.ptr 1 0))] [(.row 50 a7 true), (.siter a8 a9)] []
theorem p_tollbarref05_Signs_18_ok : PieceOk p_tollbarref05_Signs_18 := by
  refine ⟨fun env H ds s h => ?_, fun x env H ds e h => ?_, fun R e k => by kernel_rfl⟩
  · simp only [p_tollbarref05_Signs_18] at h ⊢; split at h <;> first | (cases h; simp only [List.forall_mem_cons]; simp_all; done) | (cases h; done)
  · simp only [p_tollbarref05_Signs_18] at h ⊢; split at h <;> first | (cases h; simp only [List.forall_mem_cons]; simp_all; done) | (cases h; done)
theorem p_tollbarref05_Signs_18_ct (κ : Nat) (m : Int) : CutOk Tryd.prog C (G m) Tryd.f19.ntmps 0 (pieceOf (.reg 8) (getBody Tryd.f19)) (p_tollbarref05_Signs_18.cut (gcN 0 [0, 3, 4, 5, 6, 7, 8, 11]) (fun (a0, a1, a2, a3, a4, a5, a6, a7, a8) => tollbarref05_Signs.v18 κ a0 a1 a2 a3 a4 a5 a6 a7 a8)) :=
  Piece.join p_tollbarref05_Signs_18_ok C_ok mixed (gam29_ok κ m) gcN_ok (xN_ok gcN_ok (ex_cons gcN_ok (ex_cons gcN_ok (ex_nil))) gcN_ok gcN_ok) (cut := noCut) (X := (xN (gcN 0 [0, 3, 4, 5, 6, 7, 8, 9, 11]) [(1, (gcN 0 [0, 3, 4, 5, 11])), (0, (gcN 0 [3, 4, 5]))] (gcN 0 [2]) (gcN 0 [1000000]))) (cuts_by (l := []) (by kernel_rfl) (all_nil)) (fun s => by kernel_rfl)
def cc_tollbarref05_Signs_19 (κ : Nat) : Cut T := p_tollbarref05_Signs_18.cut (gcN 0 [0, 3, 4, 5, 6, 7, 8, 11]) (fun (a0, a1, a2, a3, a4, a5, a6, a7, a8) => tollbarref05_Signs.v18 κ a0 a1 a2 a3 a4 a5 a6 a7 a8)
theorem cc_tollbarref05_Signs_19_ok (κ : Nat) (m : Int) : CutOk Tryd.prog C (G m) Tryd.f19.ntmps 0 (pieceOf (.reg 8) (getBody Tryd.f19)) (cc_tollbarref05_Signs_19 κ) := p_tollbarref05_Signs_18_ct κ m
def ct_tollbarref05_Signs_19 (κ : Nat) : Key → Option (Cut T) := addCut noCut (.reg 8) (cc_tollbarref05_Signs_19 κ)
def p_tollbarref05_Signs_20 : Piece T (ByteArray × Int × Int × Int × Int × Int × Bool × Bool × (List Tollbarref05S) × ByteArray × Nat) (ByteArray × Int × Int × Int × Int × Int × Bool × (List Tollbarref05S) × ByteArray × Nat) where
  dcS env H ds := match env 0, env 3, env 4, env 5, env 6, env 7, env 8, env 9, env 11, env 36, H, ds with
    | (.v (.s a0)), (.own 0), (.v (.i .i64 a1)), (.v (.i .i64 a2)), (.v (.i .i64 a3)), (.v (.i .i32 a4)), (.v (.i .i64 a5)), (.v (.b a6)), (.ptr 1 0), (.v (.b a7)), [(.row 50 a8 true), (.siter a9 a10)], [] => some (a0, a1, a2, a3, a4, a5, a6, a7, a8, a9, a10)
    | _, _, _, _, _, _, _, _, _, _, _, _ => none
  slS := fun (a0, a1, a2, a3, a4, a5, a6, a7, a8, a9, a10) => [(0, (.v (.s a0))), (3, (.own 0)), (4, (.v (.i .i64 a1))), (5, (.v (.i .i64 a2))), (6, (.v (.i .i64 a3))), (7, (.v (.i .i32 a4))), (8, (.v (.i .i64 a5))), (9, (.v (.b a6))), (11, (.ptr 1 0)), (36, (.v (.b a7)))]
  obS := fun (a0, a1, a2, a3, a4, a5, a6, a7, a8, a9, a10) => [(.row 50 a8 true), (.siter a9 a10)]
  dsS := fun (a0, a1, a2, a3, a4, a5, a6, a7, a8, a9, a10) => []
  dcE x env H ds := match x, env 0, env 3, env 4, env 5, env 6, env 7, env 8, env 9, env 11, H, ds with
    | .normal, (.v (.s a0)), (.own 0), (.v (.i .i64 a1)), (.v (.i .i64 a2)), (.v (.i .i64 a3)), (.v (.i .i32 a4)), (.v (.i .i64 a5)), (.v (.b a6)), (.ptr 1 0), [(.row 50 a7 true), (.siter a8 a9)], [] => some (a0, a1, a2, a3, a4, a5, a6, a7, a8, a9)
    | _, _, _, _, _, _, _, _, _, _, _, _ => none
  exE := fun (a0, a1, a2, a3, a4, a5, a6, a7, a8, a9) => .normal
  slE := fun (a0, a1, a2, a3, a4, a5, a6, a7, a8, a9) => [(0, (.v (.s a0))), (3, (.own 0)), (4, (.v (.i .i64 a1))), (5, (.v (.i .i64 a2))), (6, (.v (.i .i64 a3))), (7, (.v (.i .i32 a4))), (8, (.v (.i .i64 a5))), (9, (.v (.b a6))), (11, (.ptr 1 0))]
  obE := fun (a0, a1, a2, a3, a4, a5, a6, a7, a8, a9) => [(.row 50 a7 true), (.siter a8 a9)]
  dsE := fun (a0, a1, a2, a3, a4, a5, a6, a7, a8, a9) => []
  goE := fun _ (a0, a1, a2, a3, a4, a5, a6, a7, a8, a9) k => k .normal [(0, (.v (.s a0))), (3, (.own 0)), (4, (.v (.i .i64 a1))), (5, (.v (.i .i64 a2))), (6, (.v (.i .i64 a3))), (7, (.v (.i .i32 a4))), (8, (.v (.i .i64 a5))), (9, (.v (.b a6))), (11, (.ptr 1 0))] [(.row 50 a7 true), (.siter a8 a9)] []
theorem p_tollbarref05_Signs_20_ok : PieceOk p_tollbarref05_Signs_20 := by
  refine ⟨fun env H ds s h => ?_, fun x env H ds e h => ?_, fun R e k => by kernel_rfl⟩
  · simp only [p_tollbarref05_Signs_20] at h ⊢; split at h <;> first | (cases h; simp only [List.forall_mem_cons]; simp_all; done) | (cases h; done)
  · simp only [p_tollbarref05_Signs_20] at h ⊢; split at h <;> first | (cases h; simp only [List.forall_mem_cons]; simp_all; done) | (cases h; done)
theorem p_tollbarref05_Signs_20_ct (κ : Nat) (m : Int) : CutOk Tryd.prog C (G m) Tryd.f19.ntmps 0 (pieceOf (.cnd 36 11) (getBody Tryd.f19)) (p_tollbarref05_Signs_20.cut (gcN 0 [0, 3, 4, 5, 6, 7, 8, 9, 11, 36]) (fun (a0, a1, a2, a3, a4, a5, a6, a7, a8, a9, a10) => tollbarref05_Signs.v20 κ a0 a1 a2 a3 a4 a5 a6 a7 a8 a9 a10)) :=
  Piece.join p_tollbarref05_Signs_20_ok C_ok mixed (gam29_ok κ m) gcN_ok (xN_ok gcN_ok (ex_cons gcN_ok (ex_cons gcN_ok (ex_nil))) gcN_ok gcN_ok) (cut := (ct_tollbarref05_Signs_19 κ)) (X := (xN (gcN 0 [0, 3, 4, 5, 6, 7, 8, 9, 11]) [(1, (gcN 0 [0, 3, 4, 5, 11])), (0, (gcN 0 [3, 4, 5]))] (gcN 0 [2]) (gcN 0 [1000000]))) (cuts_by (l := []) (by kernel_rfl) (all_nil)) (fun s => by kernel_rfl)
def cc_tollbarref05_Signs_21 (κ : Nat) : Cut T := p_tollbarref05_Signs_20.cut (gcN 0 [0, 3, 4, 5, 6, 7, 8, 9, 11, 36]) (fun (a0, a1, a2, a3, a4, a5, a6, a7, a8, a9, a10) => tollbarref05_Signs.v20 κ a0 a1 a2 a3 a4 a5 a6 a7 a8 a9 a10)
theorem cc_tollbarref05_Signs_21_ok (κ : Nat) (m : Int) : CutOk Tryd.prog C (G m) Tryd.f19.ntmps 0 (pieceOf (.cnd 36 11) (getBody Tryd.f19)) (cc_tollbarref05_Signs_21 κ) := p_tollbarref05_Signs_20_ct κ m
def ct_tollbarref05_Signs_21 (κ : Nat) : Key → Option (Cut T) := addCut (ct_tollbarref05_Signs_19 κ) (.cnd 36 11) (cc_tollbarref05_Signs_21 κ)
def p_tollbarref05_Signs_22 : Piece T (ByteArray × Int × Int × Bool × (List Tollbarref05S) × ByteArray × Nat) (ByteArray × Int × Int × (List Tollbarref05S) × ByteArray × Nat) where
  dcS env H ds := match env 0, env 3, env 4, env 5, env 11, env 54, H, ds with
    | (.v (.s a0)), (.own 0), (.v (.i .i64 a1)), (.v (.i .i64 a2)), (.ptr 1 0), (.v (.b a3)), [(.row 50 a4 true), (.siter a5 a6)], [] => some (a0, a1, a2, a3, a4, a5, a6)
    | _, _, _, _, _, _, _, _ => none
  slS := fun (a0, a1, a2, a3, a4, a5, a6) => [(0, (.v (.s a0))), (3, (.own 0)), (4, (.v (.i .i64 a1))), (5, (.v (.i .i64 a2))), (11, (.ptr 1 0)), (54, (.v (.b a3)))]
  obS := fun (a0, a1, a2, a3, a4, a5, a6) => [(.row 50 a4 true), (.siter a5 a6)]
  dsS := fun (a0, a1, a2, a3, a4, a5, a6) => []
  dcE x env H ds := match x, env 0, env 3, env 4, env 5, env 11, H, ds with
    | .normal, (.v (.s a0)), (.own 0), (.v (.i .i64 a1)), (.v (.i .i64 a2)), (.ptr 1 0), [(.row 50 a3 true), (.siter a4 a5)], [] => some (a0, a1, a2, a3, a4, a5)
    | _, _, _, _, _, _, _, _ => none
  exE := fun (a0, a1, a2, a3, a4, a5) => .normal
  slE := fun (a0, a1, a2, a3, a4, a5) => [(0, (.v (.s a0))), (3, (.own 0)), (4, (.v (.i .i64 a1))), (5, (.v (.i .i64 a2))), (11, (.ptr 1 0))]
  obE := fun (a0, a1, a2, a3, a4, a5) => [(.row 50 a3 true), (.siter a4 a5)]
  dsE := fun (a0, a1, a2, a3, a4, a5) => []
  goE := fun _ (a0, a1, a2, a3, a4, a5) k => k .normal [(0, (.v (.s a0))), (3, (.own 0)), (4, (.v (.i .i64 a1))), (5, (.v (.i .i64 a2))), (11, (.ptr 1 0))] [(.row 50 a3 true), (.siter a4 a5)] []
theorem p_tollbarref05_Signs_22_ok : PieceOk p_tollbarref05_Signs_22 := by
  refine ⟨fun env H ds s h => ?_, fun x env H ds e h => ?_, fun R e k => by kernel_rfl⟩
  · simp only [p_tollbarref05_Signs_22] at h ⊢; split at h <;> first | (cases h; simp only [List.forall_mem_cons]; simp_all; done) | (cases h; done)
  · simp only [p_tollbarref05_Signs_22] at h ⊢; split at h <;> first | (cases h; simp only [List.forall_mem_cons]; simp_all; done) | (cases h; done)
theorem p_tollbarref05_Signs_22_ct (κ : Nat) (m : Int) : CutOk Tryd.prog C (G m) Tryd.f19.ntmps 0 (pieceOf (.cnd 54 15) (getBody Tryd.f19)) (p_tollbarref05_Signs_22.cut (gcN 0 [0, 3, 4, 5, 11, 54]) (fun (a0, a1, a2, a3, a4, a5, a6) => tollbarref05_Signs.v22 κ a0 a1 a2 a3 a4 a5 a6)) :=
  Piece.join p_tollbarref05_Signs_22_ok C_ok mixed (gam29_ok κ m) gcN_ok (xN_ok gcN_ok (ex_cons gcN_ok (ex_cons gcN_ok (ex_nil))) gcN_ok gcN_ok) (cut := (ct_tollbarref05_Signs_21 κ)) (X := (xN (gcN 0 [0, 3, 4, 5, 11]) [(1, (gcN 0 [0, 3, 4, 5, 11])), (0, (gcN 0 [3, 4, 5]))] (gcN 0 [2]) (gcN 0 [1000000]))) (cuts_by (l := []) (by kernel_rfl) (all_nil)) (fun s => by kernel_rfl)
def cc_tollbarref05_Signs_23 (κ : Nat) : Cut T := p_tollbarref05_Signs_22.cut (gcN 0 [0, 3, 4, 5, 11, 54]) (fun (a0, a1, a2, a3, a4, a5, a6) => tollbarref05_Signs.v22 κ a0 a1 a2 a3 a4 a5 a6)
theorem cc_tollbarref05_Signs_23_ok (κ : Nat) (m : Int) : CutOk Tryd.prog C (G m) Tryd.f19.ntmps 0 (pieceOf (.cnd 54 15) (getBody Tryd.f19)) (cc_tollbarref05_Signs_23 κ) := p_tollbarref05_Signs_22_ct κ m
def ct_tollbarref05_Signs_23 (κ : Nat) : Key → Option (Cut T) := addCut (ct_tollbarref05_Signs_21 κ) (.cnd 54 15) (cc_tollbarref05_Signs_23 κ)
def p_tollbarref05_Signs_17 : Piece T (ByteArray × Int × Int × Bool × Int × Int × (List Tollbarref05S) × ByteArray × Nat) (ByteArray × Int × Int × (List Tollbarref05S) × ByteArray × Nat) where
  dcS env H ds := match env 0, env 3, env 4, env 5, env 11, env 12, H, ds with
    | (.v (.s a0)), (.own 0), (.v (.i .i64 a1)), (.v (.i .i64 a2)), (.ptr 1 0), (.tup [(.v (.b a3)), (.v (.i .i64 a4)), (.v (.i .i32 a5))]), [(.row 50 a6 true), (.siter a7 a8)], [] => some (a0, a1, a2, a3, a4, a5, a6, a7, a8)
    | _, _, _, _, _, _, _, _ => none
  slS := fun (a0, a1, a2, a3, a4, a5, a6, a7, a8) => [(0, (.v (.s a0))), (3, (.own 0)), (4, (.v (.i .i64 a1))), (5, (.v (.i .i64 a2))), (11, (.ptr 1 0)), (12, (.tup [(.v (.b a3)), (.v (.i .i64 a4)), (.v (.i .i32 a5))]))]
  obS := fun (a0, a1, a2, a3, a4, a5, a6, a7, a8) => [(.row 50 a6 true), (.siter a7 a8)]
  dsS := fun (a0, a1, a2, a3, a4, a5, a6, a7, a8) => []
  dcE x env H ds := match x, env 0, env 3, env 4, env 5, env 11, H, ds with
    | .normal, (.v (.s a0)), (.own 0), (.v (.i .i64 a1)), (.v (.i .i64 a2)), (.ptr 1 0), [(.row 50 a3 true), (.siter a4 a5)], [] => some (a0, a1, a2, a3, a4, a5)
    | _, _, _, _, _, _, _, _ => none
  exE := fun (a0, a1, a2, a3, a4, a5) => .normal
  slE := fun (a0, a1, a2, a3, a4, a5) => [(0, (.v (.s a0))), (3, (.own 0)), (4, (.v (.i .i64 a1))), (5, (.v (.i .i64 a2))), (11, (.ptr 1 0))]
  obE := fun (a0, a1, a2, a3, a4, a5) => [(.row 50 a3 true), (.siter a4 a5)]
  dsE := fun (a0, a1, a2, a3, a4, a5) => []
  goE := fun _ (a0, a1, a2, a3, a4, a5) k => k .normal [(0, (.v (.s a0))), (3, (.own 0)), (4, (.v (.i .i64 a1))), (5, (.v (.i .i64 a2))), (11, (.ptr 1 0))] [(.row 50 a3 true), (.siter a4 a5)] []
theorem p_tollbarref05_Signs_17_ok : PieceOk p_tollbarref05_Signs_17 := by
  refine ⟨fun env H ds s h => ?_, fun x env H ds e h => ?_, fun R e k => by kernel_rfl⟩
  · simp only [p_tollbarref05_Signs_17] at h ⊢; split at h <;> first | (cases h; simp only [List.forall_mem_cons]; simp_all; done) | (cases h; done)
  · simp only [p_tollbarref05_Signs_17] at h ⊢; split at h <;> first | (cases h; simp only [List.forall_mem_cons]; simp_all; done) | (cases h; done)
theorem p_tollbarref05_Signs_17_ct (κ : Nat) (m : Int) : CutOk Tryd.prog C (G m) Tryd.f19.ntmps 0 (pieceOf (.blk 1) (getBody Tryd.f19)) (p_tollbarref05_Signs_17.cut (gcN 0 [0, 3, 4, 5, 11, 12]) (fun (a0, a1, a2, a3, a4, a5, a6, a7, a8) => tollbarref05_Signs.v17 κ a0 a1 a2 a3 a4 a5 a6 a7 a8)) :=
  Piece.join p_tollbarref05_Signs_17_ok C_ok mixed (gam29_ok κ m) gcN_ok (xN_ok gcN_ok (ex_cons gcN_ok (ex_nil)) gcN_ok gcN_ok) (cut := (ct_tollbarref05_Signs_23 κ)) (X := (xN (gcN 0 [0, 3, 4, 5, 11]) [(0, (gcN 0 [3, 4, 5]))] (gcN 0 [2]) (gcN 0 [1000000]))) (cuts_by (l := [(pieceOf (.reg 8) (getBody Tryd.f19), cc_tollbarref05_Signs_19 κ), (pieceOf (.cnd 36 11) (getBody Tryd.f19), cc_tollbarref05_Signs_21 κ), (pieceOf (.cnd 54 15) (getBody Tryd.f19), cc_tollbarref05_Signs_23 κ)]) (by kernel_rfl) (all_cons (cc_tollbarref05_Signs_19_ok κ m) (all_cons (cc_tollbarref05_Signs_21_ok κ m) (all_cons (cc_tollbarref05_Signs_23_ok κ m) (all_nil))))) (fun s => by kernel_rfl)
def cc_tollbarref05_Signs_24 (κ : Nat) : Cut T := p_tollbarref05_Signs_17.cut (gcN 0 [0, 3, 4, 5, 11, 12]) (fun (a0, a1, a2, a3, a4, a5, a6, a7, a8) => tollbarref05_Signs.v17 κ a0 a1 a2 a3 a4 a5 a6 a7 a8)
theorem cc_tollbarref05_Signs_24_ok (κ : Nat) (m : Int) : CutOk Tryd.prog C (G m) Tryd.f19.ntmps 0 (pieceOf (.blk 1) (getBody Tryd.f19)) (cc_tollbarref05_Signs_24 κ) := p_tollbarref05_Signs_17_ct κ m
def ct_tollbarref05_Signs_24 (κ : Nat) : Key → Option (Cut T) := addCut noCut (.blk 1) (cc_tollbarref05_Signs_24 κ)
def p_tollbarref05_Signs_16 : Piece T (ByteArray × Int × Int × (List Tollbarref05S) × ByteArray × Nat) (Int × Int × (List Tollbarref05S)) where
  dcS env H ds := match env 0, env 3, env 4, env 5, env 11, H, ds with
    | (.v (.s a0)), (.own 0), (.v (.i .i64 a1)), (.v (.i .i64 a2)), (.ptr 1 0), [(.row 50 a3 true), (.siter a4 a5)], [] => some (a0, a1, a2, a3, a4, a5)
    | _, _, _, _, _, _, _ => none
  slS := fun (a0, a1, a2, a3, a4, a5) => [(0, (.v (.s a0))), (3, (.own 0)), (4, (.v (.i .i64 a1))), (5, (.v (.i .i64 a2))), (11, (.ptr 1 0))]
  obS := fun (a0, a1, a2, a3, a4, a5) => [(.row 50 a3 true), (.siter a4 a5)]
  dsS := fun (a0, a1, a2, a3, a4, a5) => []
  dcE x env H ds := match x, env 3, env 4, env 5, H, ds with
    | .normal, (.own 0), (.v (.i .i64 a0)), (.v (.i .i64 a1)), [(.row 50 a2 true)], [] => some (a0, a1, a2)
    | _, _, _, _, _, _ => none
  exE := fun (a0, a1, a2) => .normal
  slE := fun (a0, a1, a2) => [(3, (.own 0)), (4, (.v (.i .i64 a0))), (5, (.v (.i .i64 a1)))]
  obE := fun (a0, a1, a2) => [(.row 50 a2 true)]
  dsE := fun (a0, a1, a2) => []
  goE := fun _ (a0, a1, a2) k => k .normal [(3, (.own 0)), (4, (.v (.i .i64 a0))), (5, (.v (.i .i64 a1)))] [(.row 50 a2 true)] []
theorem p_tollbarref05_Signs_16_ok : PieceOk p_tollbarref05_Signs_16 := by
  refine ⟨fun env H ds s h => ?_, fun x env H ds e h => ?_, fun R e k => by kernel_rfl⟩
  · simp only [p_tollbarref05_Signs_16] at h ⊢; split at h <;> first | (cases h; simp only [List.forall_mem_cons]; simp_all; done) | (cases h; done)
  · simp only [p_tollbarref05_Signs_16] at h ⊢; split at h <;> first | (cases h; simp only [List.forall_mem_cons]; simp_all; done) | (cases h; done)
theorem p_tollbarref05_Signs_16_ct (κ : Nat) (m : Int) : CutOk Tryd.prog C (G m) Tryd.f19.ntmps 0 (pieceOf (.blk 0) (getBody Tryd.f19)) (p_tollbarref05_Signs_16.cut (andN (promS 3 [] 50) (gcN 0 [0, 3, 4, 5, 11])) (tollbarref05_Signs.l16 κ κ)) :=
  Piece.loop p_tollbarref05_Signs_16_ok C_ok mixed (gam29_ok κ m) (andN_ok promS_ok gcN_ok) (xN_ok gcN_ok (ex_nil) gcN_ok gcN_ok) (cut := (ct_tollbarref05_Signs_24 κ)) (X := (xN (gcN 0 [3, 4, 5]) [] (gcN 0 [2]) (gcN 0 [1000000]))) (id := 0) (body := bodyOf (pieceOf (.blk 0) (getBody Tryd.f19))) (cuts_by (l := [(pieceOf (.blk 1) (getBody Tryd.f19), cc_tollbarref05_Signs_24 κ)]) (by kernel_rfl) (all_cons (cc_tollbarref05_Signs_24_ok κ m) (all_nil))) (f := tollbarref05_Signs.l16 κ) (fun s => by kernel_rfl) (fun k s => by kernel_rfl) κ
def cc_tollbarref05_Signs_25 (κ : Nat) : Cut T := p_tollbarref05_Signs_16.cut (andN (promS 3 [] 50) (gcN 0 [0, 3, 4, 5, 11])) (tollbarref05_Signs.l16 κ κ)
theorem cc_tollbarref05_Signs_25_ok (κ : Nat) (m : Int) : CutOk Tryd.prog C (G m) Tryd.f19.ntmps 0 (pieceOf (.blk 0) (getBody Tryd.f19)) (cc_tollbarref05_Signs_25 κ) := p_tollbarref05_Signs_16_ct κ m
def ct_tollbarref05_Signs_25 (κ : Nat) : Key → Option (Cut T) := addCut noCut (.blk 0) (cc_tollbarref05_Signs_25 κ)
def sp_tollbarref05_Signs : Spec T (ByteArray) ((List Tollbarref05S)) where
  dcI a H := match a, H with
    | [(.v (.s a0))], [] => some a0
    | _, _ => none
  ecA := fun a0 => [(.v (.s a0))]
  ecH := fun a0 => []
  dcO o := match o with
    | .ret (.own 0) [(.row 50 a0 true)] => some a0
    | _ => none
  goO := fun _ a0 k => k (.ret (.own 0) [(.row 50 a0 true)])
  ecO := fun a0 => .ret (.own 0) [(.row 50 a0 true)]
theorem sp_tollbarref05_Signs_ok : SpecOk sp_tollbarref05_Signs := by
  refine ⟨fun a H i h => ?_, fun o x h => ?_, fun R e k => by kernel_rfl⟩
  · simp only [sp_tollbarref05_Signs] at h ⊢; split at h <;> first | (cases h; exact ⟨rfl, rfl⟩) | (cases h; done)
  · simp only [sp_tollbarref05_Signs] at h ⊢; split at h <;> first | (cases h; rfl) | (cases h; done)
theorem ok_tollbarref05_Signs (κ : Nat) (m : Int) : EOk Tryd.prog C (G m) 19 (sp_tollbarref05_Signs.entry (fun a0 => tollbarref05_Signs κ a0)) :=
  Spec.ok sp_tollbarref05_Signs_ok C_ok mixed (gam29_ok κ m) (cut := (ct_tollbarref05_Signs_25 κ)) (NR := (gcN 0 [0])) (NP := (gcN 0 [0])) (nB := 0) Tryd.func19 (c := (getBody Tryd.f19)) (by kernel_rfl) (by kernel_rfl) (fun i => by kernel_rfl) gcN_ok gcN_ok (cuts_by (l := [(pieceOf (.blk 0) (getBody Tryd.f19), cc_tollbarref05_Signs_25 κ)]) (by kernel_rfl) (all_cons (cc_tollbarref05_Signs_25_ok κ m) (all_nil))) (fun i => by kernel_rfl)
noncomputable def gam30 (κ : Nat) : Gam T := (gam29 κ).addS 19 sp_tollbarref05_Signs (fun a0 => tollbarref05_Signs κ a0)
theorem gam30_ok (κ : Nat) (m : Int) : GOk Tryd.prog C (G m) (gam30 κ) := (gam29_ok κ m).addS (ok_tollbarref05_Signs κ m)
def p_tollbarref05_letter_0 : Piece T (Int) (Bool) where
  dcS env H ds := match env 3, H, ds with
    | (.v (.i .u8 a0)), [], [] => some a0
    | _, _, _ => none
  slS := fun a0 => [(3, (.v (.i .u8 a0)))]
  obS := fun a0 => []
  dsS := fun a0 => []
  dcE x env H ds := match x, env 2, H, ds with
    | .normal, (.v (.b a0)), [], [] => some a0
    | _, _, _, _ => none
  exE := fun a0 => .normal
  slE := fun a0 => [(2, (.v (.b a0)))]
  obE := fun a0 => []
  dsE := fun a0 => []
  goE := fun _ a0 k => k .normal [(2, (.v (.b a0)))] [] []
theorem p_tollbarref05_letter_0_ok : PieceOk p_tollbarref05_letter_0 := by
  refine ⟨fun env H ds s h => ?_, fun x env H ds e h => ?_, fun R e k => by kernel_rfl⟩
  · simp only [p_tollbarref05_letter_0] at h ⊢; split at h <;> first | (cases h; simp only [List.forall_mem_cons]; simp_all; done) | (cases h; done)
  · simp only [p_tollbarref05_letter_0] at h ⊢; split at h <;> first | (cases h; simp only [List.forall_mem_cons]; simp_all; done) | (cases h; done)
theorem p_tollbarref05_letter_0_ct (κ : Nat) (m : Int) : CutOk Tryd.prog C (G m) Tryd.f21.ntmps 0 (pieceOf (.reg 4) (getBody Tryd.f21)) (p_tollbarref05_letter_0.cut (gcN 0 [3]) (fun a0 => tollbarref05_letter.v0 κ a0)) :=
  Piece.join p_tollbarref05_letter_0_ok C_ok mixed (gam30_ok κ m) gcN_ok (xN_ok gcN_ok (ex_nil) gcN_ok gcN_ok) (cut := noCut) (X := (xN (gcN 0 [2]) [] (gcN 0 [2]) (gcN 0 [1000000]))) (cuts_by (l := []) (by kernel_rfl) (all_nil)) (fun s => by kernel_rfl)
def cc_tollbarref05_letter_1 (κ : Nat) : Cut T := p_tollbarref05_letter_0.cut (gcN 0 [3]) (fun a0 => tollbarref05_letter.v0 κ a0)
theorem cc_tollbarref05_letter_1_ok (κ : Nat) (m : Int) : CutOk Tryd.prog C (G m) Tryd.f21.ntmps 0 (pieceOf (.reg 4) (getBody Tryd.f21)) (cc_tollbarref05_letter_1 κ) := p_tollbarref05_letter_0_ct κ m
def ct_tollbarref05_letter_1 (κ : Nat) : Key → Option (Cut T) := addCut noCut (.reg 4) (cc_tollbarref05_letter_1 κ)
def sp_tollbarref05_letter : Spec T (ByteArray) (Bool) where
  dcI a H := match a, H with
    | [(.v (.s a0))], [] => some a0
    | _, _ => none
  ecA := fun a0 => [(.v (.s a0))]
  ecH := fun a0 => []
  dcO o := match o with
    | .ret (.v (.b a0)) [] => some a0
    | _ => none
  goO := fun _ a0 k => k (.ret (.v (.b a0)) [])
  ecO := fun a0 => .ret (.v (.b a0)) []
theorem sp_tollbarref05_letter_ok : SpecOk sp_tollbarref05_letter := by
  refine ⟨fun a H i h => ?_, fun o x h => ?_, fun R e k => by kernel_rfl⟩
  · simp only [sp_tollbarref05_letter] at h ⊢; split at h <;> first | (cases h; exact ⟨rfl, rfl⟩) | (cases h; done)
  · simp only [sp_tollbarref05_letter] at h ⊢; split at h <;> first | (cases h; rfl) | (cases h; done)
theorem ok_tollbarref05_letter (κ : Nat) (m : Int) : EOk Tryd.prog C (G m) 21 (sp_tollbarref05_letter.entry (fun a0 => tollbarref05_letter κ a0)) :=
  Spec.ok sp_tollbarref05_letter_ok C_ok mixed (gam30_ok κ m) (cut := (ct_tollbarref05_letter_1 κ)) (NR := (gcN 0 [0])) (NP := (gcN 0 [0])) (nB := 0) Tryd.func21 (c := (getBody Tryd.f21)) (by kernel_rfl) (by kernel_rfl) (fun i => by kernel_rfl) gcN_ok gcN_ok (cuts_by (l := [(pieceOf (.reg 4) (getBody Tryd.f21), cc_tollbarref05_letter_1 κ)]) (by kernel_rfl) (all_cons (cc_tollbarref05_letter_1_ok κ m) (all_nil))) (fun i => by kernel_rfl)
noncomputable def gam31 (κ : Nat) : Gam T := (gam30 κ).addS 21 sp_tollbarref05_letter (fun a0 => tollbarref05_letter κ a0)
theorem gam31_ok (κ : Nat) (m : Int) : GOk Tryd.prog C (G m) (gam31 κ) := (gam30_ok κ m).addS (ok_tollbarref05_letter κ m)
def p_tollbarref05_digit_0 : Piece T (ByteArray × Int) ((Unit) ⊕ (Int)) where
  dcS env H ds := match env 0, env 3, H, ds with
    | (.v (.s a0)), (.v (.i .i64 a1)), [], [] => some (a0, a1)
    | _, _, _, _ => none
  slS := fun (a0, a1) => [(0, (.v (.s a0))), (3, (.v (.i .i64 a1)))]
  obS := fun (a0, a1) => []
  dsS := fun (a0, a1) => []
  dcE x env H ds := match x, env 2, H, ds with
    | .normal, _, [], [] => some (.inl ())
    | .ret, (.v (.i .i64 a0)), [], [] => some (.inr a0)
    | _, _, _, _ => none
  exE := fun x => match x with
    | (.inl _) => .normal
    | (.inr a0) => .ret
  slE := fun x => match x with
    | (.inl _) => []
    | (.inr a0) => [(2, (.v (.i .i64 a0)))]
  obE := fun x => match x with
    | (.inl _) => []
    | (.inr a0) => []
  dsE := fun x => match x with
    | (.inl _) => []
    | (.inr a0) => []
  goE := fun _ x k => match x with
    | (.inl _) => k .normal [] [] []
    | (.inr a0) => k .ret [(2, (.v (.i .i64 a0)))] [] []
theorem p_tollbarref05_digit_0_ok : PieceOk p_tollbarref05_digit_0 := by
  refine ⟨fun env H ds s h => ?_, fun x env H ds e h => ?_, fun R e k => by rcases e with e | e <;> kernel_rfl⟩
  · simp only [p_tollbarref05_digit_0] at h ⊢; split at h <;> first | (cases h; simp only [List.forall_mem_cons]; simp_all; done) | (cases h; done)
  · simp only [p_tollbarref05_digit_0] at h ⊢; split at h <;> first | (cases h; simp only [List.forall_mem_cons]; simp_all; done) | (cases h; done)
theorem p_tollbarref05_digit_0_ct (κ : Nat) (m : Int) : CutOk Tryd.prog C (G m) Tryd.f37.ntmps 0 (pieceOf (.blk 0) (getBody Tryd.f37)) (p_tollbarref05_digit_0.cut (gcN 0 [0, 3]) (tollbarref05_digit.l0 κ κ)) :=
  Piece.loop p_tollbarref05_digit_0_ok C_ok mixed (gam31_ok κ m) gcN_ok (xN_ok gcN_ok (ex_nil) gcN_ok gcN_ok) (cut := noCut) (X := (xN (gcN 0 []) [] (gcN 0 [2]) (gcN 0 [1000000]))) (id := 0) (body := bodyOf (pieceOf (.blk 0) (getBody Tryd.f37))) (cuts_by (l := []) (by kernel_rfl) (all_nil)) (f := tollbarref05_digit.l0 κ) (fun s => by kernel_rfl) (fun k s => by kernel_rfl) κ
def cc_tollbarref05_digit_1 (κ : Nat) : Cut T := p_tollbarref05_digit_0.cut (gcN 0 [0, 3]) (tollbarref05_digit.l0 κ κ)
theorem cc_tollbarref05_digit_1_ok (κ : Nat) (m : Int) : CutOk Tryd.prog C (G m) Tryd.f37.ntmps 0 (pieceOf (.blk 0) (getBody Tryd.f37)) (cc_tollbarref05_digit_1 κ) := p_tollbarref05_digit_0_ct κ m
def ct_tollbarref05_digit_1 (κ : Nat) : Key → Option (Cut T) := addCut noCut (.blk 0) (cc_tollbarref05_digit_1 κ)
def sp_tollbarref05_digit : Spec T (ByteArray) (Int) where
  dcI a H := match a, H with
    | [(.v (.s a0))], [] => some a0
    | _, _ => none
  ecA := fun a0 => [(.v (.s a0))]
  ecH := fun a0 => []
  dcO o := match o with
    | .ret (.v (.i .i64 a0)) [] => some a0
    | _ => none
  goO := fun _ a0 k => k (.ret (.v (.i .i64 a0)) [])
  ecO := fun a0 => .ret (.v (.i .i64 a0)) []
theorem sp_tollbarref05_digit_ok : SpecOk sp_tollbarref05_digit := by
  refine ⟨fun a H i h => ?_, fun o x h => ?_, fun R e k => by kernel_rfl⟩
  · simp only [sp_tollbarref05_digit] at h ⊢; split at h <;> first | (cases h; exact ⟨rfl, rfl⟩) | (cases h; done)
  · simp only [sp_tollbarref05_digit] at h ⊢; split at h <;> first | (cases h; rfl) | (cases h; done)
theorem ok_tollbarref05_digit (κ : Nat) (m : Int) : EOk Tryd.prog C (G m) 37 (sp_tollbarref05_digit.entry (fun a0 => tollbarref05_digit κ a0)) :=
  Spec.ok sp_tollbarref05_digit_ok C_ok mixed (gam31_ok κ m) (cut := (ct_tollbarref05_digit_1 κ)) (NR := (gcN 0 [0])) (NP := (gcN 0 [0])) (nB := 0) Tryd.func37 (c := (getBody Tryd.f37)) (by kernel_rfl) (by kernel_rfl) (fun i => by kernel_rfl) gcN_ok gcN_ok (cuts_by (l := [(pieceOf (.blk 0) (getBody Tryd.f37), cc_tollbarref05_digit_1 κ)]) (by kernel_rfl) (all_cons (cc_tollbarref05_digit_1_ok κ m) (all_nil))) (fun i => by kernel_rfl)
noncomputable def gam32 (κ : Nat) : Gam T := (gam31 κ).addS 37 sp_tollbarref05_digit (fun a0 => tollbarref05_digit κ a0)
theorem gam32_ok (κ : Nat) (m : Int) : GOk Tryd.prog C (G m) (gam32 κ) := (gam31_ok κ m).addS (ok_tollbarref05_digit κ m)
def p_tollbarref05_part_0 : Piece T ((List Tollbarref05S) × Int × Int × Int × ByteArray × Bool × Int × Int) ((List Tollbarref05S) × Int × Bool × Int × Int × ByteArray × Bool × Int × Int) where
  dcS env H ds := match env 0, env 1, env 6, env 7, H, ds with
    | (.v (.sl 50 a0)), (.v (.i .i64 a1)), (.ptr 0 0), (.ptr 1 0), [(.cells 26 none [(.v (.i .i64 a2)), (.v (.i .i64 a3))]), (.cells 50 none [(.v (.s a4)), (.v (.b a5)), (.v (.i .i64 a6)), (.v (.i .i64 a7))])], [] => some (a0, a1, a2, a3, a4, a5, a6, a7)
    | _, _, _, _, _, _ => none
  slS := fun (a0, a1, a2, a3, a4, a5, a6, a7) => [(0, (.v (.sl 50 a0))), (1, (.v (.i .i64 a1))), (6, (.ptr 0 0)), (7, (.ptr 1 0))]
  obS := fun (a0, a1, a2, a3, a4, a5, a6, a7) => [(.cells 26 none [(.v (.i .i64 a2)), (.v (.i .i64 a3))]), (.cells 50 none [(.v (.s a4)), (.v (.b a5)), (.v (.i .i64 a6)), (.v (.i .i64 a7))])]
  dsS := fun (a0, a1, a2, a3, a4, a5, a6, a7) => []
  dcE x env H ds := match x, env 0, env 1, env 6, env 7, env 27, H, ds with
    | .normal, (.v (.sl 50 a0)), (.v (.i .i64 a1)), (.ptr 0 0), (.ptr 1 0), (.v (.b a2)), [(.cells 26 none [(.v (.i .i64 a3)), (.v (.i .i64 a4))]), (.cells 50 none [(.v (.s a5)), (.v (.b a6)), (.v (.i .i64 a7)), (.v (.i .i64 a8))])], [] => some (a0, a1, a2, a3, a4, a5, a6, a7, a8)
    | _, _, _, _, _, _, _, _ => none
  exE := fun (a0, a1, a2, a3, a4, a5, a6, a7, a8) => .normal
  slE := fun (a0, a1, a2, a3, a4, a5, a6, a7, a8) => [(0, (.v (.sl 50 a0))), (1, (.v (.i .i64 a1))), (6, (.ptr 0 0)), (7, (.ptr 1 0)), (27, (.v (.b a2)))]
  obE := fun (a0, a1, a2, a3, a4, a5, a6, a7, a8) => [(.cells 26 none [(.v (.i .i64 a3)), (.v (.i .i64 a4))]), (.cells 50 none [(.v (.s a5)), (.v (.b a6)), (.v (.i .i64 a7)), (.v (.i .i64 a8))])]
  dsE := fun (a0, a1, a2, a3, a4, a5, a6, a7, a8) => []
  goE := fun _ (a0, a1, a2, a3, a4, a5, a6, a7, a8) k => k .normal [(0, (.v (.sl 50 a0))), (1, (.v (.i .i64 a1))), (6, (.ptr 0 0)), (7, (.ptr 1 0)), (27, (.v (.b a2)))] [(.cells 26 none [(.v (.i .i64 a3)), (.v (.i .i64 a4))]), (.cells 50 none [(.v (.s a5)), (.v (.b a6)), (.v (.i .i64 a7)), (.v (.i .i64 a8))])] []
theorem p_tollbarref05_part_0_ok : PieceOk p_tollbarref05_part_0 := by
  refine ⟨fun env H ds s h => ?_, fun x env H ds e h => ?_, fun R e k => by kernel_rfl⟩
  · simp only [p_tollbarref05_part_0] at h ⊢; split at h <;> first | (cases h; simp only [List.forall_mem_cons]; simp_all; done) | (cases h; done)
  · simp only [p_tollbarref05_part_0] at h ⊢; split at h <;> first | (cases h; simp only [List.forall_mem_cons]; simp_all; done) | (cases h; done)
theorem p_tollbarref05_part_0_ct (κ : Nat) (m : Int) : CutOk Tryd.prog C (G m) Tryd.f20.ntmps 0 (pieceOf (.reg 2) (getBody Tryd.f20)) (p_tollbarref05_part_0.cut (gcN 0 [0, 1, 6, 7]) (fun (a0, a1, a2, a3, a4, a5, a6, a7) => tollbarref05_part.v0 κ a0 a1 a2 a3 a4 a5 a6 a7)) :=
  Piece.join p_tollbarref05_part_0_ok C_ok mixed (gam31_ok κ m) gcN_ok (xN_ok gcN_ok (ex_nil) gcN_ok gcN_ok) (cut := noCut) (X := (xN (gcN 0 [0, 1, 6, 7, 27]) [] (gcN 0 [4, 5, 6]) (gcN 0 [1000000]))) (cuts_by (l := []) (by kernel_rfl) (all_nil)) (fun s => by kernel_rfl)
def cc_tollbarref05_part_1 (κ : Nat) : Cut T := p_tollbarref05_part_0.cut (gcN 0 [0, 1, 6, 7]) (fun (a0, a1, a2, a3, a4, a5, a6, a7) => tollbarref05_part.v0 κ a0 a1 a2 a3 a4 a5 a6 a7)
theorem cc_tollbarref05_part_1_ok (κ : Nat) (m : Int) : CutOk Tryd.prog C (G m) Tryd.f20.ntmps 0 (pieceOf (.reg 2) (getBody Tryd.f20)) (cc_tollbarref05_part_1 κ) := p_tollbarref05_part_0_ct κ m
def ct_tollbarref05_part_1 (κ : Nat) : Key → Option (Cut T) := addCut noCut (.reg 2) (cc_tollbarref05_part_1 κ)
def p_tollbarref05_part_2 : Piece T ((List Tollbarref05S) × Int × ByteArray × Bool × Int × Int × ByteArray × Bool × Int × Int × ByteArray × Bool × Int × Int) ((List Tollbarref05S) × Int × ByteArray × Bool × Int × Int × ByteArray × Bool × Int × Int × ByteArray × Bool × Int × Int) where
  dcS env H ds := match env 0, env 1, env 6, env 7, env 8, env 43, env 44, H, ds with
    | (.v (.sl 50 a0)), (.v (.i .i64 a1)), (.ptr 0 0), (.ptr 1 0), (.ptr 2 0), (.v (.s a2)), (.v (.b a3)), [(.cells 26 none [(.v (.i .i64 a4)), (.v (.i .i64 a5))]), (.cells 50 none [(.v (.s a6)), (.v (.b a7)), (.v (.i .i64 a8)), (.v (.i .i64 a9))]), (.cells 50 none [(.v (.s a10)), (.v (.b a11)), (.v (.i .i64 a12)), (.v (.i .i64 a13))])], [] => some (a0, a1, a2, a3, a4, a5, a6, a7, a8, a9, a10, a11, a12, a13)
    | _, _, _, _, _, _, _, _, _ => none
  slS := fun (a0, a1, a2, a3, a4, a5, a6, a7, a8, a9, a10, a11, a12, a13) => [(0, (.v (.sl 50 a0))), (1, (.v (.i .i64 a1))), (6, (.ptr 0 0)), (7, (.ptr 1 0)), (8, (.ptr 2 0)), (43, (.v (.s a2))), (44, (.v (.b a3)))]
  obS := fun (a0, a1, a2, a3, a4, a5, a6, a7, a8, a9, a10, a11, a12, a13) => [(.cells 26 none [(.v (.i .i64 a4)), (.v (.i .i64 a5))]), (.cells 50 none [(.v (.s a6)), (.v (.b a7)), (.v (.i .i64 a8)), (.v (.i .i64 a9))]), (.cells 50 none [(.v (.s a10)), (.v (.b a11)), (.v (.i .i64 a12)), (.v (.i .i64 a13))])]
  dsS := fun (a0, a1, a2, a3, a4, a5, a6, a7, a8, a9, a10, a11, a12, a13) => []
  dcE x env H ds := match x, env 0, env 1, env 6, env 7, env 8, env 43, env 44, H, ds with
    | .normal, (.v (.sl 50 a0)), (.v (.i .i64 a1)), (.ptr 0 0), (.ptr 1 0), (.ptr 2 0), (.v (.s a2)), (.v (.b a3)), [(.cells 26 none [(.v (.i .i64 a4)), (.v (.i .i64 a5))]), (.cells 50 none [(.v (.s a6)), (.v (.b a7)), (.v (.i .i64 a8)), (.v (.i .i64 a9))]), (.cells 50 none [(.v (.s a10)), (.v (.b a11)), (.v (.i .i64 a12)), (.v (.i .i64 a13))])], [] => some (a0, a1, a2, a3, a4, a5, a6, a7, a8, a9, a10, a11, a12, a13)
    | _, _, _, _, _, _, _, _, _, _ => none
  exE := fun (a0, a1, a2, a3, a4, a5, a6, a7, a8, a9, a10, a11, a12, a13) => .normal
  slE := fun (a0, a1, a2, a3, a4, a5, a6, a7, a8, a9, a10, a11, a12, a13) => [(0, (.v (.sl 50 a0))), (1, (.v (.i .i64 a1))), (6, (.ptr 0 0)), (7, (.ptr 1 0)), (8, (.ptr 2 0)), (43, (.v (.s a2))), (44, (.v (.b a3)))]
  obE := fun (a0, a1, a2, a3, a4, a5, a6, a7, a8, a9, a10, a11, a12, a13) => [(.cells 26 none [(.v (.i .i64 a4)), (.v (.i .i64 a5))]), (.cells 50 none [(.v (.s a6)), (.v (.b a7)), (.v (.i .i64 a8)), (.v (.i .i64 a9))]), (.cells 50 none [(.v (.s a10)), (.v (.b a11)), (.v (.i .i64 a12)), (.v (.i .i64 a13))])]
  dsE := fun (a0, a1, a2, a3, a4, a5, a6, a7, a8, a9, a10, a11, a12, a13) => []
  goE := fun _ (a0, a1, a2, a3, a4, a5, a6, a7, a8, a9, a10, a11, a12, a13) k => k .normal [(0, (.v (.sl 50 a0))), (1, (.v (.i .i64 a1))), (6, (.ptr 0 0)), (7, (.ptr 1 0)), (8, (.ptr 2 0)), (43, (.v (.s a2))), (44, (.v (.b a3)))] [(.cells 26 none [(.v (.i .i64 a4)), (.v (.i .i64 a5))]), (.cells 50 none [(.v (.s a6)), (.v (.b a7)), (.v (.i .i64 a8)), (.v (.i .i64 a9))]), (.cells 50 none [(.v (.s a10)), (.v (.b a11)), (.v (.i .i64 a12)), (.v (.i .i64 a13))])] []
theorem p_tollbarref05_part_2_ok : PieceOk p_tollbarref05_part_2 := by
  refine ⟨fun env H ds s h => ?_, fun x env H ds e h => ?_, fun R e k => by kernel_rfl⟩
  · simp only [p_tollbarref05_part_2] at h ⊢; split at h <;> first | (cases h; simp only [List.forall_mem_cons]; simp_all; done) | (cases h; done)
  · simp only [p_tollbarref05_part_2] at h ⊢; split at h <;> first | (cases h; simp only [List.forall_mem_cons]; simp_all; done) | (cases h; done)
theorem p_tollbarref05_part_2_ct (κ : Nat) (m : Int) : CutOk Tryd.prog C (G m) Tryd.f20.ntmps 0 (pieceOf (.cnd 44 10) (getBody Tryd.f20)) (p_tollbarref05_part_2.cut (gcN 0 [0, 1, 6, 7, 8, 43, 44]) (fun (a0, a1, a2, a3, a4, a5, a6, a7, a8, a9, a10, a11, a12, a13) => tollbarref05_part.v2 κ a0 a1 a2 a3 a4 a5 a6 a7 a8 a9 a10 a11 a12 a13)) :=
  Piece.join p_tollbarref05_part_2_ok C_ok mixed (gam31_ok κ m) gcN_ok (xN_ok gcN_ok (ex_cons gcN_ok (ex_nil)) gcN_ok gcN_ok) (cut := (ct_tollbarref05_part_1 κ)) (X := (xN (gcN 0 [0, 1, 6, 7, 8, 43, 44]) [(0, (gcN 0 [6, 8]))] (gcN 0 [4, 5, 6]) (gcN 0 [1000000]))) (cuts_by (l := []) (by kernel_rfl) (all_nil)) (fun s => by kernel_rfl)
def cc_tollbarref05_part_3 (κ : Nat) : Cut T := p_tollbarref05_part_2.cut (gcN 0 [0, 1, 6, 7, 8, 43, 44]) (fun (a0, a1, a2, a3, a4, a5, a6, a7, a8, a9, a10, a11, a12, a13) => tollbarref05_part.v2 κ a0 a1 a2 a3 a4 a5 a6 a7 a8 a9 a10 a11 a12 a13)
theorem cc_tollbarref05_part_3_ok (κ : Nat) (m : Int) : CutOk Tryd.prog C (G m) Tryd.f20.ntmps 0 (pieceOf (.cnd 44 10) (getBody Tryd.f20)) (cc_tollbarref05_part_3 κ) := p_tollbarref05_part_2_ct κ m
def ct_tollbarref05_part_3 (κ : Nat) : Key → Option (Cut T) := addCut (ct_tollbarref05_part_1 κ) (.cnd 44 10) (cc_tollbarref05_part_3 κ)
def sp_tollbarref05_part : Spec T ((List Tollbarref05S) × Int) (ByteArray × Int × Int × Int) where
  dcI a H := match a, H with
    | [(.v (.sl 50 a0)), (.v (.i .i64 a1))], [] => some (a0, a1)
    | _, _ => none
  ecA := fun (a0, a1) => [(.v (.sl 50 a0)), (.v (.i .i64 a1))]
  ecH := fun (a0, a1) => []
  dcO o := match o with
    | .ret (.tup [(.v (.s a0)), (.v (.i .i64 a1)), (.agg [(.v (.i .i64 a2)), (.v (.i .i64 a3))])]) [] => some (a0, a1, a2, a3)
    | _ => none
  goO := fun _ (a0, a1, a2, a3) k => k (.ret (.tup [(.v (.s a0)), (.v (.i .i64 a1)), (.agg [(.v (.i .i64 a2)), (.v (.i .i64 a3))])]) [])
  ecO := fun (a0, a1, a2, a3) => .ret (.tup [(.v (.s a0)), (.v (.i .i64 a1)), (.agg [(.v (.i .i64 a2)), (.v (.i .i64 a3))])]) []
theorem sp_tollbarref05_part_ok : SpecOk sp_tollbarref05_part := by
  refine ⟨fun a H i h => ?_, fun o x h => ?_, fun R e k => by kernel_rfl⟩
  · simp only [sp_tollbarref05_part] at h ⊢; split at h <;> first | (cases h; exact ⟨rfl, rfl⟩) | (cases h; done)
  · simp only [sp_tollbarref05_part] at h ⊢; split at h <;> first | (cases h; rfl) | (cases h; done)
theorem ok_tollbarref05_part (κ : Nat) (m : Int) : EOk Tryd.prog C (G m) 20 (sp_tollbarref05_part.entry (fun (a0, a1) => tollbarref05_part κ a0 a1)) :=
  Spec.ok sp_tollbarref05_part_ok C_ok mixed (gam32_ok κ m) (cut := (ct_tollbarref05_part_3 κ)) (NR := (gcN 0 [0])) (NP := (gcN 0 [0])) (nB := 0) Tryd.func20 (c := (getBody Tryd.f20)) (by kernel_rfl) (by kernel_rfl) (fun i => by kernel_rfl) gcN_ok gcN_ok (cuts_by (l := [(pieceOf (.reg 2) (getBody Tryd.f20), cc_tollbarref05_part_1 κ), (pieceOf (.cnd 44 10) (getBody Tryd.f20), cc_tollbarref05_part_3 κ)]) (by kernel_rfl) (all_cons (cc_tollbarref05_part_1_ok κ m) (all_cons (cc_tollbarref05_part_3_ok κ m) (all_nil)))) (fun i => by kernel_rfl)
noncomputable def gam33 (κ : Nat) : Gam T := (gam32 κ).addS 20 sp_tollbarref05_part (fun (a0, a1) => tollbarref05_part κ a0 a1)
theorem gam33_ok (κ : Nat) (m : Int) : GOk Tryd.prog C (G m) (gam33 κ) := (gam32_ok κ m).addS (ok_tollbarref05_part κ m)
def p_tollbarref05_All_80 : Piece T (Int × Int × Int × (List Tollbarref05S) × (List Tollbarref05T) × ByteArray × Bool × Int × Int) (Int × Bool × Int × Int × (List Tollbarref05S) × (List Tollbarref05T) × ByteArray × Bool × Int × Int) where
  dcS env H ds := match env 4, env 5, env 6, env 7, env 8, H, ds with
    | (.ptr 0 0), (.own 1), (.own 2), (.v (.i .i64 a0)), (.ptr 3 0), [(.cells 26 none [(.v (.i .i64 a1)), (.v (.i .i64 a2))]), (.row 50 a3 false), (.row 51 a4 true), (.cells 50 none [(.v (.s a5)), (.v (.b a6)), (.v (.i .i64 a7)), (.v (.i .i64 a8))])], [] => some (a0, a1, a2, a3, a4, a5, a6, a7, a8)
    | _, _, _, _, _, _, _ => none
  slS := fun (a0, a1, a2, a3, a4, a5, a6, a7, a8) => [(4, (.ptr 0 0)), (5, (.own 1)), (6, (.own 2)), (7, (.v (.i .i64 a0))), (8, (.ptr 3 0))]
  obS := fun (a0, a1, a2, a3, a4, a5, a6, a7, a8) => [(.cells 26 none [(.v (.i .i64 a1)), (.v (.i .i64 a2))]), (.row 50 a3 false), (.row 51 a4 true), (.cells 50 none [(.v (.s a5)), (.v (.b a6)), (.v (.i .i64 a7)), (.v (.i .i64 a8))])]
  dsS := fun (a0, a1, a2, a3, a4, a5, a6, a7, a8) => []
  dcE x env H ds := match x, env 4, env 5, env 6, env 7, env 8, env 34, H, ds with
    | .normal, (.ptr 0 0), (.own 1), (.own 2), (.v (.i .i64 a0)), (.ptr 3 0), (.v (.b a1)), [(.cells 26 none [(.v (.i .i64 a2)), (.v (.i .i64 a3))]), (.row 50 a4 false), (.row 51 a5 true), (.cells 50 none [(.v (.s a6)), (.v (.b a7)), (.v (.i .i64 a8)), (.v (.i .i64 a9))])], [] => some (a0, a1, a2, a3, a4, a5, a6, a7, a8, a9)
    | _, _, _, _, _, _, _, _, _ => none
  exE := fun (a0, a1, a2, a3, a4, a5, a6, a7, a8, a9) => .normal
  slE := fun (a0, a1, a2, a3, a4, a5, a6, a7, a8, a9) => [(4, (.ptr 0 0)), (5, (.own 1)), (6, (.own 2)), (7, (.v (.i .i64 a0))), (8, (.ptr 3 0)), (34, (.v (.b a1)))]
  obE := fun (a0, a1, a2, a3, a4, a5, a6, a7, a8, a9) => [(.cells 26 none [(.v (.i .i64 a2)), (.v (.i .i64 a3))]), (.row 50 a4 false), (.row 51 a5 true), (.cells 50 none [(.v (.s a6)), (.v (.b a7)), (.v (.i .i64 a8)), (.v (.i .i64 a9))])]
  dsE := fun (a0, a1, a2, a3, a4, a5, a6, a7, a8, a9) => []
  goE := fun _ (a0, a1, a2, a3, a4, a5, a6, a7, a8, a9) k => k .normal [(4, (.ptr 0 0)), (5, (.own 1)), (6, (.own 2)), (7, (.v (.i .i64 a0))), (8, (.ptr 3 0)), (34, (.v (.b a1)))] [(.cells 26 none [(.v (.i .i64 a2)), (.v (.i .i64 a3))]), (.row 50 a4 false), (.row 51 a5 true), (.cells 50 none [(.v (.s a6)), (.v (.b a7)), (.v (.i .i64 a8)), (.v (.i .i64 a9))])] []
theorem p_tollbarref05_All_80_ok : PieceOk p_tollbarref05_All_80 := by
  refine ⟨fun env H ds s h => ?_, fun x env H ds e h => ?_, fun R e k => by kernel_rfl⟩
  · simp only [p_tollbarref05_All_80] at h ⊢; split at h <;> first | (cases h; simp only [List.forall_mem_cons]; simp_all; done) | (cases h; done)
  · simp only [p_tollbarref05_All_80] at h ⊢; split at h <;> first | (cases h; simp only [List.forall_mem_cons]; simp_all; done) | (cases h; done)
theorem p_tollbarref05_All_80_ct (κ : Nat) (m : Int) : CutOk Tryd.prog C (G m) Tryd.f10.ntmps 0 (pieceOf (.reg 10) (getBody Tryd.f10)) (p_tollbarref05_All_80.cut (gcN 0 [4, 5, 6, 7, 8]) (fun (a0, a1, a2, a3, a4, a5, a6, a7, a8) => tollbarref05_All.v80 κ a0 a1 a2 a3 a4 a5 a6 a7 a8)) :=
  Piece.join p_tollbarref05_All_80_ok C_ok mixed (gam33_ok κ m) gcN_ok (xN_ok gcN_ok (ex_cons gcN_ok (ex_cons gcN_ok (ex_cons gcN_ok (ex_nil)))) gcN_ok gcN_ok) (cut := noCut) (X := (xN (gcN 0 [4, 5, 6, 7, 8, 34]) [(2, (gcN 0 [4, 5, 6, 7])), (1, (gcN 0 [4, 5, 6, 7])), (0, (gcN 0 [4, 5, 6, 7]))] (gcN 0 [2, 3, 4]) (gcN 0 [1000000]))) (cuts_by (l := []) (by kernel_rfl) (all_nil)) (fun s => by kernel_rfl)
def cc_tollbarref05_All_81 (κ : Nat) : Cut T := p_tollbarref05_All_80.cut (gcN 0 [4, 5, 6, 7, 8]) (fun (a0, a1, a2, a3, a4, a5, a6, a7, a8) => tollbarref05_All.v80 κ a0 a1 a2 a3 a4 a5 a6 a7 a8)
theorem cc_tollbarref05_All_81_ok (κ : Nat) (m : Int) : CutOk Tryd.prog C (G m) Tryd.f10.ntmps 0 (pieceOf (.reg 10) (getBody Tryd.f10)) (cc_tollbarref05_All_81 κ) := p_tollbarref05_All_80_ct κ m
def ct_tollbarref05_All_81 (κ : Nat) : Key → Option (Cut T) := addCut noCut (.reg 10) (cc_tollbarref05_All_81 κ)
def p_tollbarref05_All_87 : Piece T (Int × Int × Int × (List Tollbarref05S) × (List Tollbarref05T)) (Int × Bool × Int × Int × (List Tollbarref05S) × (List Tollbarref05T)) where
  dcS env H ds := match env 4, env 5, env 6, env 7, H, ds with
    | (.ptr 0 0), (.own 1), (.own 2), (.v (.i .i64 a0)), [(.cells 26 none [(.v (.i .i64 a1)), (.v (.i .i64 a2))]), (.row 50 a3 false), (.row 51 a4 true)], [] => some (a0, a1, a2, a3, a4)
    | _, _, _, _, _, _ => none
  slS := fun (a0, a1, a2, a3, a4) => [(4, (.ptr 0 0)), (5, (.own 1)), (6, (.own 2)), (7, (.v (.i .i64 a0)))]
  obS := fun (a0, a1, a2, a3, a4) => [(.cells 26 none [(.v (.i .i64 a1)), (.v (.i .i64 a2))]), (.row 50 a3 false), (.row 51 a4 true)]
  dsS := fun (a0, a1, a2, a3, a4) => []
  dcE x env H ds := match x, env 4, env 5, env 6, env 7, env 70, H, ds with
    | .normal, (.ptr 0 0), (.own 1), (.own 2), (.v (.i .i64 a0)), (.v (.b a1)), [(.cells 26 none [(.v (.i .i64 a2)), (.v (.i .i64 a3))]), (.row 50 a4 false), (.row 51 a5 true)], [] => some (a0, a1, a2, a3, a4, a5)
    | _, _, _, _, _, _, _, _ => none
  exE := fun (a0, a1, a2, a3, a4, a5) => .normal
  slE := fun (a0, a1, a2, a3, a4, a5) => [(4, (.ptr 0 0)), (5, (.own 1)), (6, (.own 2)), (7, (.v (.i .i64 a0))), (70, (.v (.b a1)))]
  obE := fun (a0, a1, a2, a3, a4, a5) => [(.cells 26 none [(.v (.i .i64 a2)), (.v (.i .i64 a3))]), (.row 50 a4 false), (.row 51 a5 true)]
  dsE := fun (a0, a1, a2, a3, a4, a5) => []
  goE := fun _ (a0, a1, a2, a3, a4, a5) k => k .normal [(4, (.ptr 0 0)), (5, (.own 1)), (6, (.own 2)), (7, (.v (.i .i64 a0))), (70, (.v (.b a1)))] [(.cells 26 none [(.v (.i .i64 a2)), (.v (.i .i64 a3))]), (.row 50 a4 false), (.row 51 a5 true)] []
theorem p_tollbarref05_All_87_ok : PieceOk p_tollbarref05_All_87 := by
  refine ⟨fun env H ds s h => ?_, fun x env H ds e h => ?_, fun R e k => by kernel_rfl⟩
  · simp only [p_tollbarref05_All_87] at h ⊢; split at h <;> first | (cases h; simp only [List.forall_mem_cons]; simp_all; done) | (cases h; done)
  · simp only [p_tollbarref05_All_87] at h ⊢; split at h <;> first | (cases h; simp only [List.forall_mem_cons]; simp_all; done) | (cases h; done)
theorem p_tollbarref05_All_87_ct (κ : Nat) (m : Int) : CutOk Tryd.prog C (G m) Tryd.f10.ntmps 0 (pieceOf (.reg 12) (getBody Tryd.f10)) (p_tollbarref05_All_87.cut (gcN 0 [4, 5, 6, 7]) (fun (a0, a1, a2, a3, a4) => tollbarref05_All.v87 κ a0 a1 a2 a3 a4)) :=
  Piece.join p_tollbarref05_All_87_ok C_ok mixed (gam33_ok κ m) gcN_ok (xN_ok gcN_ok (ex_cons gcN_ok (ex_cons gcN_ok (ex_cons gcN_ok (ex_cons gcN_ok (ex_nil))))) gcN_ok gcN_ok) (cut := (ct_tollbarref05_All_81 κ)) (X := (xN (gcN 0 [4, 5, 6, 7, 70]) [(3, (gcN 0 [4, 5, 6, 7])), (2, (gcN 0 [4, 5, 6, 7])), (1, (gcN 0 [4, 5, 6, 7])), (0, (gcN 0 [4, 5, 6, 7]))] (gcN 0 [2, 3, 4]) (gcN 0 [1000000]))) (cuts_by (l := []) (by kernel_rfl) (all_nil)) (fun s => by kernel_rfl)
def cc_tollbarref05_All_88 (κ : Nat) : Cut T := p_tollbarref05_All_87.cut (gcN 0 [4, 5, 6, 7]) (fun (a0, a1, a2, a3, a4) => tollbarref05_All.v87 κ a0 a1 a2 a3 a4)
theorem cc_tollbarref05_All_88_ok (κ : Nat) (m : Int) : CutOk Tryd.prog C (G m) Tryd.f10.ntmps 0 (pieceOf (.reg 12) (getBody Tryd.f10)) (cc_tollbarref05_All_88 κ) := p_tollbarref05_All_87_ct κ m
def ct_tollbarref05_All_88 (κ : Nat) : Key → Option (Cut T) := addCut (ct_tollbarref05_All_81 κ) (.reg 12) (cc_tollbarref05_All_88 κ)
def p_tollbarref05_All_86 : Piece T (Int × Int × Int × (List Tollbarref05S) × (List Tollbarref05T)) (Int × Int × Int × (List Tollbarref05S) × (List Tollbarref05T)) where
  dcS env H ds := match env 4, env 5, env 6, env 7, H, ds with
    | (.ptr 0 0), (.own 1), (.own 2), (.v (.i .i64 a0)), [(.cells 26 none [(.v (.i .i64 a1)), (.v (.i .i64 a2))]), (.row 50 a3 false), (.row 51 a4 true)], [] => some (a0, a1, a2, a3, a4)
    | _, _, _, _, _, _ => none
  slS := fun (a0, a1, a2, a3, a4) => [(4, (.ptr 0 0)), (5, (.own 1)), (6, (.own 2)), (7, (.v (.i .i64 a0)))]
  obS := fun (a0, a1, a2, a3, a4) => [(.cells 26 none [(.v (.i .i64 a1)), (.v (.i .i64 a2))]), (.row 50 a3 false), (.row 51 a4 true)]
  dsS := fun (a0, a1, a2, a3, a4) => []
  dcE x env H ds := match x, env 4, env 5, env 6, env 7, H, ds with
    | .normal, (.ptr 0 0), (.own 1), (.own 2), (.v (.i .i64 a0)), [(.cells 26 none [(.v (.i .i64 a1)), (.v (.i .i64 a2))]), (.row 50 a3 false), (.row 51 a4 true)], [] => some (a0, a1, a2, a3, a4)
    | _, _, _, _, _, _, _ => none
  exE := fun (a0, a1, a2, a3, a4) => .normal
  slE := fun (a0, a1, a2, a3, a4) => [(4, (.ptr 0 0)), (5, (.own 1)), (6, (.own 2)), (7, (.v (.i .i64 a0)))]
  obE := fun (a0, a1, a2, a3, a4) => [(.cells 26 none [(.v (.i .i64 a1)), (.v (.i .i64 a2))]), (.row 50 a3 false), (.row 51 a4 true)]
  dsE := fun (a0, a1, a2, a3, a4) => []
  goE := fun _ (a0, a1, a2, a3, a4) k => k .normal [(4, (.ptr 0 0)), (5, (.own 1)), (6, (.own 2)), (7, (.v (.i .i64 a0)))] [(.cells 26 none [(.v (.i .i64 a1)), (.v (.i .i64 a2))]), (.row 50 a3 false), (.row 51 a4 true)] []
theorem p_tollbarref05_All_86_ok : PieceOk p_tollbarref05_All_86 := by
  refine ⟨fun env H ds s h => ?_, fun x env H ds e h => ?_, fun R e k => by kernel_rfl⟩
  · simp only [p_tollbarref05_All_86] at h ⊢; split at h <;> first | (cases h; simp only [List.forall_mem_cons]; simp_all; done) | (cases h; done)
  · simp only [p_tollbarref05_All_86] at h ⊢; split at h <;> first | (cases h; simp only [List.forall_mem_cons]; simp_all; done) | (cases h; done)
theorem p_tollbarref05_All_86_ct (κ : Nat) (m : Int) : CutOk Tryd.prog C (G m) Tryd.f10.ntmps 0 (pieceOf (.blk 3) (getBody Tryd.f10)) (p_tollbarref05_All_86.cut (gcN 0 [4, 5, 6, 7]) (tollbarref05_All.l86 κ κ)) :=
  Piece.loop p_tollbarref05_All_86_ok C_ok mixed (gam33_ok κ m) gcN_ok (xN_ok gcN_ok (ex_cons gcN_ok (ex_cons gcN_ok (ex_cons gcN_ok (ex_nil)))) gcN_ok gcN_ok) (cut := (ct_tollbarref05_All_88 κ)) (X := (xN (gcN 0 [4, 5, 6, 7]) [(2, (gcN 0 [4, 5, 6, 7])), (1, (gcN 0 [4, 5, 6, 7])), (0, (gcN 0 [4, 5, 6, 7]))] (gcN 0 [2, 3, 4]) (gcN 0 [1000000]))) (id := 3) (body := bodyOf (pieceOf (.blk 3) (getBody Tryd.f10))) (cuts_by (l := [(pieceOf (.reg 12) (getBody Tryd.f10), cc_tollbarref05_All_88 κ)]) (by kernel_rfl) (all_cons (cc_tollbarref05_All_88_ok κ m) (all_nil))) (f := tollbarref05_All.l86 κ) (fun s => by kernel_rfl) (fun k s => by kernel_rfl) κ
def cc_tollbarref05_All_89 (κ : Nat) : Cut T := p_tollbarref05_All_86.cut (gcN 0 [4, 5, 6, 7]) (tollbarref05_All.l86 κ κ)
theorem cc_tollbarref05_All_89_ok (κ : Nat) (m : Int) : CutOk Tryd.prog C (G m) Tryd.f10.ntmps 0 (pieceOf (.blk 3) (getBody Tryd.f10)) (cc_tollbarref05_All_89 κ) := p_tollbarref05_All_86_ct κ m
def ct_tollbarref05_All_89 (κ : Nat) : Key → Option (Cut T) := addCut (ct_tollbarref05_All_81 κ) (.blk 3) (cc_tollbarref05_All_89 κ)
def p_tollbarref05_All_94 : Piece T (Int × Int × Int × (List Tollbarref05S) × (List Tollbarref05T) × Int × ByteArray × Int × Int) ((Int × Int × Int × (List Tollbarref05S) × (List Tollbarref05T) × Int × ByteArray × Int × Int) ⊕ (Int × Int × Int)) where
  dcS env H ds := match env 4, env 5, env 6, env 7, env 9, H, ds with
    | (.ptr 0 0), (.own 1), (.own 2), (.v (.i .i64 a0)), (.ptr 3 0), [(.cells 26 none [(.v (.i .i64 a1)), (.v (.i .i64 a2))]), (.row 50 a3 false), (.row 51 a4 true), (.cells 51 none [(.v (.i .i64 a5)), (.v (.s a6)), (.v (.i .i64 a7)), (.v (.i .i64 a8))])], [] => some (a0, a1, a2, a3, a4, a5, a6, a7, a8)
    | _, _, _, _, _, _, _ => none
  slS := fun (a0, a1, a2, a3, a4, a5, a6, a7, a8) => [(4, (.ptr 0 0)), (5, (.own 1)), (6, (.own 2)), (7, (.v (.i .i64 a0))), (9, (.ptr 3 0))]
  obS := fun (a0, a1, a2, a3, a4, a5, a6, a7, a8) => [(.cells 26 none [(.v (.i .i64 a1)), (.v (.i .i64 a2))]), (.row 50 a3 false), (.row 51 a4 true), (.cells 51 none [(.v (.i .i64 a5)), (.v (.s a6)), (.v (.i .i64 a7)), (.v (.i .i64 a8))])]
  dsS := fun (a0, a1, a2, a3, a4, a5, a6, a7, a8) => []
  dcE x env H ds := match x, env 2, env 3, env 4, env 5, env 6, env 7, env 9, H, ds with
    | .normal, _, _, (.ptr 0 0), (.own 1), (.own 2), (.v (.i .i64 a0)), (.ptr 3 0), [(.cells 26 none [(.v (.i .i64 a1)), (.v (.i .i64 a2))]), (.row 50 a3 false), (.row 51 a4 true), (.cells 51 none [(.v (.i .i64 a5)), (.v (.s a6)), (.v (.i .i64 a7)), (.v (.i .i64 a8))])], [] => some (.inl (a0, a1, a2, a3, a4, a5, a6, a7, a8))
    | .ret, .cap0, (.v (.i .i64 a0)), (.ptr 0 0), _, _, _, _, [(.cells 26 none [(.v (.i .i64 a1)), (.v (.i .i64 a2))])], [] => some (.inr (a0, a1, a2))
    | _, _, _, _, _, _, _, _, _, _ => none
  exE := fun x => match x with
    | (.inl (a0, a1, a2, a3, a4, a5, a6, a7, a8)) => .normal
    | (.inr (a0, a1, a2)) => .ret
  slE := fun x => match x with
    | (.inl (a0, a1, a2, a3, a4, a5, a6, a7, a8)) => [(4, (.ptr 0 0)), (5, (.own 1)), (6, (.own 2)), (7, (.v (.i .i64 a0))), (9, (.ptr 3 0))]
    | (.inr (a0, a1, a2)) => [(2, .cap0), (3, (.v (.i .i64 a0))), (4, (.ptr 0 0))]
  obE := fun x => match x with
    | (.inl (a0, a1, a2, a3, a4, a5, a6, a7, a8)) => [(.cells 26 none [(.v (.i .i64 a1)), (.v (.i .i64 a2))]), (.row 50 a3 false), (.row 51 a4 true), (.cells 51 none [(.v (.i .i64 a5)), (.v (.s a6)), (.v (.i .i64 a7)), (.v (.i .i64 a8))])]
    | (.inr (a0, a1, a2)) => [(.cells 26 none [(.v (.i .i64 a1)), (.v (.i .i64 a2))])]
  dsE := fun x => match x with
    | (.inl (a0, a1, a2, a3, a4, a5, a6, a7, a8)) => []
    | (.inr (a0, a1, a2)) => []
  goE := fun _ x k => match x with
    | (.inl (a0, a1, a2, a3, a4, a5, a6, a7, a8)) => k .normal [(4, (.ptr 0 0)), (5, (.own 1)), (6, (.own 2)), (7, (.v (.i .i64 a0))), (9, (.ptr 3 0))] [(.cells 26 none [(.v (.i .i64 a1)), (.v (.i .i64 a2))]), (.row 50 a3 false), (.row 51 a4 true), (.cells 51 none [(.v (.i .i64 a5)), (.v (.s a6)), (.v (.i .i64 a7)), (.v (.i .i64 a8))])] []
    | (.inr (a0, a1, a2)) => k .ret [(2, .cap0), (3, (.v (.i .i64 a0))), (4, (.ptr 0 0))] [(.cells 26 none [(.v (.i .i64 a1)), (.v (.i .i64 a2))])] []
theorem p_tollbarref05_All_94_ok : PieceOk p_tollbarref05_All_94 := by
  refine ⟨fun env H ds s h => ?_, fun x env H ds e h => ?_, fun R e k => by rcases e with e | e <;> kernel_rfl⟩
  · simp only [p_tollbarref05_All_94] at h ⊢; split at h <;> first | (cases h; simp only [List.forall_mem_cons]; simp_all; done) | (cases h; done)
  · simp only [p_tollbarref05_All_94] at h ⊢; split at h <;> first | (cases h; simp only [List.forall_mem_cons]; simp_all; done) | (cases h; done)
theorem p_tollbarref05_All_94_ct (κ : Nat) (m : Int) : CutOk Tryd.prog C (G m) Tryd.f10.ntmps 0 (pieceOf (.blk 5) (getBody Tryd.f10)) (p_tollbarref05_All_94.cut (gcN 0 [4, 5, 6, 7, 9]) (tollbarref05_All.l94 κ κ)) :=
  Piece.loop p_tollbarref05_All_94_ok C_ok mixed (gam33_ok κ m) gcN_ok (xN_ok gcN_ok (ex_cons gcN_ok (ex_cons gcN_ok (ex_cons gcN_ok (ex_nil)))) gcN_ok gcN_ok) (cut := (ct_tollbarref05_All_89 κ)) (X := (xN (gcN 0 [4, 5, 6, 7, 9]) [(2, (gcN 0 [4, 5, 6, 7])), (1, (gcN 0 [4, 5, 6, 7])), (0, (gcN 0 [4, 5, 6, 7]))] (gcN 0 [2, 3, 4]) (gcN 0 [1000000]))) (id := 5) (body := bodyOf (pieceOf (.blk 5) (getBody Tryd.f10))) (cuts_by (l := []) (by kernel_rfl) (all_nil)) (f := tollbarref05_All.l94 κ) (fun s => by kernel_rfl) (fun k s => by kernel_rfl) κ
def cc_tollbarref05_All_95 (κ : Nat) : Cut T := p_tollbarref05_All_94.cut (gcN 0 [4, 5, 6, 7, 9]) (tollbarref05_All.l94 κ κ)
theorem cc_tollbarref05_All_95_ok (κ : Nat) (m : Int) : CutOk Tryd.prog C (G m) Tryd.f10.ntmps 0 (pieceOf (.blk 5) (getBody Tryd.f10)) (cc_tollbarref05_All_95 κ) := p_tollbarref05_All_94_ct κ m
def ct_tollbarref05_All_95 (κ : Nat) : Key → Option (Cut T) := addCut (ct_tollbarref05_All_89 κ) (.blk 5) (cc_tollbarref05_All_95 κ)
def p_tollbarref05_All_96 : Piece T (Int × Int × Int × (List Tollbarref05S) × (List Tollbarref05T) × Int × ByteArray × Int × Int) (Int × Int × Int × (List Tollbarref05S) × (List Tollbarref05T) × Int × ByteArray × Int × Int) where
  dcS env H ds := match env 4, env 5, env 6, env 7, env 13, H, ds with
    | (.ptr 0 0), (.own 1), (.own 2), (.v (.i .i64 a0)), (.ptr 3 0), [(.cells 26 none [(.v (.i .i64 a1)), (.v (.i .i64 a2))]), (.row 50 a3 false), (.row 51 a4 true), (.cells 51 none [(.v (.i .i64 a5)), (.v (.s a6)), (.v (.i .i64 a7)), (.v (.i .i64 a8))])], [] => some (a0, a1, a2, a3, a4, a5, a6, a7, a8)
    | _, _, _, _, _, _, _ => none
  slS := fun (a0, a1, a2, a3, a4, a5, a6, a7, a8) => [(4, (.ptr 0 0)), (5, (.own 1)), (6, (.own 2)), (7, (.v (.i .i64 a0))), (13, (.ptr 3 0))]
  obS := fun (a0, a1, a2, a3, a4, a5, a6, a7, a8) => [(.cells 26 none [(.v (.i .i64 a1)), (.v (.i .i64 a2))]), (.row 50 a3 false), (.row 51 a4 true), (.cells 51 none [(.v (.i .i64 a5)), (.v (.s a6)), (.v (.i .i64 a7)), (.v (.i .i64 a8))])]
  dsS := fun (a0, a1, a2, a3, a4, a5, a6, a7, a8) => []
  dcE x env H ds := match x, env 4, env 5, env 6, env 7, env 13, H, ds with
    | .normal, (.ptr 0 0), (.own 1), (.own 2), (.v (.i .i64 a0)), (.ptr 3 0), [(.cells 26 none [(.v (.i .i64 a1)), (.v (.i .i64 a2))]), (.row 50 a3 false), (.row 51 a4 true), (.cells 51 none [(.v (.i .i64 a5)), (.v (.s a6)), (.v (.i .i64 a7)), (.v (.i .i64 a8))])], [] => some (a0, a1, a2, a3, a4, a5, a6, a7, a8)
    | _, _, _, _, _, _, _, _ => none
  exE := fun (a0, a1, a2, a3, a4, a5, a6, a7, a8) => .normal
  slE := fun (a0, a1, a2, a3, a4, a5, a6, a7, a8) => [(4, (.ptr 0 0)), (5, (.own 1)), (6, (.own 2)), (7, (.v (.i .i64 a0))), (13, (.ptr 3 0))]
  obE := fun (a0, a1, a2, a3, a4, a5, a6, a7, a8) => [(.cells 26 none [(.v (.i .i64 a1)), (.v (.i .i64 a2))]), (.row 50 a3 false), (.row 51 a4 true), (.cells 51 none [(.v (.i .i64 a5)), (.v (.s a6)), (.v (.i .i64 a7)), (.v (.i .i64 a8))])]
  dsE := fun (a0, a1, a2, a3, a4, a5, a6, a7, a8) => []
  goE := fun _ (a0, a1, a2, a3, a4, a5, a6, a7, a8) k => k .normal [(4, (.ptr 0 0)), (5, (.own 1)), (6, (.own 2)), (7, (.v (.i .i64 a0))), (13, (.ptr 3 0))] [(.cells 26 none [(.v (.i .i64 a1)), (.v (.i .i64 a2))]), (.row 50 a3 false), (.row 51 a4 true), (.cells 51 none [(.v (.i .i64 a5)), (.v (.s a6)), (.v (.i .i64 a7)), (.v (.i .i64 a8))])] []
theorem p_tollbarref05_All_96_ok : PieceOk p_tollbarref05_All_96 := by
  refine ⟨fun env H ds s h => ?_, fun x env H ds e h => ?_, fun R e k => by kernel_rfl⟩
  · simp only [p_tollbarref05_All_96] at h ⊢; split at h <;> first | (cases h; simp only [List.forall_mem_cons]; simp_all; done) | (cases h; done)
  · simp only [p_tollbarref05_All_96] at h ⊢; split at h <;> first | (cases h; simp only [List.forall_mem_cons]; simp_all; done) | (cases h; done)
theorem p_tollbarref05_All_96_ct (κ : Nat) (m : Int) : CutOk Tryd.prog C (G m) Tryd.f10.ntmps 0 (pieceOf (.blk 7) (getBody Tryd.f10)) (p_tollbarref05_All_96.cut (gcN 0 [4, 5, 6, 7, 13]) (tollbarref05_All.l96 κ κ)) :=
  Piece.loop p_tollbarref05_All_96_ok C_ok mixed (gam33_ok κ m) gcN_ok (xN_ok gcN_ok (ex_cons gcN_ok (ex_cons gcN_ok (ex_cons gcN_ok (ex_nil)))) gcN_ok gcN_ok) (cut := (ct_tollbarref05_All_95 κ)) (X := (xN (gcN 0 [4, 5, 6, 7, 13]) [(2, (gcN 0 [4, 5, 6, 7])), (1, (gcN 0 [4, 5, 6, 7])), (0, (gcN 0 [4, 5, 6, 7]))] (gcN 0 [2, 3, 4]) (gcN 0 [1000000]))) (id := 7) (body := bodyOf (pieceOf (.blk 7) (getBody Tryd.f10))) (cuts_by (l := []) (by kernel_rfl) (all_nil)) (f := tollbarref05_All.l96 κ) (fun s => by kernel_rfl) (fun k s => by kernel_rfl) κ
def cc_tollbarref05_All_97 (κ : Nat) : Cut T := p_tollbarref05_All_96.cut (gcN 0 [4, 5, 6, 7, 13]) (tollbarref05_All.l96 κ κ)
theorem cc_tollbarref05_All_97_ok (κ : Nat) (m : Int) : CutOk Tryd.prog C (G m) Tryd.f10.ntmps 0 (pieceOf (.blk 7) (getBody Tryd.f10)) (cc_tollbarref05_All_97 κ) := p_tollbarref05_All_96_ct κ m
def ct_tollbarref05_All_97 (κ : Nat) : Key → Option (Cut T) := addCut (ct_tollbarref05_All_95 κ) (.blk 7) (cc_tollbarref05_All_97 κ)
def p_tollbarref05_All_93 : Piece T (Int × Bool × Int × Int × (List Tollbarref05S) × (List Tollbarref05T) × ByteArray × Bool × Int × Int) ((Int × Int × Int) ⊕ (Int × Int × Int × (List Tollbarref05S) × (List Tollbarref05T))) where
  dcS env H ds := match env 4, env 5, env 6, env 7, env 8, env 103, H, ds with
    | (.ptr 0 0), (.own 1), (.own 2), (.v (.i .i64 a0)), (.ptr 3 0), (.v (.b a1)), [(.cells 26 none [(.v (.i .i64 a2)), (.v (.i .i64 a3))]), (.row 50 a4 false), (.row 51 a5 true), (.cells 50 none [(.v (.s a6)), (.v (.b a7)), (.v (.i .i64 a8)), (.v (.i .i64 a9))])], [] => some (a0, a1, a2, a3, a4, a5, a6, a7, a8, a9)
    | _, _, _, _, _, _, _, _ => none
  slS := fun (a0, a1, a2, a3, a4, a5, a6, a7, a8, a9) => [(4, (.ptr 0 0)), (5, (.own 1)), (6, (.own 2)), (7, (.v (.i .i64 a0))), (8, (.ptr 3 0)), (103, (.v (.b a1)))]
  obS := fun (a0, a1, a2, a3, a4, a5, a6, a7, a8, a9) => [(.cells 26 none [(.v (.i .i64 a2)), (.v (.i .i64 a3))]), (.row 50 a4 false), (.row 51 a5 true), (.cells 50 none [(.v (.s a6)), (.v (.b a7)), (.v (.i .i64 a8)), (.v (.i .i64 a9))])]
  dsS := fun (a0, a1, a2, a3, a4, a5, a6, a7, a8, a9) => []
  dcE x env H ds := match x, env 2, env 3, env 4, env 5, env 6, env 7, H, ds with
    | .ret, .cap0, (.v (.i .i64 a0)), (.ptr 0 0), _, _, _, [(.cells 26 none [(.v (.i .i64 a1)), (.v (.i .i64 a2))])], [] => some (.inl (a0, a1, a2))
    | .normal, _, _, (.ptr 0 0), (.own 1), (.own 2), (.v (.i .i64 a0)), [(.cells 26 none [(.v (.i .i64 a1)), (.v (.i .i64 a2))]), (.row 50 a3 false), (.row 51 a4 true)], [] => some (.inr (a0, a1, a2, a3, a4))
    | _, _, _, _, _, _, _, _, _ => none
  exE := fun x => match x with
    | (.inl (a0, a1, a2)) => .ret
    | (.inr (a0, a1, a2, a3, a4)) => .normal
  slE := fun x => match x with
    | (.inl (a0, a1, a2)) => [(2, .cap0), (3, (.v (.i .i64 a0))), (4, (.ptr 0 0))]
    | (.inr (a0, a1, a2, a3, a4)) => [(4, (.ptr 0 0)), (5, (.own 1)), (6, (.own 2)), (7, (.v (.i .i64 a0)))]
  obE := fun x => match x with
    | (.inl (a0, a1, a2)) => [(.cells 26 none [(.v (.i .i64 a1)), (.v (.i .i64 a2))])]
    | (.inr (a0, a1, a2, a3, a4)) => [(.cells 26 none [(.v (.i .i64 a1)), (.v (.i .i64 a2))]), (.row 50 a3 false), (.row 51 a4 true)]
  dsE := fun x => match x with
    | (.inl (a0, a1, a2)) => []
    | (.inr (a0, a1, a2, a3, a4)) => []
  goE := fun _ x k => match x with
    | (.inl (a0, a1, a2)) => k .ret [(2, .cap0), (3, (.v (.i .i64 a0))), (4, (.ptr 0 0))] [(.cells 26 none [(.v (.i .i64 a1)), (.v (.i .i64 a2))])] []
    | (.inr (a0, a1, a2, a3, a4)) => k .normal [(4, (.ptr 0 0)), (5, (.own 1)), (6, (.own 2)), (7, (.v (.i .i64 a0)))] [(.cells 26 none [(.v (.i .i64 a1)), (.v (.i .i64 a2))]), (.row 50 a3 false), (.row 51 a4 true)] []
theorem p_tollbarref05_All_93_ok : PieceOk p_tollbarref05_All_93 := by
  refine ⟨fun env H ds s h => ?_, fun x env H ds e h => ?_, fun R e k => by rcases e with e | e <;> kernel_rfl⟩
  · simp only [p_tollbarref05_All_93] at h ⊢; split at h <;> first | (cases h; simp only [List.forall_mem_cons]; simp_all; done) | (cases h; done)
  · simp only [p_tollbarref05_All_93] at h ⊢; split at h <;> first | (cases h; simp only [List.forall_mem_cons]; simp_all; done) | (cases h; done)
theorem p_tollbarref05_All_93_ct (κ : Nat) (m : Int) : CutOk Tryd.prog C (G m) Tryd.f10.ntmps 0 (pieceOf (.cnd 103 22) (getBody Tryd.f10)) (p_tollbarref05_All_93.cut (gcN 0 [4, 5, 6, 7, 8, 103]) (fun (a0, a1, a2, a3, a4, a5, a6, a7, a8, a9) => tollbarref05_All.v93 κ a0 a1 a2 a3 a4 a5 a6 a7 a8 a9)) :=
  Piece.join p_tollbarref05_All_93_ok C_ok mixed (gam33_ok κ m) gcN_ok (xN_ok gcN_ok (ex_cons gcN_ok (ex_cons gcN_ok (ex_cons gcN_ok (ex_nil)))) gcN_ok gcN_ok) (cut := (ct_tollbarref05_All_97 κ)) (X := (xN (gcN 0 [4, 5, 6, 7]) [(2, (gcN 0 [4, 5, 6, 7])), (1, (gcN 0 [4, 5, 6, 7])), (0, (gcN 0 [4, 5, 6, 7]))] (gcN 0 [2, 3, 4]) (gcN 0 [1000000]))) (cuts_by (l := [(pieceOf (.blk 5) (getBody Tryd.f10), cc_tollbarref05_All_95 κ), (pieceOf (.blk 7) (getBody Tryd.f10), cc_tollbarref05_All_97 κ)]) (by kernel_rfl) (all_cons (cc_tollbarref05_All_95_ok κ m) (all_cons (cc_tollbarref05_All_97_ok κ m) (all_nil)))) (fun s => by kernel_rfl)
def cc_tollbarref05_All_98 (κ : Nat) : Cut T := p_tollbarref05_All_93.cut (gcN 0 [4, 5, 6, 7, 8, 103]) (fun (a0, a1, a2, a3, a4, a5, a6, a7, a8, a9) => tollbarref05_All.v93 κ a0 a1 a2 a3 a4 a5 a6 a7 a8 a9)
theorem cc_tollbarref05_All_98_ok (κ : Nat) (m : Int) : CutOk Tryd.prog C (G m) Tryd.f10.ntmps 0 (pieceOf (.cnd 103 22) (getBody Tryd.f10)) (cc_tollbarref05_All_98 κ) := p_tollbarref05_All_93_ct κ m
def ct_tollbarref05_All_98 (κ : Nat) : Key → Option (Cut T) := addCut (ct_tollbarref05_All_89 κ) (.cnd 103 22) (cc_tollbarref05_All_98 κ)
def p_tollbarref05_All_92 : Piece T (Int × Bool × Int × Int × (List Tollbarref05S) × (List Tollbarref05T) × ByteArray × Bool × Int × Int) ((Int × Int × Int) ⊕ (Int × Int × Int × (List Tollbarref05S) × (List Tollbarref05T))) where
  dcS env H ds := match env 4, env 5, env 6, env 7, env 8, env 93, H, ds with
    | (.ptr 0 0), (.own 1), (.own 2), (.v (.i .i64 a0)), (.ptr 3 0), (.v (.b a1)), [(.cells 26 none [(.v (.i .i64 a2)), (.v (.i .i64 a3))]), (.row 50 a4 false), (.row 51 a5 true), (.cells 50 none [(.v (.s a6)), (.v (.b a7)), (.v (.i .i64 a8)), (.v (.i .i64 a9))])], [] => some (a0, a1, a2, a3, a4, a5, a6, a7, a8, a9)
    | _, _, _, _, _, _, _, _ => none
  slS := fun (a0, a1, a2, a3, a4, a5, a6, a7, a8, a9) => [(4, (.ptr 0 0)), (5, (.own 1)), (6, (.own 2)), (7, (.v (.i .i64 a0))), (8, (.ptr 3 0)), (93, (.v (.b a1)))]
  obS := fun (a0, a1, a2, a3, a4, a5, a6, a7, a8, a9) => [(.cells 26 none [(.v (.i .i64 a2)), (.v (.i .i64 a3))]), (.row 50 a4 false), (.row 51 a5 true), (.cells 50 none [(.v (.s a6)), (.v (.b a7)), (.v (.i .i64 a8)), (.v (.i .i64 a9))])]
  dsS := fun (a0, a1, a2, a3, a4, a5, a6, a7, a8, a9) => []
  dcE x env H ds := match x, env 2, env 3, env 4, env 5, env 6, env 7, H, ds with
    | .ret, .cap0, (.v (.i .i64 a0)), (.ptr 0 0), _, _, _, [(.cells 26 none [(.v (.i .i64 a1)), (.v (.i .i64 a2))])], [] => some (.inl (a0, a1, a2))
    | .normal, _, _, (.ptr 0 0), (.own 1), (.own 2), (.v (.i .i64 a0)), [(.cells 26 none [(.v (.i .i64 a1)), (.v (.i .i64 a2))]), (.row 50 a3 false), (.row 51 a4 true)], [] => some (.inr (a0, a1, a2, a3, a4))
    | _, _, _, _, _, _, _, _, _ => none
  exE := fun x => match x with
    | (.inl (a0, a1, a2)) => .ret
    | (.inr (a0, a1, a2, a3, a4)) => .normal
  slE := fun x => match x with
    | (.inl (a0, a1, a2)) => [(2, .cap0), (3, (.v (.i .i64 a0))), (4, (.ptr 0 0))]
    | (.inr (a0, a1, a2, a3, a4)) => [(4, (.ptr 0 0)), (5, (.own 1)), (6, (.own 2)), (7, (.v (.i .i64 a0)))]
  obE := fun x => match x with
    | (.inl (a0, a1, a2)) => [(.cells 26 none [(.v (.i .i64 a1)), (.v (.i .i64 a2))])]
    | (.inr (a0, a1, a2, a3, a4)) => [(.cells 26 none [(.v (.i .i64 a1)), (.v (.i .i64 a2))]), (.row 50 a3 false), (.row 51 a4 true)]
  dsE := fun x => match x with
    | (.inl (a0, a1, a2)) => []
    | (.inr (a0, a1, a2, a3, a4)) => []
  goE := fun _ x k => match x with
    | (.inl (a0, a1, a2)) => k .ret [(2, .cap0), (3, (.v (.i .i64 a0))), (4, (.ptr 0 0))] [(.cells 26 none [(.v (.i .i64 a1)), (.v (.i .i64 a2))])] []
    | (.inr (a0, a1, a2, a3, a4)) => k .normal [(4, (.ptr 0 0)), (5, (.own 1)), (6, (.own 2)), (7, (.v (.i .i64 a0)))] [(.cells 26 none [(.v (.i .i64 a1)), (.v (.i .i64 a2))]), (.row 50 a3 false), (.row 51 a4 true)] []
theorem p_tollbarref05_All_92_ok : PieceOk p_tollbarref05_All_92 := by
  refine ⟨fun env H ds s h => ?_, fun x env H ds e h => ?_, fun R e k => by rcases e with e | e <;> kernel_rfl⟩
  · simp only [p_tollbarref05_All_92] at h ⊢; split at h <;> first | (cases h; simp only [List.forall_mem_cons]; simp_all; done) | (cases h; done)
  · simp only [p_tollbarref05_All_92] at h ⊢; split at h <;> first | (cases h; simp only [List.forall_mem_cons]; simp_all; done) | (cases h; done)
theorem p_tollbarref05_All_92_ct (κ : Nat) (m : Int) : CutOk Tryd.prog C (G m) Tryd.f10.ntmps 0 (pieceOf (.cnd 93 20) (getBody Tryd.f10)) (p_tollbarref05_All_92.cut (gcN 0 [4, 5, 6, 7, 8, 93]) (fun (a0, a1, a2, a3, a4, a5, a6, a7, a8, a9) => tollbarref05_All.v92 κ a0 a1 a2 a3 a4 a5 a6 a7 a8 a9)) :=
  Piece.join p_tollbarref05_All_92_ok C_ok mixed (gam33_ok κ m) gcN_ok (xN_ok gcN_ok (ex_cons gcN_ok (ex_cons gcN_ok (ex_cons gcN_ok (ex_nil)))) gcN_ok gcN_ok) (cut := (ct_tollbarref05_All_98 κ)) (X := (xN (gcN 0 [4, 5, 6, 7]) [(2, (gcN 0 [4, 5, 6, 7])), (1, (gcN 0 [4, 5, 6, 7])), (0, (gcN 0 [4, 5, 6, 7]))] (gcN 0 [2, 3, 4]) (gcN 0 [1000000]))) (cuts_by (l := [(pieceOf (.cnd 103 22) (getBody Tryd.f10), cc_tollbarref05_All_98 κ)]) (by kernel_rfl) (all_cons (cc_tollbarref05_All_98_ok κ m) (all_nil))) (fun s => by kernel_rfl)
def cc_tollbarref05_All_99 (κ : Nat) : Cut T := p_tollbarref05_All_92.cut (gcN 0 [4, 5, 6, 7, 8, 93]) (fun (a0, a1, a2, a3, a4, a5, a6, a7, a8, a9) => tollbarref05_All.v92 κ a0 a1 a2 a3 a4 a5 a6 a7 a8 a9)
theorem cc_tollbarref05_All_99_ok (κ : Nat) (m : Int) : CutOk Tryd.prog C (G m) Tryd.f10.ntmps 0 (pieceOf (.cnd 93 20) (getBody Tryd.f10)) (cc_tollbarref05_All_99 κ) := p_tollbarref05_All_92_ct κ m
def ct_tollbarref05_All_99 (κ : Nat) : Key → Option (Cut T) := addCut (ct_tollbarref05_All_89 κ) (.cnd 93 20) (cc_tollbarref05_All_99 κ)
def p_tollbarref05_All_91 : Piece T (Int × Bool × Int × Int × (List Tollbarref05S) × (List Tollbarref05T) × ByteArray × Bool × Int × Int) ((Int × Int × Int) ⊕ (Int × Int × Int × (List Tollbarref05S) × (List Tollbarref05T))) where
  dcS env H ds := match env 4, env 5, env 6, env 7, env 8, env 83, H, ds with
    | (.ptr 0 0), (.own 1), (.own 2), (.v (.i .i64 a0)), (.ptr 3 0), (.v (.b a1)), [(.cells 26 none [(.v (.i .i64 a2)), (.v (.i .i64 a3))]), (.row 50 a4 false), (.row 51 a5 true), (.cells 50 none [(.v (.s a6)), (.v (.b a7)), (.v (.i .i64 a8)), (.v (.i .i64 a9))])], [] => some (a0, a1, a2, a3, a4, a5, a6, a7, a8, a9)
    | _, _, _, _, _, _, _, _ => none
  slS := fun (a0, a1, a2, a3, a4, a5, a6, a7, a8, a9) => [(4, (.ptr 0 0)), (5, (.own 1)), (6, (.own 2)), (7, (.v (.i .i64 a0))), (8, (.ptr 3 0)), (83, (.v (.b a1)))]
  obS := fun (a0, a1, a2, a3, a4, a5, a6, a7, a8, a9) => [(.cells 26 none [(.v (.i .i64 a2)), (.v (.i .i64 a3))]), (.row 50 a4 false), (.row 51 a5 true), (.cells 50 none [(.v (.s a6)), (.v (.b a7)), (.v (.i .i64 a8)), (.v (.i .i64 a9))])]
  dsS := fun (a0, a1, a2, a3, a4, a5, a6, a7, a8, a9) => []
  dcE x env H ds := match x, env 2, env 3, env 4, env 5, env 6, env 7, H, ds with
    | .ret, .cap0, (.v (.i .i64 a0)), (.ptr 0 0), _, _, _, [(.cells 26 none [(.v (.i .i64 a1)), (.v (.i .i64 a2))])], [] => some (.inl (a0, a1, a2))
    | .normal, _, _, (.ptr 0 0), (.own 1), (.own 2), (.v (.i .i64 a0)), [(.cells 26 none [(.v (.i .i64 a1)), (.v (.i .i64 a2))]), (.row 50 a3 false), (.row 51 a4 true)], [] => some (.inr (a0, a1, a2, a3, a4))
    | _, _, _, _, _, _, _, _, _ => none
  exE := fun x => match x with
    | (.inl (a0, a1, a2)) => .ret
    | (.inr (a0, a1, a2, a3, a4)) => .normal
  slE := fun x => match x with
    | (.inl (a0, a1, a2)) => [(2, .cap0), (3, (.v (.i .i64 a0))), (4, (.ptr 0 0))]
    | (.inr (a0, a1, a2, a3, a4)) => [(4, (.ptr 0 0)), (5, (.own 1)), (6, (.own 2)), (7, (.v (.i .i64 a0)))]
  obE := fun x => match x with
    | (.inl (a0, a1, a2)) => [(.cells 26 none [(.v (.i .i64 a1)), (.v (.i .i64 a2))])]
    | (.inr (a0, a1, a2, a3, a4)) => [(.cells 26 none [(.v (.i .i64 a1)), (.v (.i .i64 a2))]), (.row 50 a3 false), (.row 51 a4 true)]
  dsE := fun x => match x with
    | (.inl (a0, a1, a2)) => []
    | (.inr (a0, a1, a2, a3, a4)) => []
  goE := fun _ x k => match x with
    | (.inl (a0, a1, a2)) => k .ret [(2, .cap0), (3, (.v (.i .i64 a0))), (4, (.ptr 0 0))] [(.cells 26 none [(.v (.i .i64 a1)), (.v (.i .i64 a2))])] []
    | (.inr (a0, a1, a2, a3, a4)) => k .normal [(4, (.ptr 0 0)), (5, (.own 1)), (6, (.own 2)), (7, (.v (.i .i64 a0)))] [(.cells 26 none [(.v (.i .i64 a1)), (.v (.i .i64 a2))]), (.row 50 a3 false), (.row 51 a4 true)] []
theorem p_tollbarref05_All_91_ok : PieceOk p_tollbarref05_All_91 := by
  refine ⟨fun env H ds s h => ?_, fun x env H ds e h => ?_, fun R e k => by rcases e with e | e <;> kernel_rfl⟩
  · simp only [p_tollbarref05_All_91] at h ⊢; split at h <;> first | (cases h; simp only [List.forall_mem_cons]; simp_all; done) | (cases h; done)
  · simp only [p_tollbarref05_All_91] at h ⊢; split at h <;> first | (cases h; simp only [List.forall_mem_cons]; simp_all; done) | (cases h; done)
theorem p_tollbarref05_All_91_ct (κ : Nat) (m : Int) : CutOk Tryd.prog C (G m) Tryd.f10.ntmps 0 (pieceOf (.cnd 83 18) (getBody Tryd.f10)) (p_tollbarref05_All_91.cut (gcN 0 [4, 5, 6, 7, 8, 83]) (fun (a0, a1, a2, a3, a4, a5, a6, a7, a8, a9) => tollbarref05_All.v91 κ a0 a1 a2 a3 a4 a5 a6 a7 a8 a9)) :=
  Piece.join p_tollbarref05_All_91_ok C_ok mixed (gam33_ok κ m) gcN_ok (xN_ok gcN_ok (ex_cons gcN_ok (ex_cons gcN_ok (ex_cons gcN_ok (ex_nil)))) gcN_ok gcN_ok) (cut := (ct_tollbarref05_All_99 κ)) (X := (xN (gcN 0 [4, 5, 6, 7]) [(2, (gcN 0 [4, 5, 6, 7])), (1, (gcN 0 [4, 5, 6, 7])), (0, (gcN 0 [4, 5, 6, 7]))] (gcN 0 [2, 3, 4]) (gcN 0 [1000000]))) (cuts_by (l := [(pieceOf (.cnd 93 20) (getBody Tryd.f10), cc_tollbarref05_All_99 κ)]) (by kernel_rfl) (all_cons (cc_tollbarref05_All_99_ok κ m) (all_nil))) (fun s => by kernel_rfl)
def cc_tollbarref05_All_100 (κ : Nat) : Cut T := p_tollbarref05_All_91.cut (gcN 0 [4, 5, 6, 7, 8, 83]) (fun (a0, a1, a2, a3, a4, a5, a6, a7, a8, a9) => tollbarref05_All.v91 κ a0 a1 a2 a3 a4 a5 a6 a7 a8 a9)
theorem cc_tollbarref05_All_100_ok (κ : Nat) (m : Int) : CutOk Tryd.prog C (G m) Tryd.f10.ntmps 0 (pieceOf (.cnd 83 18) (getBody Tryd.f10)) (cc_tollbarref05_All_100 κ) := p_tollbarref05_All_91_ct κ m
def ct_tollbarref05_All_100 (κ : Nat) : Key → Option (Cut T) := addCut (ct_tollbarref05_All_89 κ) (.cnd 83 18) (cc_tollbarref05_All_100 κ)
def p_tollbarref05_All_90 : Piece T (Int × Bool × Int × Int × (List Tollbarref05S) × (List Tollbarref05T) × ByteArray × Bool × Int × Int) ((Int × Int × Int) ⊕ (Int × Int × Int × (List Tollbarref05S) × (List Tollbarref05T))) where
  dcS env H ds := match env 4, env 5, env 6, env 7, env 8, env 73, H, ds with
    | (.ptr 0 0), (.own 1), (.own 2), (.v (.i .i64 a0)), (.ptr 3 0), (.v (.b a1)), [(.cells 26 none [(.v (.i .i64 a2)), (.v (.i .i64 a3))]), (.row 50 a4 false), (.row 51 a5 true), (.cells 50 none [(.v (.s a6)), (.v (.b a7)), (.v (.i .i64 a8)), (.v (.i .i64 a9))])], [] => some (a0, a1, a2, a3, a4, a5, a6, a7, a8, a9)
    | _, _, _, _, _, _, _, _ => none
  slS := fun (a0, a1, a2, a3, a4, a5, a6, a7, a8, a9) => [(4, (.ptr 0 0)), (5, (.own 1)), (6, (.own 2)), (7, (.v (.i .i64 a0))), (8, (.ptr 3 0)), (73, (.v (.b a1)))]
  obS := fun (a0, a1, a2, a3, a4, a5, a6, a7, a8, a9) => [(.cells 26 none [(.v (.i .i64 a2)), (.v (.i .i64 a3))]), (.row 50 a4 false), (.row 51 a5 true), (.cells 50 none [(.v (.s a6)), (.v (.b a7)), (.v (.i .i64 a8)), (.v (.i .i64 a9))])]
  dsS := fun (a0, a1, a2, a3, a4, a5, a6, a7, a8, a9) => []
  dcE x env H ds := match x, env 2, env 3, env 4, env 5, env 6, env 7, H, ds with
    | .ret, .cap0, (.v (.i .i64 a0)), (.ptr 0 0), _, _, _, [(.cells 26 none [(.v (.i .i64 a1)), (.v (.i .i64 a2))])], [] => some (.inl (a0, a1, a2))
    | .normal, _, _, (.ptr 0 0), (.own 1), (.own 2), (.v (.i .i64 a0)), [(.cells 26 none [(.v (.i .i64 a1)), (.v (.i .i64 a2))]), (.row 50 a3 false), (.row 51 a4 true)], [] => some (.inr (a0, a1, a2, a3, a4))
    | _, _, _, _, _, _, _, _, _ => none
  exE := fun x => match x with
    | (.inl (a0, a1, a2)) => .ret
    | (.inr (a0, a1, a2, a3, a4)) => .normal
  slE := fun x => match x with
    | (.inl (a0, a1, a2)) => [(2, .cap0), (3, (.v (.i .i64 a0))), (4, (.ptr 0 0))]
    | (.inr (a0, a1, a2, a3, a4)) => [(4, (.ptr 0 0)), (5, (.own 1)), (6, (.own 2)), (7, (.v (.i .i64 a0)))]
  obE := fun x => match x with
    | (.inl (a0, a1, a2)) => [(.cells 26 none [(.v (.i .i64 a1)), (.v (.i .i64 a2))])]
    | (.inr (a0, a1, a2, a3, a4)) => [(.cells 26 none [(.v (.i .i64 a1)), (.v (.i .i64 a2))]), (.row 50 a3 false), (.row 51 a4 true)]
  dsE := fun x => match x with
    | (.inl (a0, a1, a2)) => []
    | (.inr (a0, a1, a2, a3, a4)) => []
  goE := fun _ x k => match x with
    | (.inl (a0, a1, a2)) => k .ret [(2, .cap0), (3, (.v (.i .i64 a0))), (4, (.ptr 0 0))] [(.cells 26 none [(.v (.i .i64 a1)), (.v (.i .i64 a2))])] []
    | (.inr (a0, a1, a2, a3, a4)) => k .normal [(4, (.ptr 0 0)), (5, (.own 1)), (6, (.own 2)), (7, (.v (.i .i64 a0)))] [(.cells 26 none [(.v (.i .i64 a1)), (.v (.i .i64 a2))]), (.row 50 a3 false), (.row 51 a4 true)] []
theorem p_tollbarref05_All_90_ok : PieceOk p_tollbarref05_All_90 := by
  refine ⟨fun env H ds s h => ?_, fun x env H ds e h => ?_, fun R e k => by rcases e with e | e <;> kernel_rfl⟩
  · simp only [p_tollbarref05_All_90] at h ⊢; split at h <;> first | (cases h; simp only [List.forall_mem_cons]; simp_all; done) | (cases h; done)
  · simp only [p_tollbarref05_All_90] at h ⊢; split at h <;> first | (cases h; simp only [List.forall_mem_cons]; simp_all; done) | (cases h; done)
theorem p_tollbarref05_All_90_ct (κ : Nat) (m : Int) : CutOk Tryd.prog C (G m) Tryd.f10.ntmps 0 (pieceOf (.cnd 73 16) (getBody Tryd.f10)) (p_tollbarref05_All_90.cut (gcN 0 [4, 5, 6, 7, 8, 73]) (fun (a0, a1, a2, a3, a4, a5, a6, a7, a8, a9) => tollbarref05_All.v90 κ a0 a1 a2 a3 a4 a5 a6 a7 a8 a9)) :=
  Piece.join p_tollbarref05_All_90_ok C_ok mixed (gam33_ok κ m) gcN_ok (xN_ok gcN_ok (ex_cons gcN_ok (ex_cons gcN_ok (ex_cons gcN_ok (ex_nil)))) gcN_ok gcN_ok) (cut := (ct_tollbarref05_All_100 κ)) (X := (xN (gcN 0 [4, 5, 6, 7]) [(2, (gcN 0 [4, 5, 6, 7])), (1, (gcN 0 [4, 5, 6, 7])), (0, (gcN 0 [4, 5, 6, 7]))] (gcN 0 [2, 3, 4]) (gcN 0 [1000000]))) (cuts_by (l := [(pieceOf (.cnd 83 18) (getBody Tryd.f10), cc_tollbarref05_All_100 κ)]) (by kernel_rfl) (all_cons (cc_tollbarref05_All_100_ok κ m) (all_nil))) (fun s => by kernel_rfl)
def cc_tollbarref05_All_101 (κ : Nat) : Cut T := p_tollbarref05_All_90.cut (gcN 0 [4, 5, 6, 7, 8, 73]) (fun (a0, a1, a2, a3, a4, a5, a6, a7, a8, a9) => tollbarref05_All.v90 κ a0 a1 a2 a3 a4 a5 a6 a7 a8 a9)
theorem cc_tollbarref05_All_101_ok (κ : Nat) (m : Int) : CutOk Tryd.prog C (G m) Tryd.f10.ntmps 0 (pieceOf (.cnd 73 16) (getBody Tryd.f10)) (cc_tollbarref05_All_101 κ) := p_tollbarref05_All_90_ct κ m
def ct_tollbarref05_All_101 (κ : Nat) : Key → Option (Cut T) := addCut (ct_tollbarref05_All_89 κ) (.cnd 73 16) (cc_tollbarref05_All_101 κ)
def p_tollbarref05_All_83 : Piece T (Int × Bool × Int × Int × (List Tollbarref05S) × (List Tollbarref05T) × ByteArray × Bool × Int × Int) ((Int × Int × Int) ⊕ (Int × Int × Int × (List Tollbarref05S) × (List Tollbarref05T))) where
  dcS env H ds := match env 4, env 5, env 6, env 7, env 8, env 53, H, ds with
    | (.ptr 0 0), (.own 1), (.own 2), (.v (.i .i64 a0)), (.ptr 3 0), (.v (.b a1)), [(.cells 26 none [(.v (.i .i64 a2)), (.v (.i .i64 a3))]), (.row 50 a4 false), (.row 51 a5 true), (.cells 50 none [(.v (.s a6)), (.v (.b a7)), (.v (.i .i64 a8)), (.v (.i .i64 a9))])], [] => some (a0, a1, a2, a3, a4, a5, a6, a7, a8, a9)
    | _, _, _, _, _, _, _, _ => none
  slS := fun (a0, a1, a2, a3, a4, a5, a6, a7, a8, a9) => [(4, (.ptr 0 0)), (5, (.own 1)), (6, (.own 2)), (7, (.v (.i .i64 a0))), (8, (.ptr 3 0)), (53, (.v (.b a1)))]
  obS := fun (a0, a1, a2, a3, a4, a5, a6, a7, a8, a9) => [(.cells 26 none [(.v (.i .i64 a2)), (.v (.i .i64 a3))]), (.row 50 a4 false), (.row 51 a5 true), (.cells 50 none [(.v (.s a6)), (.v (.b a7)), (.v (.i .i64 a8)), (.v (.i .i64 a9))])]
  dsS := fun (a0, a1, a2, a3, a4, a5, a6, a7, a8, a9) => []
  dcE x env H ds := match x, env 2, env 3, env 4, env 5, env 6, env 7, H, ds with
    | .ret, .cap0, (.v (.i .i64 a0)), (.ptr 0 0), _, _, _, [(.cells 26 none [(.v (.i .i64 a1)), (.v (.i .i64 a2))])], [] => some (.inl (a0, a1, a2))
    | .normal, _, _, (.ptr 0 0), (.own 1), (.own 2), (.v (.i .i64 a0)), [(.cells 26 none [(.v (.i .i64 a1)), (.v (.i .i64 a2))]), (.row 50 a3 false), (.row 51 a4 true)], [] => some (.inr (a0, a1, a2, a3, a4))
    | _, _, _, _, _, _, _, _, _ => none
  exE := fun x => match x with
    | (.inl (a0, a1, a2)) => .ret
    | (.inr (a0, a1, a2, a3, a4)) => .normal
  slE := fun x => match x with
    | (.inl (a0, a1, a2)) => [(2, .cap0), (3, (.v (.i .i64 a0))), (4, (.ptr 0 0))]
    | (.inr (a0, a1, a2, a3, a4)) => [(4, (.ptr 0 0)), (5, (.own 1)), (6, (.own 2)), (7, (.v (.i .i64 a0)))]
  obE := fun x => match x with
    | (.inl (a0, a1, a2)) => [(.cells 26 none [(.v (.i .i64 a1)), (.v (.i .i64 a2))])]
    | (.inr (a0, a1, a2, a3, a4)) => [(.cells 26 none [(.v (.i .i64 a1)), (.v (.i .i64 a2))]), (.row 50 a3 false), (.row 51 a4 true)]
  dsE := fun x => match x with
    | (.inl (a0, a1, a2)) => []
    | (.inr (a0, a1, a2, a3, a4)) => []
  goE := fun _ x k => match x with
    | (.inl (a0, a1, a2)) => k .ret [(2, .cap0), (3, (.v (.i .i64 a0))), (4, (.ptr 0 0))] [(.cells 26 none [(.v (.i .i64 a1)), (.v (.i .i64 a2))])] []
    | (.inr (a0, a1, a2, a3, a4)) => k .normal [(4, (.ptr 0 0)), (5, (.own 1)), (6, (.own 2)), (7, (.v (.i .i64 a0)))] [(.cells 26 none [(.v (.i .i64 a1)), (.v (.i .i64 a2))]), (.row 50 a3 false), (.row 51 a4 true)] []
theorem p_tollbarref05_All_83_ok : PieceOk p_tollbarref05_All_83 := by
  refine ⟨fun env H ds s h => ?_, fun x env H ds e h => ?_, fun R e k => by rcases e with e | e <;> kernel_rfl⟩
  · simp only [p_tollbarref05_All_83] at h ⊢; split at h <;> first | (cases h; simp only [List.forall_mem_cons]; simp_all; done) | (cases h; done)
  · simp only [p_tollbarref05_All_83] at h ⊢; split at h <;> first | (cases h; simp only [List.forall_mem_cons]; simp_all; done) | (cases h; done)
theorem p_tollbarref05_All_83_ct (κ : Nat) (m : Int) : CutOk Tryd.prog C (G m) Tryd.f10.ntmps 0 (pieceOf (.cnd 53 13) (getBody Tryd.f10)) (p_tollbarref05_All_83.cut (gcN 0 [4, 5, 6, 7, 8, 53]) (fun (a0, a1, a2, a3, a4, a5, a6, a7, a8, a9) => tollbarref05_All.v83 κ a0 a1 a2 a3 a4 a5 a6 a7 a8 a9)) :=
  Piece.join p_tollbarref05_All_83_ok C_ok mixed (gam33_ok κ m) gcN_ok (xN_ok gcN_ok (ex_cons gcN_ok (ex_cons gcN_ok (ex_cons gcN_ok (ex_nil)))) gcN_ok gcN_ok) (cut := (ct_tollbarref05_All_101 κ)) (X := (xN (gcN 0 [4, 5, 6, 7]) [(2, (gcN 0 [4, 5, 6, 7])), (1, (gcN 0 [4, 5, 6, 7])), (0, (gcN 0 [4, 5, 6, 7]))] (gcN 0 [2, 3, 4]) (gcN 0 [1000000]))) (cuts_by (l := [(pieceOf (.blk 3) (getBody Tryd.f10), cc_tollbarref05_All_89 κ), (pieceOf (.cnd 73 16) (getBody Tryd.f10), cc_tollbarref05_All_101 κ)]) (by kernel_rfl) (all_cons (cc_tollbarref05_All_89_ok κ m) (all_cons (cc_tollbarref05_All_101_ok κ m) (all_nil)))) (fun s => by kernel_rfl)
def cc_tollbarref05_All_102 (κ : Nat) : Cut T := p_tollbarref05_All_83.cut (gcN 0 [4, 5, 6, 7, 8, 53]) (fun (a0, a1, a2, a3, a4, a5, a6, a7, a8, a9) => tollbarref05_All.v83 κ a0 a1 a2 a3 a4 a5 a6 a7 a8 a9)
theorem cc_tollbarref05_All_102_ok (κ : Nat) (m : Int) : CutOk Tryd.prog C (G m) Tryd.f10.ntmps 0 (pieceOf (.cnd 53 13) (getBody Tryd.f10)) (cc_tollbarref05_All_102 κ) := p_tollbarref05_All_83_ct κ m
def ct_tollbarref05_All_102 (κ : Nat) : Key → Option (Cut T) := addCut (ct_tollbarref05_All_81 κ) (.cnd 53 13) (cc_tollbarref05_All_102 κ)
def p_tollbarref05_All_82 : Piece T (Int × Bool × Int × Int × (List Tollbarref05S) × (List Tollbarref05T) × ByteArray × Bool × Int × Int) ((Int × Int × Int) ⊕ (Int × Int × Int × (List Tollbarref05S) × (List Tollbarref05T))) where
  dcS env H ds := match env 4, env 5, env 6, env 7, env 8, env 34, H, ds with
    | (.ptr 0 0), (.own 1), (.own 2), (.v (.i .i64 a0)), (.ptr 3 0), (.v (.b a1)), [(.cells 26 none [(.v (.i .i64 a2)), (.v (.i .i64 a3))]), (.row 50 a4 false), (.row 51 a5 true), (.cells 50 none [(.v (.s a6)), (.v (.b a7)), (.v (.i .i64 a8)), (.v (.i .i64 a9))])], [] => some (a0, a1, a2, a3, a4, a5, a6, a7, a8, a9)
    | _, _, _, _, _, _, _, _ => none
  slS := fun (a0, a1, a2, a3, a4, a5, a6, a7, a8, a9) => [(4, (.ptr 0 0)), (5, (.own 1)), (6, (.own 2)), (7, (.v (.i .i64 a0))), (8, (.ptr 3 0)), (34, (.v (.b a1)))]
  obS := fun (a0, a1, a2, a3, a4, a5, a6, a7, a8, a9) => [(.cells 26 none [(.v (.i .i64 a2)), (.v (.i .i64 a3))]), (.row 50 a4 false), (.row 51 a5 true), (.cells 50 none [(.v (.s a6)), (.v (.b a7)), (.v (.i .i64 a8)), (.v (.i .i64 a9))])]
  dsS := fun (a0, a1, a2, a3, a4, a5, a6, a7, a8, a9) => []
  dcE x env H ds := match x, env 2, env 3, env 4, env 5, env 6, env 7, H, ds with
    | .ret, .cap0, (.v (.i .i64 a0)), (.ptr 0 0), _, _, _, [(.cells 26 none [(.v (.i .i64 a1)), (.v (.i .i64 a2))])], [] => some (.inl (a0, a1, a2))
    | .normal, _, _, (.ptr 0 0), (.own 1), (.own 2), (.v (.i .i64 a0)), [(.cells 26 none [(.v (.i .i64 a1)), (.v (.i .i64 a2))]), (.row 50 a3 false), (.row 51 a4 true)], [] => some (.inr (a0, a1, a2, a3, a4))
    | _, _, _, _, _, _, _, _, _ => none
  exE := fun x => match x with
    | (.inl (a0, a1, a2)) => .ret
    | (.inr (a0, a1, a2, a3, a4)) => .normal
  slE := fun x => match x with
    | (.inl (a0, a1, a2)) => [(2, .cap0), (3, (.v (.i .i64 a0))), (4, (.ptr 0 0))]
    | (.inr (a0, a1, a2, a3, a4)) => [(4, (.ptr 0 0)), (5, (.own 1)), (6, (.own 2)), (7, (.v (.i .i64 a0)))]
  obE := fun x => match x with
    | (.inl (a0, a1, a2)) => [(.cells 26 none [(.v (.i .i64 a1)), (.v (.i .i64 a2))])]
    | (.inr (a0, a1, a2, a3, a4)) => [(.cells 26 none [(.v (.i .i64 a1)), (.v (.i .i64 a2))]), (.row 50 a3 false), (.row 51 a4 true)]
  dsE := fun x => match x with
    | (.inl (a0, a1, a2)) => []
    | (.inr (a0, a1, a2, a3, a4)) => []
  goE := fun _ x k => match x with
    | (.inl (a0, a1, a2)) => k .ret [(2, .cap0), (3, (.v (.i .i64 a0))), (4, (.ptr 0 0))] [(.cells 26 none [(.v (.i .i64 a1)), (.v (.i .i64 a2))])] []
    | (.inr (a0, a1, a2, a3, a4)) => k .normal [(4, (.ptr 0 0)), (5, (.own 1)), (6, (.own 2)), (7, (.v (.i .i64 a0)))] [(.cells 26 none [(.v (.i .i64 a1)), (.v (.i .i64 a2))]), (.row 50 a3 false), (.row 51 a4 true)] []
theorem p_tollbarref05_All_82_ok : PieceOk p_tollbarref05_All_82 := by
  refine ⟨fun env H ds s h => ?_, fun x env H ds e h => ?_, fun R e k => by rcases e with e | e <;> kernel_rfl⟩
  · simp only [p_tollbarref05_All_82] at h ⊢; split at h <;> first | (cases h; simp only [List.forall_mem_cons]; simp_all; done) | (cases h; done)
  · simp only [p_tollbarref05_All_82] at h ⊢; split at h <;> first | (cases h; simp only [List.forall_mem_cons]; simp_all; done) | (cases h; done)
theorem p_tollbarref05_All_82_ct (κ : Nat) (m : Int) : CutOk Tryd.prog C (G m) Tryd.f10.ntmps 0 (pieceOf (.cnd 34 12) (getBody Tryd.f10)) (p_tollbarref05_All_82.cut (gcN 0 [4, 5, 6, 7, 8, 34]) (fun (a0, a1, a2, a3, a4, a5, a6, a7, a8, a9) => tollbarref05_All.v82 κ a0 a1 a2 a3 a4 a5 a6 a7 a8 a9)) :=
  Piece.join p_tollbarref05_All_82_ok C_ok mixed (gam33_ok κ m) gcN_ok (xN_ok gcN_ok (ex_cons gcN_ok (ex_cons gcN_ok (ex_cons gcN_ok (ex_nil)))) gcN_ok gcN_ok) (cut := (ct_tollbarref05_All_102 κ)) (X := (xN (gcN 0 [4, 5, 6, 7]) [(2, (gcN 0 [4, 5, 6, 7])), (1, (gcN 0 [4, 5, 6, 7])), (0, (gcN 0 [4, 5, 6, 7]))] (gcN 0 [2, 3, 4]) (gcN 0 [1000000]))) (cuts_by (l := [(pieceOf (.cnd 53 13) (getBody Tryd.f10), cc_tollbarref05_All_102 κ)]) (by kernel_rfl) (all_cons (cc_tollbarref05_All_102_ok κ m) (all_nil))) (fun s => by kernel_rfl)
def cc_tollbarref05_All_103 (κ : Nat) : Cut T := p_tollbarref05_All_82.cut (gcN 0 [4, 5, 6, 7, 8, 34]) (fun (a0, a1, a2, a3, a4, a5, a6, a7, a8, a9) => tollbarref05_All.v82 κ a0 a1 a2 a3 a4 a5 a6 a7 a8 a9)
theorem cc_tollbarref05_All_103_ok (κ : Nat) (m : Int) : CutOk Tryd.prog C (G m) Tryd.f10.ntmps 0 (pieceOf (.cnd 34 12) (getBody Tryd.f10)) (cc_tollbarref05_All_103 κ) := p_tollbarref05_All_82_ct κ m
def ct_tollbarref05_All_103 (κ : Nat) : Key → Option (Cut T) := addCut (ct_tollbarref05_All_81 κ) (.cnd 34 12) (cc_tollbarref05_All_103 κ)
def p_tollbarref05_All_79 : Piece T (Int × Int × Int × (List Tollbarref05S) × (List Tollbarref05T) × ByteArray × Bool × Int × Int) ((Int × Int × Int) ⊕ (Int × Int × Int × (List Tollbarref05S) × (List Tollbarref05T))) where
  dcS env H ds := match env 4, env 5, env 6, env 7, env 8, H, ds with
    | (.ptr 0 0), (.own 1), (.own 2), (.v (.i .i64 a0)), (.ptr 3 0), [(.cells 26 none [(.v (.i .i64 a1)), (.v (.i .i64 a2))]), (.row 50 a3 false), (.row 51 a4 true), (.cells 50 none [(.v (.s a5)), (.v (.b a6)), (.v (.i .i64 a7)), (.v (.i .i64 a8))])], [] => some (a0, a1, a2, a3, a4, a5, a6, a7, a8)
    | _, _, _, _, _, _, _ => none
  slS := fun (a0, a1, a2, a3, a4, a5, a6, a7, a8) => [(4, (.ptr 0 0)), (5, (.own 1)), (6, (.own 2)), (7, (.v (.i .i64 a0))), (8, (.ptr 3 0))]
  obS := fun (a0, a1, a2, a3, a4, a5, a6, a7, a8) => [(.cells 26 none [(.v (.i .i64 a1)), (.v (.i .i64 a2))]), (.row 50 a3 false), (.row 51 a4 true), (.cells 50 none [(.v (.s a5)), (.v (.b a6)), (.v (.i .i64 a7)), (.v (.i .i64 a8))])]
  dsS := fun (a0, a1, a2, a3, a4, a5, a6, a7, a8) => []
  dcE x env H ds := match x, env 2, env 3, env 4, env 5, env 6, env 7, H, ds with
    | .ret, .cap0, (.v (.i .i64 a0)), (.ptr 0 0), _, _, _, [(.cells 26 none [(.v (.i .i64 a1)), (.v (.i .i64 a2))])], [] => some (.inl (a0, a1, a2))
    | .normal, _, _, (.ptr 0 0), (.own 1), (.own 2), (.v (.i .i64 a0)), [(.cells 26 none [(.v (.i .i64 a1)), (.v (.i .i64 a2))]), (.row 50 a3 false), (.row 51 a4 true)], [] => some (.inr (a0, a1, a2, a3, a4))
    | _, _, _, _, _, _, _, _, _ => none
  exE := fun x => match x with
    | (.inl (a0, a1, a2)) => .ret
    | (.inr (a0, a1, a2, a3, a4)) => .normal
  slE := fun x => match x with
    | (.inl (a0, a1, a2)) => [(2, .cap0), (3, (.v (.i .i64 a0))), (4, (.ptr 0 0))]
    | (.inr (a0, a1, a2, a3, a4)) => [(4, (.ptr 0 0)), (5, (.own 1)), (6, (.own 2)), (7, (.v (.i .i64 a0)))]
  obE := fun x => match x with
    | (.inl (a0, a1, a2)) => [(.cells 26 none [(.v (.i .i64 a1)), (.v (.i .i64 a2))])]
    | (.inr (a0, a1, a2, a3, a4)) => [(.cells 26 none [(.v (.i .i64 a1)), (.v (.i .i64 a2))]), (.row 50 a3 false), (.row 51 a4 true)]
  dsE := fun x => match x with
    | (.inl (a0, a1, a2)) => []
    | (.inr (a0, a1, a2, a3, a4)) => []
  goE := fun _ x k => match x with
    | (.inl (a0, a1, a2)) => k .ret [(2, .cap0), (3, (.v (.i .i64 a0))), (4, (.ptr 0 0))] [(.cells 26 none [(.v (.i .i64 a1)), (.v (.i .i64 a2))])] []
    | (.inr (a0, a1, a2, a3, a4)) => k .normal [(4, (.ptr 0 0)), (5, (.own 1)), (6, (.own 2)), (7, (.v (.i .i64 a0)))] [(.cells 26 none [(.v (.i .i64 a1)), (.v (.i .i64 a2))]), (.row 50 a3 false), (.row 51 a4 true)] []
theorem p_tollbarref05_All_79_ok : PieceOk p_tollbarref05_All_79 := by
  refine ⟨fun env H ds s h => ?_, fun x env H ds e h => ?_, fun R e k => by rcases e with e | e <;> kernel_rfl⟩
  · simp only [p_tollbarref05_All_79] at h ⊢; split at h <;> first | (cases h; simp only [List.forall_mem_cons]; simp_all; done) | (cases h; done)
  · simp only [p_tollbarref05_All_79] at h ⊢; split at h <;> first | (cases h; simp only [List.forall_mem_cons]; simp_all; done) | (cases h; done)
theorem p_tollbarref05_All_79_ct (κ : Nat) (m : Int) : CutOk Tryd.prog C (G m) Tryd.f10.ntmps 0 (pieceOf (.blk 2) (getBody Tryd.f10)) (p_tollbarref05_All_79.cut (gcN 0 [4, 5, 6, 7, 8]) (fun (a0, a1, a2, a3, a4, a5, a6, a7, a8) => tollbarref05_All.v79 κ a0 a1 a2 a3 a4 a5 a6 a7 a8)) :=
  Piece.join p_tollbarref05_All_79_ok C_ok mixed (gam33_ok κ m) gcN_ok (xN_ok gcN_ok (ex_cons gcN_ok (ex_cons gcN_ok (ex_nil))) gcN_ok gcN_ok) (cut := (ct_tollbarref05_All_103 κ)) (X := (xN (gcN 0 [4, 5, 6, 7]) [(1, (gcN 0 [4, 5, 6, 7])), (0, (gcN 0 [4, 5, 6, 7]))] (gcN 0 [2, 3, 4]) (gcN 0 [1000000]))) (cuts_by (l := [(pieceOf (.reg 10) (getBody Tryd.f10), cc_tollbarref05_All_81 κ), (pieceOf (.cnd 34 12) (getBody Tryd.f10), cc_tollbarref05_All_103 κ)]) (by kernel_rfl) (all_cons (cc_tollbarref05_All_81_ok κ m) (all_cons (cc_tollbarref05_All_103_ok κ m) (all_nil)))) (fun s => by kernel_rfl)
def cc_tollbarref05_All_104 (κ : Nat) : Cut T := p_tollbarref05_All_79.cut (gcN 0 [4, 5, 6, 7, 8]) (fun (a0, a1, a2, a3, a4, a5, a6, a7, a8) => tollbarref05_All.v79 κ a0 a1 a2 a3 a4 a5 a6 a7 a8)
theorem cc_tollbarref05_All_104_ok (κ : Nat) (m : Int) : CutOk Tryd.prog C (G m) Tryd.f10.ntmps 0 (pieceOf (.blk 2) (getBody Tryd.f10)) (cc_tollbarref05_All_104 κ) := p_tollbarref05_All_79_ct κ m
def ct_tollbarref05_All_104 (κ : Nat) : Key → Option (Cut T) := addCut noCut (.blk 2) (cc_tollbarref05_All_104 κ)
def p_tollbarref05_All_78 : Piece T (Int × Int × Int × (List Tollbarref05S) × (List Tollbarref05T)) ((Int × Int × Int × (List Tollbarref05S) × (List Tollbarref05T)) ⊕ (Int × Int × Int)) where
  dcS env H ds := match env 4, env 5, env 6, env 7, H, ds with
    | (.ptr 0 0), (.own 1), (.own 2), (.v (.i .i64 a0)), [(.cells 26 none [(.v (.i .i64 a1)), (.v (.i .i64 a2))]), (.row 50 a3 false), (.row 51 a4 true)], [] => some (a0, a1, a2, a3, a4)
    | _, _, _, _, _, _ => none
  slS := fun (a0, a1, a2, a3, a4) => [(4, (.ptr 0 0)), (5, (.own 1)), (6, (.own 2)), (7, (.v (.i .i64 a0)))]
  obS := fun (a0, a1, a2, a3, a4) => [(.cells 26 none [(.v (.i .i64 a1)), (.v (.i .i64 a2))]), (.row 50 a3 false), (.row 51 a4 true)]
  dsS := fun (a0, a1, a2, a3, a4) => []
  dcE x env H ds := match x, env 2, env 3, env 4, env 5, env 6, env 7, H, ds with
    | .normal, _, _, (.ptr 0 0), (.own 1), (.own 2), (.v (.i .i64 a0)), [(.cells 26 none [(.v (.i .i64 a1)), (.v (.i .i64 a2))]), (.row 50 a3 false), (.row 51 a4 true)], [] => some (.inl (a0, a1, a2, a3, a4))
    | .ret, .cap0, (.v (.i .i64 a0)), (.ptr 0 0), _, _, _, [(.cells 26 none [(.v (.i .i64 a1)), (.v (.i .i64 a2))])], [] => some (.inr (a0, a1, a2))
    | _, _, _, _, _, _, _, _, _ => none
  exE := fun x => match x with
    | (.inl (a0, a1, a2, a3, a4)) => .normal
    | (.inr (a0, a1, a2)) => .ret
  slE := fun x => match x with
    | (.inl (a0, a1, a2, a3, a4)) => [(4, (.ptr 0 0)), (5, (.own 1)), (6, (.own 2)), (7, (.v (.i .i64 a0)))]
    | (.inr (a0, a1, a2)) => [(2, .cap0), (3, (.v (.i .i64 a0))), (4, (.ptr 0 0))]
  obE := fun x => match x with
    | (.inl (a0, a1, a2, a3, a4)) => [(.cells 26 none [(.v (.i .i64 a1)), (.v (.i .i64 a2))]), (.row 50 a3 false), (.row 51 a4 true)]
    | (.inr (a0, a1, a2)) => [(.cells 26 none [(.v (.i .i64 a1)), (.v (.i .i64 a2))])]
  dsE := fun x => match x with
    | (.inl (a0, a1, a2, a3, a4)) => []
    | (.inr (a0, a1, a2)) => []
  goE := fun _ x k => match x with
    | (.inl (a0, a1, a2, a3, a4)) => k .normal [(4, (.ptr 0 0)), (5, (.own 1)), (6, (.own 2)), (7, (.v (.i .i64 a0)))] [(.cells 26 none [(.v (.i .i64 a1)), (.v (.i .i64 a2))]), (.row 50 a3 false), (.row 51 a4 true)] []
    | (.inr (a0, a1, a2)) => k .ret [(2, .cap0), (3, (.v (.i .i64 a0))), (4, (.ptr 0 0))] [(.cells 26 none [(.v (.i .i64 a1)), (.v (.i .i64 a2))])] []
theorem p_tollbarref05_All_78_ok : PieceOk p_tollbarref05_All_78 := by
  refine ⟨fun env H ds s h => ?_, fun x env H ds e h => ?_, fun R e k => by rcases e with e | e <;> kernel_rfl⟩
  · simp only [p_tollbarref05_All_78] at h ⊢; split at h <;> first | (cases h; simp only [List.forall_mem_cons]; simp_all; done) | (cases h; done)
  · simp only [p_tollbarref05_All_78] at h ⊢; split at h <;> first | (cases h; simp only [List.forall_mem_cons]; simp_all; done) | (cases h; done)
theorem p_tollbarref05_All_78_ct (κ : Nat) (m : Int) : CutOk Tryd.prog C (G m) Tryd.f10.ntmps 0 (pieceOf (.blk 0) (getBody Tryd.f10)) (p_tollbarref05_All_78.cut (andN (gcN 0 [4, 5, 6, 7]) (andN (promS 6 [] 51) (andN (lendO 1) (gcN 0 [4, 5, 6, 7])))) (tollbarref05_All.l78 κ κ)) :=
  Piece.loop p_tollbarref05_All_78_ok C_ok mixed (gam33_ok κ m) (andN_ok gcN_ok (andN_ok promS_ok (andN_ok lendO_ok gcN_ok))) (xN_ok gcN_ok (ex_nil) gcN_ok gcN_ok) (cut := (ct_tollbarref05_All_104 κ)) (X := (xN (gcN 0 [4, 5, 6, 7]) [] (gcN 0 [2, 3, 4]) (gcN 0 [1000000]))) (id := 0) (body := bodyOf (pieceOf (.blk 0) (getBody Tryd.f10))) (cuts_by (l := [(pieceOf (.blk 2) (getBody Tryd.f10), cc_tollbarref05_All_104 κ)]) (by kernel_rfl) (all_cons (cc_tollbarref05_All_104_ok κ m) (all_nil))) (f := tollbarref05_All.l78 κ) (fun s => by kernel_rfl) (fun k s => by kernel_rfl) κ
def cc_tollbarref05_All_105 (κ : Nat) : Cut T := p_tollbarref05_All_78.cut (andN (gcN 0 [4, 5, 6, 7]) (andN (promS 6 [] 51) (andN (lendO 1) (gcN 0 [4, 5, 6, 7])))) (tollbarref05_All.l78 κ κ)
theorem cc_tollbarref05_All_105_ok (κ : Nat) (m : Int) : CutOk Tryd.prog C (G m) Tryd.f10.ntmps 0 (pieceOf (.blk 0) (getBody Tryd.f10)) (cc_tollbarref05_All_105 κ) := p_tollbarref05_All_78_ct κ m
def ct_tollbarref05_All_105 (κ : Nat) : Key → Option (Cut T) := addCut noCut (.blk 0) (cc_tollbarref05_All_105 κ)
def sp_tollbarref05_All : Spec T (ByteArray) (Int × Int × Int × (List Tollbarref05T)) where
  dcI a H := match a, H with
    | [(.v (.s a0))], [] => some a0
    | _, _ => none
  ecA := fun a0 => [(.v (.s a0))]
  ecH := fun a0 => []
  dcO o := match o with
    | .ret (.tup [(.own 0), (.v (.i .i64 a0)), (.agg [(.v (.i .i64 a1)), (.v (.i .i64 a2))])]) [(.row 51 a3 true)] => some (a0, a1, a2, a3)
    | _ => none
  goO := fun _ (a0, a1, a2, a3) k => k (.ret (.tup [(.own 0), (.v (.i .i64 a0)), (.agg [(.v (.i .i64 a1)), (.v (.i .i64 a2))])]) [(.row 51 a3 true)])
  ecO := fun (a0, a1, a2, a3) => .ret (.tup [(.own 0), (.v (.i .i64 a0)), (.agg [(.v (.i .i64 a1)), (.v (.i .i64 a2))])]) [(.row 51 a3 true)]
theorem sp_tollbarref05_All_ok : SpecOk sp_tollbarref05_All := by
  refine ⟨fun a H i h => ?_, fun o x h => ?_, fun R e k => by kernel_rfl⟩
  · simp only [sp_tollbarref05_All] at h ⊢; split at h <;> first | (cases h; exact ⟨rfl, rfl⟩) | (cases h; done)
  · simp only [sp_tollbarref05_All] at h ⊢; split at h <;> first | (cases h; rfl) | (cases h; done)
theorem ok_tollbarref05_All (κ : Nat) (m : Int) : EOk Tryd.prog C (G m) 10 (sp_tollbarref05_All.entry (fun a0 => tollbarref05_All κ a0)) :=
  Spec.ok sp_tollbarref05_All_ok C_ok mixed (gam33_ok κ m) (cut := (ct_tollbarref05_All_105 κ)) (NR := (andN (promS 0 [0] 51) (gcN 0 [0]))) (NP := (gcN 0 [0])) (nB := 0) Tryd.func10 (c := (getBody Tryd.f10)) (by kernel_rfl) (by kernel_rfl) (fun i => by kernel_rfl) (andN_ok promS_ok gcN_ok) gcN_ok (cuts_by (l := [(pieceOf (.blk 0) (getBody Tryd.f10), cc_tollbarref05_All_105 κ)]) (by kernel_rfl) (all_cons (cc_tollbarref05_All_105_ok κ m) (all_nil))) (fun i => by kernel_rfl)
noncomputable def gam34 (κ : Nat) : Gam T := (gam33 κ).addS 10 sp_tollbarref05_All (fun a0 => tollbarref05_All κ a0)
theorem gam34_ok (κ : Nat) (m : Int) : GOk Tryd.prog C (G m) (gam34 κ) := (gam33_ok κ m).addS (ok_tollbarref05_All κ m)
def p_tollbarlaw05_plain_0 : Piece T ((List LexToken) × Int × (List Tollbarref05T)) ((List Tollbarref05T)) where
  dcS env H ds := match env 0, env 3, env 4, H, ds with
    | (.v (.sl 37 a0)), (.own 0), (.v (.i .i64 a1)), [(.row 51 a2 true)], [] => some (a0, a1, a2)
    | _, _, _, _, _ => none
  slS := fun (a0, a1, a2) => [(0, (.v (.sl 37 a0))), (3, (.own 0)), (4, (.v (.i .i64 a1)))]
  obS := fun (a0, a1, a2) => [(.row 51 a2 true)]
  dsS := fun (a0, a1, a2) => []
  dcE x env H ds := match x, env 3, H, ds with
    | .normal, (.own 0), [(.row 51 a0 true)], [] => some a0
    | _, _, _, _ => none
  exE := fun a0 => .normal
  slE := fun a0 => [(3, (.own 0))]
  obE := fun a0 => [(.row 51 a0 true)]
  dsE := fun a0 => []
  goE := fun _ a0 k => k .normal [(3, (.own 0))] [(.row 51 a0 true)] []
theorem p_tollbarlaw05_plain_0_ok : PieceOk p_tollbarlaw05_plain_0 := by
  refine ⟨fun env H ds s h => ?_, fun x env H ds e h => ?_, fun R e k => by kernel_rfl⟩
  · simp only [p_tollbarlaw05_plain_0] at h ⊢; split at h <;> first | (cases h; simp only [List.forall_mem_cons]; simp_all; done) | (cases h; done)
  · simp only [p_tollbarlaw05_plain_0] at h ⊢; split at h <;> first | (cases h; simp only [List.forall_mem_cons]; simp_all; done) | (cases h; done)
theorem p_tollbarlaw05_plain_0_ct (κ : Nat) (m : Int) : CutOk Tryd.prog C (G m) Tryd.f12.ntmps 0 (pieceOf (.blk 0) (getBody Tryd.f12)) (p_tollbarlaw05_plain_0.cut (andN (promS 3 [] 51) (gcN 0 [0, 3, 4])) (tollbarlaw05_plain.l0 κ κ)) :=
  Piece.loop p_tollbarlaw05_plain_0_ok C_ok mixed (gam34_ok κ m) (andN_ok promS_ok gcN_ok) (xN_ok gcN_ok (ex_nil) gcN_ok gcN_ok) (cut := noCut) (X := (xN (gcN 0 [3]) [] (gcN 0 [2]) (gcN 0 [1000000]))) (id := 0) (body := bodyOf (pieceOf (.blk 0) (getBody Tryd.f12))) (cuts_by (l := []) (by kernel_rfl) (all_nil)) (f := tollbarlaw05_plain.l0 κ) (fun s => by kernel_rfl) (fun k s => by kernel_rfl) κ
def cc_tollbarlaw05_plain_1 (κ : Nat) : Cut T := p_tollbarlaw05_plain_0.cut (andN (promS 3 [] 51) (gcN 0 [0, 3, 4])) (tollbarlaw05_plain.l0 κ κ)
theorem cc_tollbarlaw05_plain_1_ok (κ : Nat) (m : Int) : CutOk Tryd.prog C (G m) Tryd.f12.ntmps 0 (pieceOf (.blk 0) (getBody Tryd.f12)) (cc_tollbarlaw05_plain_1 κ) := p_tollbarlaw05_plain_0_ct κ m
def ct_tollbarlaw05_plain_1 (κ : Nat) : Key → Option (Cut T) := addCut noCut (.blk 0) (cc_tollbarlaw05_plain_1 κ)
def sp_tollbarlaw05_plain : Spec T ((List LexToken)) ((List Tollbarref05T)) where
  dcI a H := match a, H with
    | [(.v (.sl 37 a0))], [] => some a0
    | _, _ => none
  ecA := fun a0 => [(.v (.sl 37 a0))]
  ecH := fun a0 => []
  dcO o := match o with
    | .ret (.own 0) [(.row 51 a0 true)] => some a0
    | _ => none
  goO := fun _ a0 k => k (.ret (.own 0) [(.row 51 a0 true)])
  ecO := fun a0 => .ret (.own 0) [(.row 51 a0 true)]
theorem sp_tollbarlaw05_plain_ok : SpecOk sp_tollbarlaw05_plain := by
  refine ⟨fun a H i h => ?_, fun o x h => ?_, fun R e k => by kernel_rfl⟩
  · simp only [sp_tollbarlaw05_plain] at h ⊢; split at h <;> first | (cases h; exact ⟨rfl, rfl⟩) | (cases h; done)
  · simp only [sp_tollbarlaw05_plain] at h ⊢; split at h <;> first | (cases h; rfl) | (cases h; done)
theorem ok_tollbarlaw05_plain (κ : Nat) (m : Int) : EOk Tryd.prog C (G m) 12 (sp_tollbarlaw05_plain.entry (fun a0 => tollbarlaw05_plain κ a0)) :=
  Spec.ok sp_tollbarlaw05_plain_ok C_ok mixed (gam34_ok κ m) (cut := (ct_tollbarlaw05_plain_1 κ)) (NR := (gcN 0 [0])) (NP := (gcN 0 [0])) (nB := 0) Tryd.func12 (c := (getBody Tryd.f12)) (by kernel_rfl) (by kernel_rfl) (fun i => by kernel_rfl) gcN_ok gcN_ok (cuts_by (l := [(pieceOf (.blk 0) (getBody Tryd.f12), cc_tollbarlaw05_plain_1 κ)]) (by kernel_rfl) (all_cons (cc_tollbarlaw05_plain_1_ok κ m) (all_nil))) (fun i => by kernel_rfl)
noncomputable def gam35 (κ : Nat) : Gam T := (gam34 κ).addS 12 sp_tollbarlaw05_plain (fun a0 => tollbarlaw05_plain κ a0)
theorem gam35_ok (κ : Nat) (m : Int) : GOk Tryd.prog C (G m) (gam35 κ) := (gam34_ok κ m).addS (ok_tollbarlaw05_plain κ m)
def p_tollbarref05_Same_0 : Piece T ((List Tollbarref05T) × (List Tollbarref05T) × Int) ((Unit) ⊕ (Bool)) where
  dcS env H ds := match env 0, env 1, env 5, H, ds with
    | (.v (.sl 51 a0)), (.v (.sl 51 a1)), (.v (.i .i64 a2)), [], [] => some (a0, a1, a2)
    | _, _, _, _, _ => none
  slS := fun (a0, a1, a2) => [(0, (.v (.sl 51 a0))), (1, (.v (.sl 51 a1))), (5, (.v (.i .i64 a2)))]
  obS := fun (a0, a1, a2) => []
  dsS := fun (a0, a1, a2) => []
  dcE x env H ds := match x, env 4, H, ds with
    | .normal, _, [], [] => some (.inl ())
    | .ret, (.v (.b a0)), [], [] => some (.inr a0)
    | _, _, _, _ => none
  exE := fun x => match x with
    | (.inl _) => .normal
    | (.inr a0) => .ret
  slE := fun x => match x with
    | (.inl _) => []
    | (.inr a0) => [(4, (.v (.b a0)))]
  obE := fun x => match x with
    | (.inl _) => []
    | (.inr a0) => []
  dsE := fun x => match x with
    | (.inl _) => []
    | (.inr a0) => []
  goE := fun _ x k => match x with
    | (.inl _) => k .normal [] [] []
    | (.inr a0) => k .ret [(4, (.v (.b a0)))] [] []
theorem p_tollbarref05_Same_0_ok : PieceOk p_tollbarref05_Same_0 := by
  refine ⟨fun env H ds s h => ?_, fun x env H ds e h => ?_, fun R e k => by rcases e with e | e <;> kernel_rfl⟩
  · simp only [p_tollbarref05_Same_0] at h ⊢; split at h <;> first | (cases h; simp only [List.forall_mem_cons]; simp_all; done) | (cases h; done)
  · simp only [p_tollbarref05_Same_0] at h ⊢; split at h <;> first | (cases h; simp only [List.forall_mem_cons]; simp_all; done) | (cases h; done)
theorem p_tollbarref05_Same_0_ct (κ : Nat) (m : Int) : CutOk Tryd.prog C (G m) Tryd.f11.ntmps 0 (pieceOf (.blk 0) (getBody Tryd.f11)) (p_tollbarref05_Same_0.cut (gcN 0 [0, 1, 5]) (tollbarref05_Same.l0 κ κ)) :=
  Piece.loop p_tollbarref05_Same_0_ok C_ok mixed (gam35_ok κ m) gcN_ok (xN_ok gcN_ok (ex_nil) gcN_ok gcN_ok) (cut := noCut) (X := (xN (gcN 0 []) [] (gcN 0 [4]) (gcN 0 [1000000]))) (id := 0) (body := bodyOf (pieceOf (.blk 0) (getBody Tryd.f11))) (cuts_by (l := []) (by kernel_rfl) (all_nil)) (f := tollbarref05_Same.l0 κ) (fun s => by kernel_rfl) (fun k s => by kernel_rfl) κ
def cc_tollbarref05_Same_1 (κ : Nat) : Cut T := p_tollbarref05_Same_0.cut (gcN 0 [0, 1, 5]) (tollbarref05_Same.l0 κ κ)
theorem cc_tollbarref05_Same_1_ok (κ : Nat) (m : Int) : CutOk Tryd.prog C (G m) Tryd.f11.ntmps 0 (pieceOf (.blk 0) (getBody Tryd.f11)) (cc_tollbarref05_Same_1 κ) := p_tollbarref05_Same_0_ct κ m
def ct_tollbarref05_Same_1 (κ : Nat) : Key → Option (Cut T) := addCut noCut (.blk 0) (cc_tollbarref05_Same_1 κ)
def sp_tollbarref05_Same : Spec T ((List Tollbarref05T) × (List Tollbarref05T)) (Bool) where
  dcI a H := match a, H with
    | [(.v (.sl 51 a0)), (.v (.sl 51 a1))], [] => some (a0, a1)
    | _, _ => none
  ecA := fun (a0, a1) => [(.v (.sl 51 a0)), (.v (.sl 51 a1))]
  ecH := fun (a0, a1) => []
  dcO o := match o with
    | .ret (.v (.b a0)) [] => some a0
    | _ => none
  goO := fun _ a0 k => k (.ret (.v (.b a0)) [])
  ecO := fun a0 => .ret (.v (.b a0)) []
theorem sp_tollbarref05_Same_ok : SpecOk sp_tollbarref05_Same := by
  refine ⟨fun a H i h => ?_, fun o x h => ?_, fun R e k => by kernel_rfl⟩
  · simp only [sp_tollbarref05_Same] at h ⊢; split at h <;> first | (cases h; exact ⟨rfl, rfl⟩) | (cases h; done)
  · simp only [sp_tollbarref05_Same] at h ⊢; split at h <;> first | (cases h; rfl) | (cases h; done)
theorem ok_tollbarref05_Same (κ : Nat) (m : Int) : EOk Tryd.prog C (G m) 11 (sp_tollbarref05_Same.entry (fun (a0, a1) => tollbarref05_Same κ a0 a1)) :=
  Spec.ok sp_tollbarref05_Same_ok C_ok mixed (gam35_ok κ m) (cut := (ct_tollbarref05_Same_1 κ)) (NR := (gcN 0 [0])) (NP := (gcN 0 [0])) (nB := 0) Tryd.func11 (c := (getBody Tryd.f11)) (by kernel_rfl) (by kernel_rfl) (fun i => by kernel_rfl) gcN_ok gcN_ok (cuts_by (l := [(pieceOf (.blk 0) (getBody Tryd.f11), cc_tollbarref05_Same_1 κ)]) (by kernel_rfl) (all_cons (cc_tollbarref05_Same_1_ok κ m) (all_nil))) (fun i => by kernel_rfl)
noncomputable def gam36 (κ : Nat) : Gam T := (gam35 κ).addS 11 sp_tollbarref05_Same (fun (a0, a1) => tollbarref05_Same κ a0 a1)
theorem gam36_ok (κ : Nat) (m : Int) : GOk Tryd.prog C (G m) (gam36 κ) := (gam35_ok κ m).addS (ok_tollbarref05_Same κ m)
def p_tollbarlaw05_LexTells_0 : Piece T (Int × Int × (List LexToken) × Int × Int × (List Tollbarref05T) × Int × Int) (Bool) where
  dcS env H ds := match env 4, env 5, env 6, env 7, env 8, env 9, H, ds with
    | (.own 0), (.v (.i .i64 a0)), (.ptr 1 0), (.own 2), (.v (.i .i64 a1)), (.ptr 3 0), [(.row 37 a2 true), (.cells 26 none [(.v (.i .i64 a3)), (.v (.i .i64 a4))]), (.row 51 a5 true), (.cells 26 none [(.v (.i .i64 a6)), (.v (.i .i64 a7))])], [] => some (a0, a1, a2, a3, a4, a5, a6, a7)
    | _, _, _, _, _, _, _, _ => none
  slS := fun (a0, a1, a2, a3, a4, a5, a6, a7) => [(4, (.own 0)), (5, (.v (.i .i64 a0))), (6, (.ptr 1 0)), (7, (.own 2)), (8, (.v (.i .i64 a1))), (9, (.ptr 3 0))]
  obS := fun (a0, a1, a2, a3, a4, a5, a6, a7) => [(.row 37 a2 true), (.cells 26 none [(.v (.i .i64 a3)), (.v (.i .i64 a4))]), (.row 51 a5 true), (.cells 26 none [(.v (.i .i64 a6)), (.v (.i .i64 a7))])]
  dsS := fun (a0, a1, a2, a3, a4, a5, a6, a7) => []
  dcE x env H ds := match x, env 2, H, ds with
    | .normal, (.v (.b a0)), [], [] => some a0
    | _, _, _, _ => none
  exE := fun a0 => .normal
  slE := fun a0 => [(2, (.v (.b a0)))]
  obE := fun a0 => []
  dsE := fun a0 => []
  goE := fun _ a0 k => k .normal [(2, (.v (.b a0)))] [] []
theorem p_tollbarlaw05_LexTells_0_ok : PieceOk p_tollbarlaw05_LexTells_0 := by
  refine ⟨fun env H ds s h => ?_, fun x env H ds e h => ?_, fun R e k => by kernel_rfl⟩
  · simp only [p_tollbarlaw05_LexTells_0] at h ⊢; split at h <;> first | (cases h; simp only [List.forall_mem_cons]; simp_all; done) | (cases h; done)
  · simp only [p_tollbarlaw05_LexTells_0] at h ⊢; split at h <;> first | (cases h; simp only [List.forall_mem_cons]; simp_all; done) | (cases h; done)
theorem p_tollbarlaw05_LexTells_0_ct (κ : Nat) (m : Int) : CutOk Tryd.prog C (G m) Tryd.f3.ntmps 0 (pieceOf (.reg 8) (getBody Tryd.f3)) (p_tollbarlaw05_LexTells_0.cut (gcN 0 [4, 5, 6, 7, 8, 9]) (fun (a0, a1, a2, a3, a4, a5, a6, a7) => tollbarlaw05_LexTells.v0 κ a0 a1 a2 a3 a4 a5 a6 a7)) :=
  Piece.join p_tollbarlaw05_LexTells_0_ok C_ok mixed (gam36_ok κ m) gcN_ok (xN_ok gcN_ok (ex_nil) gcN_ok gcN_ok) (cut := noCut) (X := (xN (gcN 0 [2]) [] (gcN 0 [2]) (gcN 0 [1000000]))) (cuts_by (l := []) (by kernel_rfl) (all_nil)) (fun s => by kernel_rfl)
def cc_tollbarlaw05_LexTells_1 (κ : Nat) : Cut T := p_tollbarlaw05_LexTells_0.cut (gcN 0 [4, 5, 6, 7, 8, 9]) (fun (a0, a1, a2, a3, a4, a5, a6, a7) => tollbarlaw05_LexTells.v0 κ a0 a1 a2 a3 a4 a5 a6 a7)
theorem cc_tollbarlaw05_LexTells_1_ok (κ : Nat) (m : Int) : CutOk Tryd.prog C (G m) Tryd.f3.ntmps 0 (pieceOf (.reg 8) (getBody Tryd.f3)) (cc_tollbarlaw05_LexTells_1 κ) := p_tollbarlaw05_LexTells_0_ct κ m
def ct_tollbarlaw05_LexTells_1 (κ : Nat) : Key → Option (Cut T) := addCut noCut (.reg 8) (cc_tollbarlaw05_LexTells_1 κ)
def sp_tollbarlaw05_LexTells : Spec T (ByteArray) (Bool) where
  dcI a H := match a, H with
    | [(.v (.s a0))], [] => some a0
    | _, _ => none
  ecA := fun a0 => [(.v (.s a0))]
  ecH := fun a0 => []
  dcO o := match o with
    | .ret (.v (.b a0)) [] => some a0
    | _ => none
  goO := fun _ a0 k => k (.ret (.v (.b a0)) [])
  ecO := fun a0 => .ret (.v (.b a0)) []
theorem sp_tollbarlaw05_LexTells_ok : SpecOk sp_tollbarlaw05_LexTells := by
  refine ⟨fun a H i h => ?_, fun o x h => ?_, fun R e k => by kernel_rfl⟩
  · simp only [sp_tollbarlaw05_LexTells] at h ⊢; split at h <;> first | (cases h; exact ⟨rfl, rfl⟩) | (cases h; done)
  · simp only [sp_tollbarlaw05_LexTells] at h ⊢; split at h <;> first | (cases h; rfl) | (cases h; done)
theorem ok_tollbarlaw05_LexTells (κ : Nat) (m : Int) : EOk Tryd.prog C (G m) 3 (sp_tollbarlaw05_LexTells.entry (fun a0 => tollbarlaw05_LexTells κ a0)) :=
  Spec.ok sp_tollbarlaw05_LexTells_ok C_ok mixed (gam36_ok κ m) (cut := (ct_tollbarlaw05_LexTells_1 κ)) (NR := (gcN 0 [0])) (NP := (gcN 0 [0])) (nB := 0) Tryd.func3 (c := (getBody Tryd.f3)) (by kernel_rfl) (by kernel_rfl) (fun i => by kernel_rfl) gcN_ok gcN_ok (cuts_by (l := [(pieceOf (.reg 8) (getBody Tryd.f3), cc_tollbarlaw05_LexTells_1 κ)]) (by kernel_rfl) (all_cons (cc_tollbarlaw05_LexTells_1_ok κ m) (all_nil))) (fun i => by kernel_rfl)
noncomputable def gam37 (κ : Nat) : Gam T := (gam36 κ).addS 3 sp_tollbarlaw05_LexTells (fun a0 => tollbarlaw05_LexTells κ a0)
theorem gam37_ok (κ : Nat) (m : Int) : GOk Tryd.prog C (G m) (gam37 κ) := (gam36_ok κ m).addS (ok_tollbarlaw05_LexTells κ m)
def p_tollbarref05_Plain_0 : Piece T (ByteArray × Int) ((ByteArray) ⊕ (Bool)) where
  dcS env H ds := match env 0, env 3, H, ds with
    | (.v (.s a0)), (.v (.i .i64 a1)), [], [] => some (a0, a1)
    | _, _, _, _ => none
  slS := fun (a0, a1) => [(0, (.v (.s a0))), (3, (.v (.i .i64 a1)))]
  obS := fun (a0, a1) => []
  dsS := fun (a0, a1) => []
  dcE x env H ds := match x, env 0, env 2, H, ds with
    | .normal, (.v (.s a0)), _, [], [] => some (.inl a0)
    | .ret, _, (.v (.b a0)), [], [] => some (.inr a0)
    | _, _, _, _, _ => none
  exE := fun x => match x with
    | (.inl a0) => .normal
    | (.inr a0) => .ret
  slE := fun x => match x with
    | (.inl a0) => [(0, (.v (.s a0)))]
    | (.inr a0) => [(2, (.v (.b a0)))]
  obE := fun x => match x with
    | (.inl a0) => []
    | (.inr a0) => []
  dsE := fun x => match x with
    | (.inl a0) => []
    | (.inr a0) => []
  goE := fun _ x k => match x with
    | (.inl a0) => k .normal [(0, (.v (.s a0)))] [] []
    | (.inr a0) => k .ret [(2, (.v (.b a0)))] [] []
theorem p_tollbarref05_Plain_0_ok : PieceOk p_tollbarref05_Plain_0 := by
  refine ⟨fun env H ds s h => ?_, fun x env H ds e h => ?_, fun R e k => by rcases e with e | e <;> kernel_rfl⟩
  · simp only [p_tollbarref05_Plain_0] at h ⊢; split at h <;> first | (cases h; simp only [List.forall_mem_cons]; simp_all; done) | (cases h; done)
  · simp only [p_tollbarref05_Plain_0] at h ⊢; split at h <;> first | (cases h; simp only [List.forall_mem_cons]; simp_all; done) | (cases h; done)
theorem p_tollbarref05_Plain_0_ct (κ : Nat) (m : Int) : CutOk Tryd.prog C (G m) Tryd.f15.ntmps 0 (pieceOf (.blk 0) (getBody Tryd.f15)) (p_tollbarref05_Plain_0.cut (gcN 0 [0, 3]) (tollbarref05_Plain.l0 κ κ)) :=
  Piece.loop p_tollbarref05_Plain_0_ok C_ok mixed (gam37_ok κ m) gcN_ok (xN_ok gcN_ok (ex_nil) gcN_ok gcN_ok) (cut := noCut) (X := (xN (gcN 0 [0]) [] (gcN 0 [2]) (gcN 0 [1000000]))) (id := 0) (body := bodyOf (pieceOf (.blk 0) (getBody Tryd.f15))) (cuts_by (l := []) (by kernel_rfl) (all_nil)) (f := tollbarref05_Plain.l0 κ) (fun s => by kernel_rfl) (fun k s => by kernel_rfl) κ
def cc_tollbarref05_Plain_1 (κ : Nat) : Cut T := p_tollbarref05_Plain_0.cut (gcN 0 [0, 3]) (tollbarref05_Plain.l0 κ κ)
theorem cc_tollbarref05_Plain_1_ok (κ : Nat) (m : Int) : CutOk Tryd.prog C (G m) Tryd.f15.ntmps 0 (pieceOf (.blk 0) (getBody Tryd.f15)) (cc_tollbarref05_Plain_1 κ) := p_tollbarref05_Plain_0_ct κ m
def ct_tollbarref05_Plain_1 (κ : Nat) : Key → Option (Cut T) := addCut noCut (.blk 0) (cc_tollbarref05_Plain_1 κ)
def sp_tollbarref05_Plain : Spec T (ByteArray) (Bool) where
  dcI a H := match a, H with
    | [(.v (.s a0))], [] => some a0
    | _, _ => none
  ecA := fun a0 => [(.v (.s a0))]
  ecH := fun a0 => []
  dcO o := match o with
    | .ret (.v (.b a0)) [] => some a0
    | _ => none
  goO := fun _ a0 k => k (.ret (.v (.b a0)) [])
  ecO := fun a0 => .ret (.v (.b a0)) []
theorem sp_tollbarref05_Plain_ok : SpecOk sp_tollbarref05_Plain := by
  refine ⟨fun a H i h => ?_, fun o x h => ?_, fun R e k => by kernel_rfl⟩
  · simp only [sp_tollbarref05_Plain] at h ⊢; split at h <;> first | (cases h; exact ⟨rfl, rfl⟩) | (cases h; done)
  · simp only [sp_tollbarref05_Plain] at h ⊢; split at h <;> first | (cases h; rfl) | (cases h; done)
theorem ok_tollbarref05_Plain (κ : Nat) (m : Int) : EOk Tryd.prog C (G m) 15 (sp_tollbarref05_Plain.entry (fun a0 => tollbarref05_Plain κ a0)) :=
  Spec.ok sp_tollbarref05_Plain_ok C_ok mixed (gam37_ok κ m) (cut := (ct_tollbarref05_Plain_1 κ)) (NR := (gcN 0 [0])) (NP := (gcN 0 [0])) (nB := 0) Tryd.func15 (c := (getBody Tryd.f15)) (by kernel_rfl) (by kernel_rfl) (fun i => by kernel_rfl) gcN_ok gcN_ok (cuts_by (l := [(pieceOf (.blk 0) (getBody Tryd.f15), cc_tollbarref05_Plain_1 κ)]) (by kernel_rfl) (all_cons (cc_tollbarref05_Plain_1_ok κ m) (all_nil))) (fun i => by kernel_rfl)
noncomputable def gam38 (κ : Nat) : Gam T := (gam37 κ).addS 15 sp_tollbarref05_Plain (fun a0 => tollbarref05_Plain κ a0)
theorem gam38_ok (κ : Nat) (m : Int) : GOk Tryd.prog C (G m) (gam38 κ) := (gam37_ok κ m).addS (ok_tollbarref05_Plain κ m)
def p_tollbarref05_Quote_16 : Piece T (ByteArray × Int × ByteArray × (List Tollbarref05S)) (ByteArray × Int × ByteArray × Bool × (List Tollbarref05S)) where
  dcS env H ds := match env 3, env 4, env 5, env 6, H, ds with
    | (.v (.s a0)), (.own 0), (.v (.i .i64 a1)), (.v (.s a2)), [(.row 50 a3 true)], [] => some (a0, a1, a2, a3)
    | _, _, _, _, _, _ => none
  slS := fun (a0, a1, a2, a3) => [(3, (.v (.s a0))), (4, (.own 0)), (5, (.v (.i .i64 a1))), (6, (.v (.s a2)))]
  obS := fun (a0, a1, a2, a3) => [(.row 50 a3 true)]
  dsS := fun (a0, a1, a2, a3) => []
  dcE x env H ds := match x, env 3, env 4, env 5, env 6, env 26, H, ds with
    | .normal, (.v (.s a0)), (.own 0), (.v (.i .i64 a1)), (.v (.s a2)), (.v (.b a3)), [(.row 50 a4 true)], [] => some (a0, a1, a2, a3, a4)
    | _, _, _, _, _, _, _, _ => none
  exE := fun (a0, a1, a2, a3, a4) => .normal
  slE := fun (a0, a1, a2, a3, a4) => [(3, (.v (.s a0))), (4, (.own 0)), (5, (.v (.i .i64 a1))), (6, (.v (.s a2))), (26, (.v (.b a3)))]
  obE := fun (a0, a1, a2, a3, a4) => [(.row 50 a4 true)]
  dsE := fun (a0, a1, a2, a3, a4) => []
  goE := fun _ (a0, a1, a2, a3, a4) k => k .normal [(3, (.v (.s a0))), (4, (.own 0)), (5, (.v (.i .i64 a1))), (6, (.v (.s a2))), (26, (.v (.b a3)))] [(.row 50 a4 true)] []
theorem p_tollbarref05_Quote_16_ok : PieceOk p_tollbarref05_Quote_16 := by
  refine ⟨fun env H ds s h => ?_, fun x env H ds e h => ?_, fun R e k => by kernel_rfl⟩
  · simp only [p_tollbarref05_Quote_16] at h ⊢; split at h <;> first | (cases h; simp only [List.forall_mem_cons]; simp_all; done) | (cases h; done)
  · simp only [p_tollbarref05_Quote_16] at h ⊢; split at h <;> first | (cases h; simp only [List.forall_mem_cons]; simp_all; done) | (cases h; done)
theorem p_tollbarref05_Quote_16_ct (κ : Nat) (m : Int) : CutOk Tryd.prog C (G m) Tryd.f16.ntmps 0 (pieceOf (.reg 8) (getBody Tryd.f16)) (p_tollbarref05_Quote_16.cut (gcN 0 [3, 4, 5, 6]) (fun (a0, a1, a2, a3) => tollbarref05_Quote.v16 κ a0 a1 a2 a3)) :=
  Piece.join p_tollbarref05_Quote_16_ok C_ok mixed (gam38_ok κ m) gcN_ok (xN_ok gcN_ok (ex_cons gcN_ok (ex_cons gcN_ok (ex_cons gcN_ok (ex_nil)))) gcN_ok gcN_ok) (cut := noCut) (X := (xN (gcN 0 [3, 4, 5, 6, 26]) [(2, (gcN 0 [3, 4, 5])), (1, (gcN 0 [3, 4, 5])), (0, (gcN 0 [3]))] (gcN 0 [2]) (gcN 0 [1000000]))) (cuts_by (l := []) (by kernel_rfl) (all_nil)) (fun s => by kernel_rfl)
def cc_tollbarref05_Quote_17 (κ : Nat) : Cut T := p_tollbarref05_Quote_16.cut (gcN 0 [3, 4, 5, 6]) (fun (a0, a1, a2, a3) => tollbarref05_Quote.v16 κ a0 a1 a2 a3)
theorem cc_tollbarref05_Quote_17_ok (κ : Nat) (m : Int) : CutOk Tryd.prog C (G m) Tryd.f16.ntmps 0 (pieceOf (.reg 8) (getBody Tryd.f16)) (cc_tollbarref05_Quote_17 κ) := p_tollbarref05_Quote_16_ct κ m
def ct_tollbarref05_Quote_17 (κ : Nat) : Key → Option (Cut T) := addCut noCut (.reg 8) (cc_tollbarref05_Quote_17 κ)
def p_tollbarref05_Quote_21 : Piece T (ByteArray × Int × ByteArray × (List Tollbarref05S)) (ByteArray × Int × ByteArray × Bool × (List Tollbarref05S)) where
  dcS env H ds := match env 3, env 4, env 5, env 6, H, ds with
    | (.v (.s a0)), (.own 0), (.v (.i .i64 a1)), (.v (.s a2)), [(.row 50 a3 true)], [] => some (a0, a1, a2, a3)
    | _, _, _, _, _, _ => none
  slS := fun (a0, a1, a2, a3) => [(3, (.v (.s a0))), (4, (.own 0)), (5, (.v (.i .i64 a1))), (6, (.v (.s a2)))]
  obS := fun (a0, a1, a2, a3) => [(.row 50 a3 true)]
  dsS := fun (a0, a1, a2, a3) => []
  dcE x env H ds := match x, env 3, env 4, env 5, env 6, env 47, H, ds with
    | .normal, (.v (.s a0)), (.own 0), (.v (.i .i64 a1)), (.v (.s a2)), (.v (.b a3)), [(.row 50 a4 true)], [] => some (a0, a1, a2, a3, a4)
    | _, _, _, _, _, _, _, _ => none
  exE := fun (a0, a1, a2, a3, a4) => .normal
  slE := fun (a0, a1, a2, a3, a4) => [(3, (.v (.s a0))), (4, (.own 0)), (5, (.v (.i .i64 a1))), (6, (.v (.s a2))), (47, (.v (.b a3)))]
  obE := fun (a0, a1, a2, a3, a4) => [(.row 50 a4 true)]
  dsE := fun (a0, a1, a2, a3, a4) => []
  goE := fun _ (a0, a1, a2, a3, a4) k => k .normal [(3, (.v (.s a0))), (4, (.own 0)), (5, (.v (.i .i64 a1))), (6, (.v (.s a2))), (47, (.v (.b a3)))] [(.row 50 a4 true)] []
theorem p_tollbarref05_Quote_21_ok : PieceOk p_tollbarref05_Quote_21 := by
  refine ⟨fun env H ds s h => ?_, fun x env H ds e h => ?_, fun R e k => by kernel_rfl⟩
  · simp only [p_tollbarref05_Quote_21] at h ⊢; split at h <;> first | (cases h; simp only [List.forall_mem_cons]; simp_all; done) | (cases h; done)
  · simp only [p_tollbarref05_Quote_21] at h ⊢; split at h <;> first | (cases h; simp only [List.forall_mem_cons]; simp_all; done) | (cases h; done)
theorem p_tollbarref05_Quote_21_ct (κ : Nat) (m : Int) : CutOk Tryd.prog C (G m) Tryd.f16.ntmps 0 (pieceOf (.reg 14) (getBody Tryd.f16)) (p_tollbarref05_Quote_21.cut (gcN 0 [3, 4, 5, 6]) (fun (a0, a1, a2, a3) => tollbarref05_Quote.v21 κ a0 a1 a2 a3)) :=
  Piece.join p_tollbarref05_Quote_21_ok C_ok mixed (gam38_ok κ m) gcN_ok (xN_ok gcN_ok (ex_cons gcN_ok (ex_cons gcN_ok (ex_cons gcN_ok (ex_nil)))) gcN_ok gcN_ok) (cut := (ct_tollbarref05_Quote_17 κ)) (X := (xN (gcN 0 [3, 4, 5, 6, 47]) [(2, (gcN 0 [3, 4, 5])), (1, (gcN 0 [3, 4, 5])), (0, (gcN 0 [3]))] (gcN 0 [2]) (gcN 0 [1000000]))) (cuts_by (l := []) (by kernel_rfl) (all_nil)) (fun s => by kernel_rfl)
def cc_tollbarref05_Quote_22 (κ : Nat) : Cut T := p_tollbarref05_Quote_21.cut (gcN 0 [3, 4, 5, 6]) (fun (a0, a1, a2, a3) => tollbarref05_Quote.v21 κ a0 a1 a2 a3)
theorem cc_tollbarref05_Quote_22_ok (κ : Nat) (m : Int) : CutOk Tryd.prog C (G m) Tryd.f16.ntmps 0 (pieceOf (.reg 14) (getBody Tryd.f16)) (cc_tollbarref05_Quote_22 κ) := p_tollbarref05_Quote_21_ct κ m
def ct_tollbarref05_Quote_22 (κ : Nat) : Key → Option (Cut T) := addCut (ct_tollbarref05_Quote_17 κ) (.reg 14) (cc_tollbarref05_Quote_22 κ)
def p_tollbarref05_Quote_23 : Piece T (ByteArray × Int × ByteArray × Bool × (List Tollbarref05S)) (ByteArray × Int × (List Tollbarref05S)) where
  dcS env H ds := match env 3, env 4, env 5, env 6, env 47, H, ds with
    | (.v (.s a0)), (.own 0), (.v (.i .i64 a1)), (.v (.s a2)), (.v (.b a3)), [(.row 50 a4 true)], [] => some (a0, a1, a2, a3, a4)
    | _, _, _, _, _, _, _ => none
  slS := fun (a0, a1, a2, a3, a4) => [(3, (.v (.s a0))), (4, (.own 0)), (5, (.v (.i .i64 a1))), (6, (.v (.s a2))), (47, (.v (.b a3)))]
  obS := fun (a0, a1, a2, a3, a4) => [(.row 50 a4 true)]
  dsS := fun (a0, a1, a2, a3, a4) => []
  dcE x env H ds := match x, env 3, env 4, env 5, H, ds with
    | .normal, (.v (.s a0)), (.own 0), (.v (.i .i64 a1)), [(.row 50 a2 true)], [] => some (a0, a1, a2)
    | _, _, _, _, _, _ => none
  exE := fun (a0, a1, a2) => .normal
  slE := fun (a0, a1, a2) => [(3, (.v (.s a0))), (4, (.own 0)), (5, (.v (.i .i64 a1)))]
  obE := fun (a0, a1, a2) => [(.row 50 a2 true)]
  dsE := fun (a0, a1, a2) => []
  goE := fun _ (a0, a1, a2) k => k .normal [(3, (.v (.s a0))), (4, (.own 0)), (5, (.v (.i .i64 a1)))] [(.row 50 a2 true)] []
theorem p_tollbarref05_Quote_23_ok : PieceOk p_tollbarref05_Quote_23 := by
  refine ⟨fun env H ds s h => ?_, fun x env H ds e h => ?_, fun R e k => by kernel_rfl⟩
  · simp only [p_tollbarref05_Quote_23] at h ⊢; split at h <;> first | (cases h; simp only [List.forall_mem_cons]; simp_all; done) | (cases h; done)
  · simp only [p_tollbarref05_Quote_23] at h ⊢; split at h <;> first | (cases h; simp only [List.forall_mem_cons]; simp_all; done) | (cases h; done)
theorem p_tollbarref05_Quote_23_ct (κ : Nat) (m : Int) : CutOk Tryd.prog C (G m) Tryd.f16.ntmps 0 (pieceOf (.cnd 47 16) (getBody Tryd.f16)) (p_tollbarref05_Quote_23.cut (gcN 0 [3, 4, 5, 6, 47]) (fun (a0, a1, a2, a3, a4) => tollbarref05_Quote.v23 κ a0 a1 a2 a3 a4)) :=
  Piece.join p_tollbarref05_Quote_23_ok C_ok mixed (gam38_ok κ m) gcN_ok (xN_ok gcN_ok (ex_cons gcN_ok (ex_cons gcN_ok (ex_cons gcN_ok (ex_nil)))) gcN_ok gcN_ok) (cut := (ct_tollbarref05_Quote_22 κ)) (X := (xN (gcN 0 [3, 4, 5]) [(2, (gcN 0 [3, 4, 5])), (1, (gcN 0 [3, 4, 5])), (0, (gcN 0 [3]))] (gcN 0 [2]) (gcN 0 [1000000]))) (cuts_by (l := []) (by kernel_rfl) (all_nil)) (fun s => by kernel_rfl)
def cc_tollbarref05_Quote_24 (κ : Nat) : Cut T := p_tollbarref05_Quote_23.cut (gcN 0 [3, 4, 5, 6, 47]) (fun (a0, a1, a2, a3, a4) => tollbarref05_Quote.v23 κ a0 a1 a2 a3 a4)
theorem cc_tollbarref05_Quote_24_ok (κ : Nat) (m : Int) : CutOk Tryd.prog C (G m) Tryd.f16.ntmps 0 (pieceOf (.cnd 47 16) (getBody Tryd.f16)) (cc_tollbarref05_Quote_24 κ) := p_tollbarref05_Quote_23_ct κ m
def ct_tollbarref05_Quote_24 (κ : Nat) : Key → Option (Cut T) := addCut (ct_tollbarref05_Quote_22 κ) (.cnd 47 16) (cc_tollbarref05_Quote_24 κ)
def p_tollbarref05_Quote_20 : Piece T (ByteArray × Int × ByteArray × Bool × (List Tollbarref05S)) (ByteArray × Int × (List Tollbarref05S)) where
  dcS env H ds := match env 3, env 4, env 5, env 6, env 42, H, ds with
    | (.v (.s a0)), (.own 0), (.v (.i .i64 a1)), (.v (.s a2)), (.v (.b a3)), [(.row 50 a4 true)], [] => some (a0, a1, a2, a3, a4)
    | _, _, _, _, _, _, _ => none
  slS := fun (a0, a1, a2, a3, a4) => [(3, (.v (.s a0))), (4, (.own 0)), (5, (.v (.i .i64 a1))), (6, (.v (.s a2))), (42, (.v (.b a3)))]
  obS := fun (a0, a1, a2, a3, a4) => [(.row 50 a4 true)]
  dsS := fun (a0, a1, a2, a3, a4) => []
  dcE x env H ds := match x, env 3, env 4, env 5, H, ds with
    | .normal, (.v (.s a0)), (.own 0), (.v (.i .i64 a1)), [(.row 50 a2 true)], [] => some (a0, a1, a2)
    | _, _, _, _, _, _ => none
  exE := fun (a0, a1, a2) => .normal
  slE := fun (a0, a1, a2) => [(3, (.v (.s a0))), (4, (.own 0)), (5, (.v (.i .i64 a1)))]
  obE := fun (a0, a1, a2) => [(.row 50 a2 true)]
  dsE := fun (a0, a1, a2) => []
  goE := fun _ (a0, a1, a2) k => k .normal [(3, (.v (.s a0))), (4, (.own 0)), (5, (.v (.i .i64 a1)))] [(.row 50 a2 true)] []
theorem p_tollbarref05_Quote_20_ok : PieceOk p_tollbarref05_Quote_20 := by
  refine ⟨fun env H ds s h => ?_, fun x env H ds e h => ?_, fun R e k => by kernel_rfl⟩
  · simp only [p_tollbarref05_Quote_20] at h ⊢; split at h <;> first | (cases h; simp only [List.forall_mem_cons]; simp_all; done) | (cases h; done)
  · simp only [p_tollbarref05_Quote_20] at h ⊢; split at h <;> first | (cases h; simp only [List.forall_mem_cons]; simp_all; done) | (cases h; done)
theorem p_tollbarref05_Quote_20_ct (κ : Nat) (m : Int) : CutOk Tryd.prog C (G m) Tryd.f16.ntmps 0 (pieceOf (.cnd 42 14) (getBody Tryd.f16)) (p_tollbarref05_Quote_20.cut (gcN 0 [3, 4, 5, 6, 42]) (fun (a0, a1, a2, a3, a4) => tollbarref05_Quote.v20 κ a0 a1 a2 a3 a4)) :=
  Piece.join p_tollbarref05_Quote_20_ok C_ok mixed (gam38_ok κ m) gcN_ok (xN_ok gcN_ok (ex_cons gcN_ok (ex_cons gcN_ok (ex_cons gcN_ok (ex_nil)))) gcN_ok gcN_ok) (cut := (ct_tollbarref05_Quote_24 κ)) (X := (xN (gcN 0 [3, 4, 5]) [(2, (gcN 0 [3, 4, 5])), (1, (gcN 0 [3, 4, 5])), (0, (gcN 0 [3]))] (gcN 0 [2]) (gcN 0 [1000000]))) (cuts_by (l := [(pieceOf (.reg 14) (getBody Tryd.f16), cc_tollbarref05_Quote_22 κ), (pieceOf (.cnd 47 16) (getBody Tryd.f16), cc_tollbarref05_Quote_24 κ)]) (by kernel_rfl) (all_cons (cc_tollbarref05_Quote_22_ok κ m) (all_cons (cc_tollbarref05_Quote_24_ok κ m) (all_nil)))) (fun s => by kernel_rfl)
def cc_tollbarref05_Quote_25 (κ : Nat) : Cut T := p_tollbarref05_Quote_20.cut (gcN 0 [3, 4, 5, 6, 42]) (fun (a0, a1, a2, a3, a4) => tollbarref05_Quote.v20 κ a0 a1 a2 a3 a4)
theorem cc_tollbarref05_Quote_25_ok (κ : Nat) (m : Int) : CutOk Tryd.prog C (G m) Tryd.f16.ntmps 0 (pieceOf (.cnd 42 14) (getBody Tryd.f16)) (cc_tollbarref05_Quote_25 κ) := p_tollbarref05_Quote_20_ct κ m
def ct_tollbarref05_Quote_25 (κ : Nat) : Key → Option (Cut T) := addCut (ct_tollbarref05_Quote_17 κ) (.cnd 42 14) (cc_tollbarref05_Quote_25 κ)
def p_tollbarref05_Quote_19 : Piece T (ByteArray × Int × ByteArray × Bool × (List Tollbarref05S)) (ByteArray × Int × (List Tollbarref05S)) where
  dcS env H ds := match env 3, env 4, env 5, env 6, env 37, H, ds with
    | (.v (.s a0)), (.own 0), (.v (.i .i64 a1)), (.v (.s a2)), (.v (.b a3)), [(.row 50 a4 true)], [] => some (a0, a1, a2, a3, a4)
    | _, _, _, _, _, _, _ => none
  slS := fun (a0, a1, a2, a3, a4) => [(3, (.v (.s a0))), (4, (.own 0)), (5, (.v (.i .i64 a1))), (6, (.v (.s a2))), (37, (.v (.b a3)))]
  obS := fun (a0, a1, a2, a3, a4) => [(.row 50 a4 true)]
  dsS := fun (a0, a1, a2, a3, a4) => []
  dcE x env H ds := match x, env 3, env 4, env 5, H, ds with
    | .normal, (.v (.s a0)), (.own 0), (.v (.i .i64 a1)), [(.row 50 a2 true)], [] => some (a0, a1, a2)
    | _, _, _, _, _, _ => none
  exE := fun (a0, a1, a2) => .normal
  slE := fun (a0, a1, a2) => [(3, (.v (.s a0))), (4, (.own 0)), (5, (.v (.i .i64 a1)))]
  obE := fun (a0, a1, a2) => [(.row 50 a2 true)]
  dsE := fun (a0, a1, a2) => []
  goE := fun _ (a0, a1, a2) k => k .normal [(3, (.v (.s a0))), (4, (.own 0)), (5, (.v (.i .i64 a1)))] [(.row 50 a2 true)] []
theorem p_tollbarref05_Quote_19_ok : PieceOk p_tollbarref05_Quote_19 := by
  refine ⟨fun env H ds s h => ?_, fun x env H ds e h => ?_, fun R e k => by kernel_rfl⟩
  · simp only [p_tollbarref05_Quote_19] at h ⊢; split at h <;> first | (cases h; simp only [List.forall_mem_cons]; simp_all; done) | (cases h; done)
  · simp only [p_tollbarref05_Quote_19] at h ⊢; split at h <;> first | (cases h; simp only [List.forall_mem_cons]; simp_all; done) | (cases h; done)
theorem p_tollbarref05_Quote_19_ct (κ : Nat) (m : Int) : CutOk Tryd.prog C (G m) Tryd.f16.ntmps 0 (pieceOf (.cnd 37 12) (getBody Tryd.f16)) (p_tollbarref05_Quote_19.cut (gcN 0 [3, 4, 5, 6, 37]) (fun (a0, a1, a2, a3, a4) => tollbarref05_Quote.v19 κ a0 a1 a2 a3 a4)) :=
  Piece.join p_tollbarref05_Quote_19_ok C_ok mixed (gam38_ok κ m) gcN_ok (xN_ok gcN_ok (ex_cons gcN_ok (ex_cons gcN_ok (ex_cons gcN_ok (ex_nil)))) gcN_ok gcN_ok) (cut := (ct_tollbarref05_Quote_25 κ)) (X := (xN (gcN 0 [3, 4, 5]) [(2, (gcN 0 [3, 4, 5])), (1, (gcN 0 [3, 4, 5])), (0, (gcN 0 [3]))] (gcN 0 [2]) (gcN 0 [1000000]))) (cuts_by (l := [(pieceOf (.cnd 42 14) (getBody Tryd.f16), cc_tollbarref05_Quote_25 κ)]) (by kernel_rfl) (all_cons (cc_tollbarref05_Quote_25_ok κ m) (all_nil))) (fun s => by kernel_rfl)
def cc_tollbarref05_Quote_26 (κ : Nat) : Cut T := p_tollbarref05_Quote_19.cut (gcN 0 [3, 4, 5, 6, 37]) (fun (a0, a1, a2, a3, a4) => tollbarref05_Quote.v19 κ a0 a1 a2 a3 a4)
theorem cc_tollbarref05_Quote_26_ok (κ : Nat) (m : Int) : CutOk Tryd.prog C (G m) Tryd.f16.ntmps 0 (pieceOf (.cnd 37 12) (getBody Tryd.f16)) (cc_tollbarref05_Quote_26 κ) := p_tollbarref05_Quote_19_ct κ m
def ct_tollbarref05_Quote_26 (κ : Nat) : Key → Option (Cut T) := addCut (ct_tollbarref05_Quote_17 κ) (.cnd 37 12) (cc_tollbarref05_Quote_26 κ)
def p_tollbarref05_Quote_18 : Piece T (ByteArray × Int × ByteArray × Bool × (List Tollbarref05S)) (ByteArray × Int × (List Tollbarref05S)) where
  dcS env H ds := match env 3, env 4, env 5, env 6, env 26, H, ds with
    | (.v (.s a0)), (.own 0), (.v (.i .i64 a1)), (.v (.s a2)), (.v (.b a3)), [(.row 50 a4 true)], [] => some (a0, a1, a2, a3, a4)
    | _, _, _, _, _, _, _ => none
  slS := fun (a0, a1, a2, a3, a4) => [(3, (.v (.s a0))), (4, (.own 0)), (5, (.v (.i .i64 a1))), (6, (.v (.s a2))), (26, (.v (.b a3)))]
  obS := fun (a0, a1, a2, a3, a4) => [(.row 50 a4 true)]
  dsS := fun (a0, a1, a2, a3, a4) => []
  dcE x env H ds := match x, env 3, env 4, env 5, H, ds with
    | .normal, (.v (.s a0)), (.own 0), (.v (.i .i64 a1)), [(.row 50 a2 true)], [] => some (a0, a1, a2)
    | _, _, _, _, _, _ => none
  exE := fun (a0, a1, a2) => .normal
  slE := fun (a0, a1, a2) => [(3, (.v (.s a0))), (4, (.own 0)), (5, (.v (.i .i64 a1)))]
  obE := fun (a0, a1, a2) => [(.row 50 a2 true)]
  dsE := fun (a0, a1, a2) => []
  goE := fun _ (a0, a1, a2) k => k .normal [(3, (.v (.s a0))), (4, (.own 0)), (5, (.v (.i .i64 a1)))] [(.row 50 a2 true)] []
theorem p_tollbarref05_Quote_18_ok : PieceOk p_tollbarref05_Quote_18 := by
  refine ⟨fun env H ds s h => ?_, fun x env H ds e h => ?_, fun R e k => by kernel_rfl⟩
  · simp only [p_tollbarref05_Quote_18] at h ⊢; split at h <;> first | (cases h; simp only [List.forall_mem_cons]; simp_all; done) | (cases h; done)
  · simp only [p_tollbarref05_Quote_18] at h ⊢; split at h <;> first | (cases h; simp only [List.forall_mem_cons]; simp_all; done) | (cases h; done)
theorem p_tollbarref05_Quote_18_ct (κ : Nat) (m : Int) : CutOk Tryd.prog C (G m) Tryd.f16.ntmps 0 (pieceOf (.cnd 26 10) (getBody Tryd.f16)) (p_tollbarref05_Quote_18.cut (gcN 0 [3, 4, 5, 6, 26]) (fun (a0, a1, a2, a3, a4) => tollbarref05_Quote.v18 κ a0 a1 a2 a3 a4)) :=
  Piece.join p_tollbarref05_Quote_18_ok C_ok mixed (gam38_ok κ m) gcN_ok (xN_ok gcN_ok (ex_cons gcN_ok (ex_cons gcN_ok (ex_cons gcN_ok (ex_nil)))) gcN_ok gcN_ok) (cut := (ct_tollbarref05_Quote_26 κ)) (X := (xN (gcN 0 [3, 4, 5]) [(2, (gcN 0 [3, 4, 5])), (1, (gcN 0 [3, 4, 5])), (0, (gcN 0 [3]))] (gcN 0 [2]) (gcN 0 [1000000]))) (cuts_by (l := [(pieceOf (.cnd 37 12) (getBody Tryd.f16), cc_tollbarref05_Quote_26 κ)]) (by kernel_rfl) (all_cons (cc_tollbarref05_Quote_26_ok κ m) (all_nil))) (fun s => by kernel_rfl)
def cc_tollbarref05_Quote_27 (κ : Nat) : Cut T := p_tollbarref05_Quote_18.cut (gcN 0 [3, 4, 5, 6, 26]) (fun (a0, a1, a2, a3, a4) => tollbarref05_Quote.v18 κ a0 a1 a2 a3 a4)
theorem cc_tollbarref05_Quote_27_ok (κ : Nat) (m : Int) : CutOk Tryd.prog C (G m) Tryd.f16.ntmps 0 (pieceOf (.cnd 26 10) (getBody Tryd.f16)) (cc_tollbarref05_Quote_27 κ) := p_tollbarref05_Quote_18_ct κ m
def ct_tollbarref05_Quote_27 (κ : Nat) : Key → Option (Cut T) := addCut (ct_tollbarref05_Quote_17 κ) (.cnd 26 10) (cc_tollbarref05_Quote_27 κ)
def p_tollbarref05_Quote_15 : Piece T (ByteArray × Int × ByteArray × (List Tollbarref05S)) (ByteArray × Int × (List Tollbarref05S)) where
  dcS env H ds := match env 3, env 4, env 5, env 6, H, ds with
    | (.v (.s a0)), (.own 0), (.v (.i .i64 a1)), (.v (.s a2)), [(.row 50 a3 true)], [] => some (a0, a1, a2, a3)
    | _, _, _, _, _, _ => none
  slS := fun (a0, a1, a2, a3) => [(3, (.v (.s a0))), (4, (.own 0)), (5, (.v (.i .i64 a1))), (6, (.v (.s a2)))]
  obS := fun (a0, a1, a2, a3) => [(.row 50 a3 true)]
  dsS := fun (a0, a1, a2, a3) => []
  dcE x env H ds := match x, env 3, env 4, env 5, H, ds with
    | .normal, (.v (.s a0)), (.own 0), (.v (.i .i64 a1)), [(.row 50 a2 true)], [] => some (a0, a1, a2)
    | _, _, _, _, _, _ => none
  exE := fun (a0, a1, a2) => .normal
  slE := fun (a0, a1, a2) => [(3, (.v (.s a0))), (4, (.own 0)), (5, (.v (.i .i64 a1)))]
  obE := fun (a0, a1, a2) => [(.row 50 a2 true)]
  dsE := fun (a0, a1, a2) => []
  goE := fun _ (a0, a1, a2) k => k .normal [(3, (.v (.s a0))), (4, (.own 0)), (5, (.v (.i .i64 a1)))] [(.row 50 a2 true)] []
theorem p_tollbarref05_Quote_15_ok : PieceOk p_tollbarref05_Quote_15 := by
  refine ⟨fun env H ds s h => ?_, fun x env H ds e h => ?_, fun R e k => by kernel_rfl⟩
  · simp only [p_tollbarref05_Quote_15] at h ⊢; split at h <;> first | (cases h; simp only [List.forall_mem_cons]; simp_all; done) | (cases h; done)
  · simp only [p_tollbarref05_Quote_15] at h ⊢; split at h <;> first | (cases h; simp only [List.forall_mem_cons]; simp_all; done) | (cases h; done)
theorem p_tollbarref05_Quote_15_ct (κ : Nat) (m : Int) : CutOk Tryd.prog C (G m) Tryd.f16.ntmps 0 (pieceOf (.blk 2) (getBody Tryd.f16)) (p_tollbarref05_Quote_15.cut (gcN 0 [3, 4, 5, 6]) (fun (a0, a1, a2, a3) => tollbarref05_Quote.v15 κ a0 a1 a2 a3)) :=
  Piece.join p_tollbarref05_Quote_15_ok C_ok mixed (gam38_ok κ m) gcN_ok (xN_ok gcN_ok (ex_cons gcN_ok (ex_cons gcN_ok (ex_nil))) gcN_ok gcN_ok) (cut := (ct_tollbarref05_Quote_27 κ)) (X := (xN (gcN 0 [3, 4, 5]) [(1, (gcN 0 [3, 4, 5])), (0, (gcN 0 [3]))] (gcN 0 [2]) (gcN 0 [1000000]))) (cuts_by (l := [(pieceOf (.reg 8) (getBody Tryd.f16), cc_tollbarref05_Quote_17 κ), (pieceOf (.cnd 26 10) (getBody Tryd.f16), cc_tollbarref05_Quote_27 κ)]) (by kernel_rfl) (all_cons (cc_tollbarref05_Quote_17_ok κ m) (all_cons (cc_tollbarref05_Quote_27_ok κ m) (all_nil)))) (fun s => by kernel_rfl)
def cc_tollbarref05_Quote_28 (κ : Nat) : Cut T := p_tollbarref05_Quote_15.cut (gcN 0 [3, 4, 5, 6]) (fun (a0, a1, a2, a3) => tollbarref05_Quote.v15 κ a0 a1 a2 a3)
theorem cc_tollbarref05_Quote_28_ok (κ : Nat) (m : Int) : CutOk Tryd.prog C (G m) Tryd.f16.ntmps 0 (pieceOf (.blk 2) (getBody Tryd.f16)) (cc_tollbarref05_Quote_28 κ) := p_tollbarref05_Quote_15_ct κ m
def ct_tollbarref05_Quote_28 (κ : Nat) : Key → Option (Cut T) := addCut noCut (.blk 2) (cc_tollbarref05_Quote_28 κ)
def p_tollbarref05_Quote_14 : Piece T (ByteArray × Int × (List Tollbarref05S)) (ByteArray) where
  dcS env H ds := match env 3, env 4, env 5, H, ds with
    | (.v (.s a0)), (.own 0), (.v (.i .i64 a1)), [(.row 50 a2 true)], [] => some (a0, a1, a2)
    | _, _, _, _, _ => none
  slS := fun (a0, a1, a2) => [(3, (.v (.s a0))), (4, (.own 0)), (5, (.v (.i .i64 a1)))]
  obS := fun (a0, a1, a2) => [(.row 50 a2 true)]
  dsS := fun (a0, a1, a2) => []
  dcE x env H ds := match x, env 3, H, ds with
    | .normal, (.v (.s a0)), [], [] => some a0
    | _, _, _, _ => none
  exE := fun a0 => .normal
  slE := fun a0 => [(3, (.v (.s a0)))]
  obE := fun a0 => []
  dsE := fun a0 => []
  goE := fun _ a0 k => k .normal [(3, (.v (.s a0)))] [] []
theorem p_tollbarref05_Quote_14_ok : PieceOk p_tollbarref05_Quote_14 := by
  refine ⟨fun env H ds s h => ?_, fun x env H ds e h => ?_, fun R e k => by kernel_rfl⟩
  · simp only [p_tollbarref05_Quote_14] at h ⊢; split at h <;> first | (cases h; simp only [List.forall_mem_cons]; simp_all; done) | (cases h; done)
  · simp only [p_tollbarref05_Quote_14] at h ⊢; split at h <;> first | (cases h; simp only [List.forall_mem_cons]; simp_all; done) | (cases h; done)
theorem p_tollbarref05_Quote_14_ct (κ : Nat) (m : Int) : CutOk Tryd.prog C (G m) Tryd.f16.ntmps 0 (pieceOf (.blk 0) (getBody Tryd.f16)) (p_tollbarref05_Quote_14.cut (gcN 0 [3, 4, 5]) (tollbarref05_Quote.l14 κ κ)) :=
  Piece.loop p_tollbarref05_Quote_14_ok C_ok mixed (gam38_ok κ m) gcN_ok (xN_ok gcN_ok (ex_nil) gcN_ok gcN_ok) (cut := (ct_tollbarref05_Quote_28 κ)) (X := (xN (gcN 0 [3]) [] (gcN 0 [2]) (gcN 0 [1000000]))) (id := 0) (body := bodyOf (pieceOf (.blk 0) (getBody Tryd.f16))) (cuts_by (l := [(pieceOf (.blk 2) (getBody Tryd.f16), cc_tollbarref05_Quote_28 κ)]) (by kernel_rfl) (all_cons (cc_tollbarref05_Quote_28_ok κ m) (all_nil))) (f := tollbarref05_Quote.l14 κ) (fun s => by kernel_rfl) (fun k s => by kernel_rfl) κ
def cc_tollbarref05_Quote_29 (κ : Nat) : Cut T := p_tollbarref05_Quote_14.cut (gcN 0 [3, 4, 5]) (tollbarref05_Quote.l14 κ κ)
theorem cc_tollbarref05_Quote_29_ok (κ : Nat) (m : Int) : CutOk Tryd.prog C (G m) Tryd.f16.ntmps 0 (pieceOf (.blk 0) (getBody Tryd.f16)) (cc_tollbarref05_Quote_29 κ) := p_tollbarref05_Quote_14_ct κ m
def ct_tollbarref05_Quote_29 (κ : Nat) : Key → Option (Cut T) := addCut noCut (.blk 0) (cc_tollbarref05_Quote_29 κ)
def sp_tollbarref05_Quote : Spec T (ByteArray) (ByteArray) where
  dcI a H := match a, H with
    | [(.v (.s a0))], [] => some a0
    | _, _ => none
  ecA := fun a0 => [(.v (.s a0))]
  ecH := fun a0 => []
  dcO o := match o with
    | .ret (.v (.s a0)) [] => some a0
    | _ => none
  goO := fun _ a0 k => k (.ret (.v (.s a0)) [])
  ecO := fun a0 => .ret (.v (.s a0)) []
theorem sp_tollbarref05_Quote_ok : SpecOk sp_tollbarref05_Quote := by
  refine ⟨fun a H i h => ?_, fun o x h => ?_, fun R e k => by kernel_rfl⟩
  · simp only [sp_tollbarref05_Quote] at h ⊢; split at h <;> first | (cases h; exact ⟨rfl, rfl⟩) | (cases h; done)
  · simp only [sp_tollbarref05_Quote] at h ⊢; split at h <;> first | (cases h; rfl) | (cases h; done)
theorem ok_tollbarref05_Quote (κ : Nat) (m : Int) : EOk Tryd.prog C (G m) 16 (sp_tollbarref05_Quote.entry (fun a0 => tollbarref05_Quote κ a0)) :=
  Spec.ok sp_tollbarref05_Quote_ok C_ok mixed (gam38_ok κ m) (cut := (ct_tollbarref05_Quote_29 κ)) (NR := (gcN 0 [0])) (NP := (gcN 0 [0])) (nB := 0) Tryd.func16 (c := (getBody Tryd.f16)) (by kernel_rfl) (by kernel_rfl) (fun i => by kernel_rfl) gcN_ok gcN_ok (cuts_by (l := [(pieceOf (.blk 0) (getBody Tryd.f16), cc_tollbarref05_Quote_29 κ)]) (by kernel_rfl) (all_cons (cc_tollbarref05_Quote_29_ok κ m) (all_nil))) (fun i => by kernel_rfl)
noncomputable def gam39 (κ : Nat) : Gam T := (gam38 κ).addS 16 sp_tollbarref05_Quote (fun a0 => tollbarref05_Quote κ a0)
theorem gam39_ok (κ : Nat) (m : Int) : GOk Tryd.prog C (G m) (gam39 κ) := (gam38_ok κ m).addS (ok_tollbarref05_Quote κ m)
def p_tollbarlaw05_LexQuotes_0 : Piece T (ByteArray × ByteArray × Int × (List LexToken)) (ByteArray × Bool × (List LexToken)) where
  dcS env H ds := match env 0, env 4, env 5, env 6, H, ds with
    | (.v (.s a0)), (.v (.s a1)), (.own 0), (.v (.i .i64 a2)), [(.row 37 a3 true)], [] => some (a0, a1, a2, a3)
    | _, _, _, _, _, _ => none
  slS := fun (a0, a1, a2, a3) => [(0, (.v (.s a0))), (4, (.v (.s a1))), (5, (.own 0)), (6, (.v (.i .i64 a2)))]
  obS := fun (a0, a1, a2, a3) => [(.row 37 a3 true)]
  dsS := fun (a0, a1, a2, a3) => []
  dcE x env H ds := match x, env 0, env 5, env 44, H, ds with
    | .normal, (.v (.s a0)), (.own 0), (.v (.b a1)), [(.row 37 a2 true)], [] => some (a0, a1, a2)
    | _, _, _, _, _, _ => none
  exE := fun (a0, a1, a2) => .normal
  slE := fun (a0, a1, a2) => [(0, (.v (.s a0))), (5, (.own 0)), (44, (.v (.b a1)))]
  obE := fun (a0, a1, a2) => [(.row 37 a2 true)]
  dsE := fun (a0, a1, a2) => []
  goE := fun _ (a0, a1, a2) k => k .normal [(0, (.v (.s a0))), (5, (.own 0)), (44, (.v (.b a1)))] [(.row 37 a2 true)] []
theorem p_tollbarlaw05_LexQuotes_0_ok : PieceOk p_tollbarlaw05_LexQuotes_0 := by
  refine ⟨fun env H ds s h => ?_, fun x env H ds e h => ?_, fun R e k => by kernel_rfl⟩
  · simp only [p_tollbarlaw05_LexQuotes_0] at h ⊢; split at h <;> first | (cases h; simp only [List.forall_mem_cons]; simp_all; done) | (cases h; done)
  · simp only [p_tollbarlaw05_LexQuotes_0] at h ⊢; split at h <;> first | (cases h; simp only [List.forall_mem_cons]; simp_all; done) | (cases h; done)
theorem p_tollbarlaw05_LexQuotes_0_ct (κ : Nat) (m : Int) : CutOk Tryd.prog C (G m) Tryd.f4.ntmps 0 (pieceOf (.reg 8) (getBody Tryd.f4)) (p_tollbarlaw05_LexQuotes_0.cut (gcN 0 [0, 4, 5, 6]) (fun (a0, a1, a2, a3) => tollbarlaw05_LexQuotes.v0 κ a0 a1 a2 a3)) :=
  Piece.join p_tollbarlaw05_LexQuotes_0_ok C_ok mixed (gam39_ok κ m) gcN_ok (xN_ok gcN_ok (ex_nil) gcN_ok gcN_ok) (cut := noCut) (X := (xN (gcN 0 [0, 5, 44]) [] (gcN 0 [2]) (gcN 0 [1000000]))) (cuts_by (l := []) (by kernel_rfl) (all_nil)) (fun s => by kernel_rfl)
def cc_tollbarlaw05_LexQuotes_1 (κ : Nat) : Cut T := p_tollbarlaw05_LexQuotes_0.cut (gcN 0 [0, 4, 5, 6]) (fun (a0, a1, a2, a3) => tollbarlaw05_LexQuotes.v0 κ a0 a1 a2 a3)
theorem cc_tollbarlaw05_LexQuotes_1_ok (κ : Nat) (m : Int) : CutOk Tryd.prog C (G m) Tryd.f4.ntmps 0 (pieceOf (.reg 8) (getBody Tryd.f4)) (cc_tollbarlaw05_LexQuotes_1 κ) := p_tollbarlaw05_LexQuotes_0_ct κ m
def ct_tollbarlaw05_LexQuotes_1 (κ : Nat) : Key → Option (Cut T) := addCut noCut (.reg 8) (cc_tollbarlaw05_LexQuotes_1 κ)
def p_tollbarlaw05_LexQuotes_3 : Piece T (ByteArray × Int × (List LexToken) × (List LexToken)) (ByteArray × Bool × (List LexToken)) where
  dcS env H ds := match env 0, env 5, env 8, env 9, H, ds with
    | (.v (.s a0)), (.own 0), (.own 1), (.v (.i .i64 a1)), [(.row 37 a2 true), (.row 37 a3 true)], [] => some (a0, a1, a2, a3)
    | _, _, _, _, _, _ => none
  slS := fun (a0, a1, a2, a3) => [(0, (.v (.s a0))), (5, (.own 0)), (8, (.own 1)), (9, (.v (.i .i64 a1)))]
  obS := fun (a0, a1, a2, a3) => [(.row 37 a2 true), (.row 37 a3 true)]
  dsS := fun (a0, a1, a2, a3) => []
  dcE x env H ds := match x, env 0, env 5, env 74, H, ds with
    | .normal, (.v (.s a0)), (.own 0), (.v (.b a1)), [(.row 37 a2 true)], [] => some (a0, a1, a2)
    | _, _, _, _, _, _ => none
  exE := fun (a0, a1, a2) => .normal
  slE := fun (a0, a1, a2) => [(0, (.v (.s a0))), (5, (.own 0)), (74, (.v (.b a1)))]
  obE := fun (a0, a1, a2) => [(.row 37 a2 true)]
  dsE := fun (a0, a1, a2) => []
  goE := fun _ (a0, a1, a2) k => k .normal [(0, (.v (.s a0))), (5, (.own 0)), (74, (.v (.b a1)))] [(.row 37 a2 true)] []
theorem p_tollbarlaw05_LexQuotes_3_ok : PieceOk p_tollbarlaw05_LexQuotes_3 := by
  refine ⟨fun env H ds s h => ?_, fun x env H ds e h => ?_, fun R e k => by kernel_rfl⟩
  · simp only [p_tollbarlaw05_LexQuotes_3] at h ⊢; split at h <;> first | (cases h; simp only [List.forall_mem_cons]; simp_all; done) | (cases h; done)
  · simp only [p_tollbarlaw05_LexQuotes_3] at h ⊢; split at h <;> first | (cases h; simp only [List.forall_mem_cons]; simp_all; done) | (cases h; done)
theorem p_tollbarlaw05_LexQuotes_3_ct (κ : Nat) (m : Int) : CutOk Tryd.prog C (G m) Tryd.f4.ntmps 0 (pieceOf (.reg 12) (getBody Tryd.f4)) (p_tollbarlaw05_LexQuotes_3.cut (gcN 0 [0, 5, 8, 9]) (fun (a0, a1, a2, a3) => tollbarlaw05_LexQuotes.v3 κ a0 a1 a2 a3)) :=
  Piece.join p_tollbarlaw05_LexQuotes_3_ok C_ok mixed (gam39_ok κ m) gcN_ok (xN_ok gcN_ok (ex_nil) gcN_ok gcN_ok) (cut := (ct_tollbarlaw05_LexQuotes_1 κ)) (X := (xN (gcN 0 [0, 5, 74]) [] (gcN 0 [2]) (gcN 0 [1000000]))) (cuts_by (l := []) (by kernel_rfl) (all_nil)) (fun s => by kernel_rfl)
def cc_tollbarlaw05_LexQuotes_4 (κ : Nat) : Cut T := p_tollbarlaw05_LexQuotes_3.cut (gcN 0 [0, 5, 8, 9]) (fun (a0, a1, a2, a3) => tollbarlaw05_LexQuotes.v3 κ a0 a1 a2 a3)
theorem cc_tollbarlaw05_LexQuotes_4_ok (κ : Nat) (m : Int) : CutOk Tryd.prog C (G m) Tryd.f4.ntmps 0 (pieceOf (.reg 12) (getBody Tryd.f4)) (cc_tollbarlaw05_LexQuotes_4 κ) := p_tollbarlaw05_LexQuotes_3_ct κ m
def ct_tollbarlaw05_LexQuotes_4 (κ : Nat) : Key → Option (Cut T) := addCut (ct_tollbarlaw05_LexQuotes_1 κ) (.reg 12) (cc_tollbarlaw05_LexQuotes_4 κ)
def p_tollbarlaw05_LexQuotes_2 : Piece T (ByteArray × Bool × (List LexToken)) ((ByteArray × (List LexToken)) ⊕ (Bool)) where
  dcS env H ds := match env 0, env 5, env 46, H, ds with
    | (.v (.s a0)), (.own 0), (.v (.b a1)), [(.row 37 a2 true)], [] => some (a0, a1, a2)
    | _, _, _, _, _ => none
  slS := fun (a0, a1, a2) => [(0, (.v (.s a0))), (5, (.own 0)), (46, (.v (.b a1)))]
  obS := fun (a0, a1, a2) => [(.row 37 a2 true)]
  dsS := fun (a0, a1, a2) => []
  dcE x env H ds := match x, env 0, env 2, env 5, H, ds with
    | .normal, (.v (.s a0)), _, (.own 0), [(.row 37 a1 true)], [] => some (.inl (a0, a1))
    | .ret, _, (.v (.b a0)), _, [], [] => some (.inr a0)
    | _, _, _, _, _, _ => none
  exE := fun x => match x with
    | (.inl (a0, a1)) => .normal
    | (.inr a0) => .ret
  slE := fun x => match x with
    | (.inl (a0, a1)) => [(0, (.v (.s a0))), (5, (.own 0))]
    | (.inr a0) => [(2, (.v (.b a0)))]
  obE := fun x => match x with
    | (.inl (a0, a1)) => [(.row 37 a1 true)]
    | (.inr a0) => []
  dsE := fun x => match x with
    | (.inl (a0, a1)) => []
    | (.inr a0) => []
  goE := fun _ x k => match x with
    | (.inl (a0, a1)) => k .normal [(0, (.v (.s a0))), (5, (.own 0))] [(.row 37 a1 true)] []
    | (.inr a0) => k .ret [(2, (.v (.b a0)))] [] []
theorem p_tollbarlaw05_LexQuotes_2_ok : PieceOk p_tollbarlaw05_LexQuotes_2 := by
  refine ⟨fun env H ds s h => ?_, fun x env H ds e h => ?_, fun R e k => by rcases e with e | e <;> kernel_rfl⟩
  · simp only [p_tollbarlaw05_LexQuotes_2] at h ⊢; split at h <;> first | (cases h; simp only [List.forall_mem_cons]; simp_all; done) | (cases h; done)
  · simp only [p_tollbarlaw05_LexQuotes_2] at h ⊢; split at h <;> first | (cases h; simp only [List.forall_mem_cons]; simp_all; done) | (cases h; done)
theorem p_tollbarlaw05_LexQuotes_2_ct (κ : Nat) (m : Int) : CutOk Tryd.prog C (G m) Tryd.f4.ntmps 0 (pieceOf (.cnd 46 12) (getBody Tryd.f4)) (p_tollbarlaw05_LexQuotes_2.cut (gcN 0 [0, 5, 46]) (fun (a0, a1, a2) => tollbarlaw05_LexQuotes.v2 κ a0 a1 a2)) :=
  Piece.join p_tollbarlaw05_LexQuotes_2_ok C_ok mixed (gam39_ok κ m) gcN_ok (xN_ok gcN_ok (ex_nil) gcN_ok gcN_ok) (cut := (ct_tollbarlaw05_LexQuotes_4 κ)) (X := (xN (gcN 0 [0, 5]) [] (gcN 0 [2]) (gcN 0 [1000000]))) (cuts_by (l := [(pieceOf (.reg 12) (getBody Tryd.f4), cc_tollbarlaw05_LexQuotes_4 κ)]) (by kernel_rfl) (all_cons (cc_tollbarlaw05_LexQuotes_4_ok κ m) (all_nil))) (fun s => by kernel_rfl)
def cc_tollbarlaw05_LexQuotes_5 (κ : Nat) : Cut T := p_tollbarlaw05_LexQuotes_2.cut (gcN 0 [0, 5, 46]) (fun (a0, a1, a2) => tollbarlaw05_LexQuotes.v2 κ a0 a1 a2)
theorem cc_tollbarlaw05_LexQuotes_5_ok (κ : Nat) (m : Int) : CutOk Tryd.prog C (G m) Tryd.f4.ntmps 0 (pieceOf (.cnd 46 12) (getBody Tryd.f4)) (cc_tollbarlaw05_LexQuotes_5 κ) := p_tollbarlaw05_LexQuotes_2_ct κ m
def ct_tollbarlaw05_LexQuotes_5 (κ : Nat) : Key → Option (Cut T) := addCut (ct_tollbarlaw05_LexQuotes_1 κ) (.cnd 46 12) (cc_tollbarlaw05_LexQuotes_5 κ)
def p_tollbarlaw05_LexQuotes_6 : Piece T (ByteArray × (List LexToken)) (Bool) where
  dcS env H ds := match env 0, env 5, H, ds with
    | (.v (.s a0)), (.own 0), [(.row 37 a1 true)], [] => some (a0, a1)
    | _, _, _, _ => none
  slS := fun (a0, a1) => [(0, (.v (.s a0))), (5, (.own 0))]
  obS := fun (a0, a1) => [(.row 37 a1 true)]
  dsS := fun (a0, a1) => []
  dcE x env H ds := match x, env 2, H, ds with
    | .normal, (.v (.b a0)), [], [] => some a0
    | _, _, _, _ => none
  exE := fun a0 => .normal
  slE := fun a0 => [(2, (.v (.b a0)))]
  obE := fun a0 => []
  dsE := fun a0 => []
  goE := fun _ a0 k => k .normal [(2, (.v (.b a0)))] [] []
theorem p_tollbarlaw05_LexQuotes_6_ok : PieceOk p_tollbarlaw05_LexQuotes_6 := by
  refine ⟨fun env H ds s h => ?_, fun x env H ds e h => ?_, fun R e k => by kernel_rfl⟩
  · simp only [p_tollbarlaw05_LexQuotes_6] at h ⊢; split at h <;> first | (cases h; simp only [List.forall_mem_cons]; simp_all; done) | (cases h; done)
  · simp only [p_tollbarlaw05_LexQuotes_6] at h ⊢; split at h <;> first | (cases h; simp only [List.forall_mem_cons]; simp_all; done) | (cases h; done)
theorem p_tollbarlaw05_LexQuotes_6_ct (κ : Nat) (m : Int) : CutOk Tryd.prog C (G m) Tryd.f4.ntmps 0 (pieceOf (.reg 14) (getBody Tryd.f4)) (p_tollbarlaw05_LexQuotes_6.cut (gcN 0 [0, 5]) (fun (a0, a1) => tollbarlaw05_LexQuotes.v6 κ a0 a1)) :=
  Piece.join p_tollbarlaw05_LexQuotes_6_ok C_ok mixed (gam39_ok κ m) gcN_ok (xN_ok gcN_ok (ex_nil) gcN_ok gcN_ok) (cut := (ct_tollbarlaw05_LexQuotes_5 κ)) (X := (xN (gcN 0 [2]) [] (gcN 0 [2]) (gcN 0 [1000000]))) (cuts_by (l := []) (by kernel_rfl) (all_nil)) (fun s => by kernel_rfl)
def cc_tollbarlaw05_LexQuotes_7 (κ : Nat) : Cut T := p_tollbarlaw05_LexQuotes_6.cut (gcN 0 [0, 5]) (fun (a0, a1) => tollbarlaw05_LexQuotes.v6 κ a0 a1)
theorem cc_tollbarlaw05_LexQuotes_7_ok (κ : Nat) (m : Int) : CutOk Tryd.prog C (G m) Tryd.f4.ntmps 0 (pieceOf (.reg 14) (getBody Tryd.f4)) (cc_tollbarlaw05_LexQuotes_7 κ) := p_tollbarlaw05_LexQuotes_6_ct κ m
def ct_tollbarlaw05_LexQuotes_7 (κ : Nat) : Key → Option (Cut T) := addCut (ct_tollbarlaw05_LexQuotes_5 κ) (.reg 14) (cc_tollbarlaw05_LexQuotes_7 κ)
def sp_tollbarlaw05_LexQuotes : Spec T (ByteArray) (Bool) where
  dcI a H := match a, H with
    | [(.v (.s a0))], [] => some a0
    | _, _ => none
  ecA := fun a0 => [(.v (.s a0))]
  ecH := fun a0 => []
  dcO o := match o with
    | .ret (.v (.b a0)) [] => some a0
    | _ => none
  goO := fun _ a0 k => k (.ret (.v (.b a0)) [])
  ecO := fun a0 => .ret (.v (.b a0)) []
theorem sp_tollbarlaw05_LexQuotes_ok : SpecOk sp_tollbarlaw05_LexQuotes := by
  refine ⟨fun a H i h => ?_, fun o x h => ?_, fun R e k => by kernel_rfl⟩
  · simp only [sp_tollbarlaw05_LexQuotes] at h ⊢; split at h <;> first | (cases h; exact ⟨rfl, rfl⟩) | (cases h; done)
  · simp only [sp_tollbarlaw05_LexQuotes] at h ⊢; split at h <;> first | (cases h; rfl) | (cases h; done)
theorem ok_tollbarlaw05_LexQuotes (κ : Nat) (m : Int) : EOk Tryd.prog C (G m) 4 (sp_tollbarlaw05_LexQuotes.entry (fun a0 => tollbarlaw05_LexQuotes κ a0)) :=
  Spec.ok sp_tollbarlaw05_LexQuotes_ok C_ok mixed (gam39_ok κ m) (cut := (ct_tollbarlaw05_LexQuotes_7 κ)) (NR := (gcN 0 [0])) (NP := (gcN 0 [0])) (nB := 0) Tryd.func4 (c := (getBody Tryd.f4)) (by kernel_rfl) (by kernel_rfl) (fun i => by kernel_rfl) gcN_ok gcN_ok (cuts_by (l := [(pieceOf (.reg 8) (getBody Tryd.f4), cc_tollbarlaw05_LexQuotes_1 κ), (pieceOf (.cnd 46 12) (getBody Tryd.f4), cc_tollbarlaw05_LexQuotes_5 κ), (pieceOf (.reg 14) (getBody Tryd.f4), cc_tollbarlaw05_LexQuotes_7 κ)]) (by kernel_rfl) (all_cons (cc_tollbarlaw05_LexQuotes_1_ok κ m) (all_cons (cc_tollbarlaw05_LexQuotes_5_ok κ m) (all_cons (cc_tollbarlaw05_LexQuotes_7_ok κ m) (all_nil))))) (fun i => by kernel_rfl)
noncomputable def gam40 (κ : Nat) : Gam T := (gam39 κ).addS 4 sp_tollbarlaw05_LexQuotes (fun a0 => tollbarlaw05_LexQuotes κ a0)
theorem gam40_ok (κ : Nat) (m : Int) : GOk Tryd.prog C (G m) (gam40 κ) := (gam39_ok κ m).addS (ok_tollbarlaw05_LexQuotes κ m)
def p_tollbarlaw05_LexFronts_0 : Piece T (ByteArray × ByteArray) (ByteArray × ByteArray × Bool) where
  dcS env H ds := match env 0, env 1, H, ds with
    | (.v (.s a0)), (.v (.s a1)), [], [] => some (a0, a1)
    | _, _, _, _ => none
  slS := fun (a0, a1) => [(0, (.v (.s a0))), (1, (.v (.s a1)))]
  obS := fun (a0, a1) => []
  dsS := fun (a0, a1) => []
  dcE x env H ds := match x, env 0, env 1, env 29, H, ds with
    | .normal, (.v (.s a0)), (.v (.s a1)), (.v (.b a2)), [], [] => some (a0, a1, a2)
    | _, _, _, _, _, _ => none
  exE := fun (a0, a1, a2) => .normal
  slE := fun (a0, a1, a2) => [(0, (.v (.s a0))), (1, (.v (.s a1))), (29, (.v (.b a2)))]
  obE := fun (a0, a1, a2) => []
  dsE := fun (a0, a1, a2) => []
  goE := fun _ (a0, a1, a2) k => k .normal [(0, (.v (.s a0))), (1, (.v (.s a1))), (29, (.v (.b a2)))] [] []
theorem p_tollbarlaw05_LexFronts_0_ok : PieceOk p_tollbarlaw05_LexFronts_0 := by
  refine ⟨fun env H ds s h => ?_, fun x env H ds e h => ?_, fun R e k => by kernel_rfl⟩
  · simp only [p_tollbarlaw05_LexFronts_0] at h ⊢; split at h <;> first | (cases h; simp only [List.forall_mem_cons]; simp_all; done) | (cases h; done)
  · simp only [p_tollbarlaw05_LexFronts_0] at h ⊢; split at h <;> first | (cases h; simp only [List.forall_mem_cons]; simp_all; done) | (cases h; done)
theorem p_tollbarlaw05_LexFronts_0_ct (κ : Nat) (m : Int) : CutOk Tryd.prog C (G m) Tryd.f6.ntmps 0 (pieceOf (.reg 4) (getBody Tryd.f6)) (p_tollbarlaw05_LexFronts_0.cut (gcN 0 [0, 1]) (fun (a0, a1) => tollbarlaw05_LexFronts.v0 κ a0 a1)) :=
  Piece.join p_tollbarlaw05_LexFronts_0_ok C_ok mixed (gam40_ok κ m) gcN_ok (xN_ok gcN_ok (ex_nil) gcN_ok gcN_ok) (cut := noCut) (X := (xN (gcN 0 [0, 1, 29]) [] (gcN 0 [4]) (gcN 0 [1000000]))) (cuts_by (l := []) (by kernel_rfl) (all_nil)) (fun s => by kernel_rfl)
def cc_tollbarlaw05_LexFronts_1 (κ : Nat) : Cut T := p_tollbarlaw05_LexFronts_0.cut (gcN 0 [0, 1]) (fun (a0, a1) => tollbarlaw05_LexFronts.v0 κ a0 a1)
theorem cc_tollbarlaw05_LexFronts_1_ok (κ : Nat) (m : Int) : CutOk Tryd.prog C (G m) Tryd.f6.ntmps 0 (pieceOf (.reg 4) (getBody Tryd.f6)) (cc_tollbarlaw05_LexFronts_1 κ) := p_tollbarlaw05_LexFronts_0_ct κ m
def ct_tollbarlaw05_LexFronts_1 (κ : Nat) : Key → Option (Cut T) := addCut noCut (.reg 4) (cc_tollbarlaw05_LexFronts_1 κ)
def p_tollbarlaw05_LexFronts_5 : Piece T (Int × (List LexToken) × Int × Int × Int × Int × Int × Int) (Int × Bool × (List LexToken) × Int × Int) where
  dcS env H ds := match env 6, env 8, env 9, env 10, env 11, H, ds with
    | (.own 0), (.ptr 1 0), (.v (.i .i64 a0)), (.ptr 2 0), (.ptr 3 0), [(.row 37 a1 true), (.cells 26 none [(.v (.i .i64 a2)), (.v (.i .i64 a3))]), (.cells 26 none [(.v (.i .i64 a4)), (.v (.i .i64 a5))]), (.cells 26 none [(.v (.i .i64 a6)), (.v (.i .i64 a7))])], [] => some (a0, a1, a2, a3, a4, a5, a6, a7)
    | _, _, _, _, _, _, _ => none
  slS := fun (a0, a1, a2, a3, a4, a5, a6, a7) => [(6, (.own 0)), (8, (.ptr 1 0)), (9, (.v (.i .i64 a0))), (10, (.ptr 2 0)), (11, (.ptr 3 0))]
  obS := fun (a0, a1, a2, a3, a4, a5, a6, a7) => [(.row 37 a1 true), (.cells 26 none [(.v (.i .i64 a2)), (.v (.i .i64 a3))]), (.cells 26 none [(.v (.i .i64 a4)), (.v (.i .i64 a5))]), (.cells 26 none [(.v (.i .i64 a6)), (.v (.i .i64 a7))])]
  dsS := fun (a0, a1, a2, a3, a4, a5, a6, a7) => []
  dcE x env H ds := match x, env 6, env 8, env 9, env 73, H, ds with
    | .normal, (.own 0), (.ptr 1 0), (.v (.i .i64 a0)), (.v (.b a1)), [(.row 37 a2 true), (.cells 26 none [(.v (.i .i64 a3)), (.v (.i .i64 a4))])], [] => some (a0, a1, a2, a3, a4)
    | _, _, _, _, _, _, _ => none
  exE := fun (a0, a1, a2, a3, a4) => .normal
  slE := fun (a0, a1, a2, a3, a4) => [(6, (.own 0)), (8, (.ptr 1 0)), (9, (.v (.i .i64 a0))), (73, (.v (.b a1)))]
  obE := fun (a0, a1, a2, a3, a4) => [(.row 37 a2 true), (.cells 26 none [(.v (.i .i64 a3)), (.v (.i .i64 a4))])]
  dsE := fun (a0, a1, a2, a3, a4) => []
  goE := fun _ (a0, a1, a2, a3, a4) k => k .normal [(6, (.own 0)), (8, (.ptr 1 0)), (9, (.v (.i .i64 a0))), (73, (.v (.b a1)))] [(.row 37 a2 true), (.cells 26 none [(.v (.i .i64 a3)), (.v (.i .i64 a4))])] []
theorem p_tollbarlaw05_LexFronts_5_ok : PieceOk p_tollbarlaw05_LexFronts_5 := by
  refine ⟨fun env H ds s h => ?_, fun x env H ds e h => ?_, fun R e k => by kernel_rfl⟩
  · simp only [p_tollbarlaw05_LexFronts_5] at h ⊢; split at h <;> first | (cases h; simp only [List.forall_mem_cons]; simp_all; done) | (cases h; done)
  · simp only [p_tollbarlaw05_LexFronts_5] at h ⊢; split at h <;> first | (cases h; simp only [List.forall_mem_cons]; simp_all; done) | (cases h; done)
theorem p_tollbarlaw05_LexFronts_5_ct (κ : Nat) (m : Int) : CutOk Tryd.prog C (G m) Tryd.f6.ntmps 0 (pieceOf (.reg 13) (getBody Tryd.f6)) (p_tollbarlaw05_LexFronts_5.cut (gcN 0 [6, 8, 9, 10, 11]) (fun (a0, a1, a2, a3, a4, a5, a6, a7) => tollbarlaw05_LexFronts.v5 κ a0 a1 a2 a3 a4 a5 a6 a7)) :=
  Piece.join p_tollbarlaw05_LexFronts_5_ok C_ok mixed (gam40_ok κ m) gcN_ok (xN_ok gcN_ok (ex_cons gcN_ok (ex_cons gcN_ok (ex_nil))) gcN_ok gcN_ok) (cut := (ct_tollbarlaw05_LexFronts_1 κ)) (X := (xN (gcN 0 [6, 8, 9, 73]) [(1, (gcN 0 [6, 8, 9])), (0, (gcN 0 [6, 8]))] (gcN 0 [4]) (gcN 0 [1000000]))) (cuts_by (l := []) (by kernel_rfl) (all_nil)) (fun s => by kernel_rfl)
def cc_tollbarlaw05_LexFronts_6 (κ : Nat) : Cut T := p_tollbarlaw05_LexFronts_5.cut (gcN 0 [6, 8, 9, 10, 11]) (fun (a0, a1, a2, a3, a4, a5, a6, a7) => tollbarlaw05_LexFronts.v5 κ a0 a1 a2 a3 a4 a5 a6 a7)
theorem cc_tollbarlaw05_LexFronts_6_ok (κ : Nat) (m : Int) : CutOk Tryd.prog C (G m) Tryd.f6.ntmps 0 (pieceOf (.reg 13) (getBody Tryd.f6)) (cc_tollbarlaw05_LexFronts_6 κ) := p_tollbarlaw05_LexFronts_5_ct κ m
def ct_tollbarlaw05_LexFronts_6 (κ : Nat) : Key → Option (Cut T) := addCut (ct_tollbarlaw05_LexFronts_1 κ) (.reg 13) (cc_tollbarlaw05_LexFronts_6 κ)
def p_tollbarlaw05_LexFronts_4 : Piece T (Int × (List LexToken) × Int × Int) (((List LexToken) × Int × Int) ⊕ (Bool)) where
  dcS env H ds := match env 6, env 8, env 9, H, ds with
    | (.own 0), (.ptr 1 0), (.v (.i .i64 a0)), [(.row 37 a1 true), (.cells 26 none [(.v (.i .i64 a2)), (.v (.i .i64 a3))])], [] => some (a0, a1, a2, a3)
    | _, _, _, _, _ => none
  slS := fun (a0, a1, a2, a3) => [(6, (.own 0)), (8, (.ptr 1 0)), (9, (.v (.i .i64 a0)))]
  obS := fun (a0, a1, a2, a3) => [(.row 37 a1 true), (.cells 26 none [(.v (.i .i64 a2)), (.v (.i .i64 a3))])]
  dsS := fun (a0, a1, a2, a3) => []
  dcE x env H ds := match x, env 4, env 6, env 8, H, ds with
    | .normal, _, (.own 0), (.ptr 1 0), [(.row 37 a0 true), (.cells 26 none [(.v (.i .i64 a1)), (.v (.i .i64 a2))])], [] => some (.inl (a0, a1, a2))
    | .ret, (.v (.b a0)), _, _, [], [] => some (.inr a0)
    | _, _, _, _, _, _ => none
  exE := fun x => match x with
    | (.inl (a0, a1, a2)) => .normal
    | (.inr a0) => .ret
  slE := fun x => match x with
    | (.inl (a0, a1, a2)) => [(6, (.own 0)), (8, (.ptr 1 0))]
    | (.inr a0) => [(4, (.v (.b a0)))]
  obE := fun x => match x with
    | (.inl (a0, a1, a2)) => [(.row 37 a0 true), (.cells 26 none [(.v (.i .i64 a1)), (.v (.i .i64 a2))])]
    | (.inr a0) => []
  dsE := fun x => match x with
    | (.inl (a0, a1, a2)) => []
    | (.inr a0) => []
  goE := fun _ x k => match x with
    | (.inl (a0, a1, a2)) => k .normal [(6, (.own 0)), (8, (.ptr 1 0))] [(.row 37 a0 true), (.cells 26 none [(.v (.i .i64 a1)), (.v (.i .i64 a2))])] []
    | (.inr a0) => k .ret [(4, (.v (.b a0)))] [] []
theorem p_tollbarlaw05_LexFronts_4_ok : PieceOk p_tollbarlaw05_LexFronts_4 := by
  refine ⟨fun env H ds s h => ?_, fun x env H ds e h => ?_, fun R e k => by rcases e with e | e <;> kernel_rfl⟩
  · simp only [p_tollbarlaw05_LexFronts_4] at h ⊢; split at h <;> first | (cases h; simp only [List.forall_mem_cons]; simp_all; done) | (cases h; done)
  · simp only [p_tollbarlaw05_LexFronts_4] at h ⊢; split at h <;> first | (cases h; simp only [List.forall_mem_cons]; simp_all; done) | (cases h; done)
theorem p_tollbarlaw05_LexFronts_4_ct (κ : Nat) (m : Int) : CutOk Tryd.prog C (G m) Tryd.f6.ntmps 0 (pieceOf (.blk 0) (getBody Tryd.f6)) (p_tollbarlaw05_LexFronts_4.cut (gcN 0 [6, 8, 9]) (tollbarlaw05_LexFronts.l4 κ κ)) :=
  Piece.loop p_tollbarlaw05_LexFronts_4_ok C_ok mixed (gam40_ok κ m) gcN_ok (xN_ok gcN_ok (ex_nil) gcN_ok gcN_ok) (cut := (ct_tollbarlaw05_LexFronts_6 κ)) (X := (xN (gcN 0 [6, 8]) [] (gcN 0 [4]) (gcN 0 [1000000]))) (id := 0) (body := bodyOf (pieceOf (.blk 0) (getBody Tryd.f6))) (cuts_by (l := [(pieceOf (.reg 13) (getBody Tryd.f6), cc_tollbarlaw05_LexFronts_6 κ)]) (by kernel_rfl) (all_cons (cc_tollbarlaw05_LexFronts_6_ok κ m) (all_nil))) (f := tollbarlaw05_LexFronts.l4 κ) (fun s => by kernel_rfl) (fun k s => by kernel_rfl) κ
def cc_tollbarlaw05_LexFronts_7 (κ : Nat) : Cut T := p_tollbarlaw05_LexFronts_4.cut (gcN 0 [6, 8, 9]) (tollbarlaw05_LexFronts.l4 κ κ)
theorem cc_tollbarlaw05_LexFronts_7_ok (κ : Nat) (m : Int) : CutOk Tryd.prog C (G m) Tryd.f6.ntmps 0 (pieceOf (.blk 0) (getBody Tryd.f6)) (cc_tollbarlaw05_LexFronts_7 κ) := p_tollbarlaw05_LexFronts_4_ct κ m
def ct_tollbarlaw05_LexFronts_7 (κ : Nat) : Key → Option (Cut T) := addCut (ct_tollbarlaw05_LexFronts_1 κ) (.blk 0) (cc_tollbarlaw05_LexFronts_7 κ)
def p_tollbarlaw05_LexFronts_8 : Piece T ((List LexToken) × Int × Int) (Bool) where
  dcS env H ds := match env 6, env 8, H, ds with
    | (.own 0), (.ptr 1 0), [(.row 37 a0 true), (.cells 26 none [(.v (.i .i64 a1)), (.v (.i .i64 a2))])], [] => some (a0, a1, a2)
    | _, _, _, _ => none
  slS := fun (a0, a1, a2) => [(6, (.own 0)), (8, (.ptr 1 0))]
  obS := fun (a0, a1, a2) => [(.row 37 a0 true), (.cells 26 none [(.v (.i .i64 a1)), (.v (.i .i64 a2))])]
  dsS := fun (a0, a1, a2) => []
  dcE x env H ds := match x, env 4, H, ds with
    | .normal, (.v (.b a0)), [], [] => some a0
    | _, _, _, _ => none
  exE := fun a0 => .normal
  slE := fun a0 => [(4, (.v (.b a0)))]
  obE := fun a0 => []
  dsE := fun a0 => []
  goE := fun _ a0 k => k .normal [(4, (.v (.b a0)))] [] []
theorem p_tollbarlaw05_LexFronts_8_ok : PieceOk p_tollbarlaw05_LexFronts_8 := by
  refine ⟨fun env H ds s h => ?_, fun x env H ds e h => ?_, fun R e k => by kernel_rfl⟩
  · simp only [p_tollbarlaw05_LexFronts_8] at h ⊢; split at h <;> first | (cases h; simp only [List.forall_mem_cons]; simp_all; done) | (cases h; done)
  · simp only [p_tollbarlaw05_LexFronts_8] at h ⊢; split at h <;> first | (cases h; simp only [List.forall_mem_cons]; simp_all; done) | (cases h; done)
theorem p_tollbarlaw05_LexFronts_8_ct (κ : Nat) (m : Int) : CutOk Tryd.prog C (G m) Tryd.f6.ntmps 0 (pieceOf (.reg 15) (getBody Tryd.f6)) (p_tollbarlaw05_LexFronts_8.cut (gcN 0 [6, 8]) (fun (a0, a1, a2) => tollbarlaw05_LexFronts.v8 κ a0 a1 a2)) :=
  Piece.join p_tollbarlaw05_LexFronts_8_ok C_ok mixed (gam40_ok κ m) gcN_ok (xN_ok gcN_ok (ex_nil) gcN_ok gcN_ok) (cut := (ct_tollbarlaw05_LexFronts_7 κ)) (X := (xN (gcN 0 [4]) [] (gcN 0 [4]) (gcN 0 [1000000]))) (cuts_by (l := []) (by kernel_rfl) (all_nil)) (fun s => by kernel_rfl)
def cc_tollbarlaw05_LexFronts_9 (κ : Nat) : Cut T := p_tollbarlaw05_LexFronts_8.cut (gcN 0 [6, 8]) (fun (a0, a1, a2) => tollbarlaw05_LexFronts.v8 κ a0 a1 a2)
theorem cc_tollbarlaw05_LexFronts_9_ok (κ : Nat) (m : Int) : CutOk Tryd.prog C (G m) Tryd.f6.ntmps 0 (pieceOf (.reg 15) (getBody Tryd.f6)) (cc_tollbarlaw05_LexFronts_9 κ) := p_tollbarlaw05_LexFronts_8_ct κ m
def ct_tollbarlaw05_LexFronts_9 (κ : Nat) : Key → Option (Cut T) := addCut (ct_tollbarlaw05_LexFronts_7 κ) (.reg 15) (cc_tollbarlaw05_LexFronts_9 κ)
def p_tollbarlaw05_LexFronts_16 : Piece T (ByteArray × ByteArray × Int × Int × Int × Bool × (List LexToken) × Int × Int × ByteArray × Nat) (ByteArray × ByteArray × Int × Int × Int × (List LexToken) × Int × Int × ByteArray × Nat) where
  dcS env H ds := match env 0, env 1, env 6, env 7, env 8, env 12, env 13, env 93, env 100, H, ds with
    | (.v (.s a0)), (.v (.s a1)), (.own 0), (.v (.i .i64 a2)), (.ptr 1 0), (.v (.i .i64 a3)), (.v (.i .i64 a4)), (.ptr 2 0), (.v (.b a5)), [(.row 37 a6 true), (.cells 26 none [(.v (.i .i64 a7)), (.v (.i .i64 a8))]), (.siter a9 a10)], [] => some (a0, a1, a2, a3, a4, a5, a6, a7, a8, a9, a10)
    | _, _, _, _, _, _, _, _, _, _, _ => none
  slS := fun (a0, a1, a2, a3, a4, a5, a6, a7, a8, a9, a10) => [(0, (.v (.s a0))), (1, (.v (.s a1))), (6, (.own 0)), (7, (.v (.i .i64 a2))), (8, (.ptr 1 0)), (12, (.v (.i .i64 a3))), (13, (.v (.i .i64 a4))), (93, (.ptr 2 0)), (100, (.v (.b a5)))]
  obS := fun (a0, a1, a2, a3, a4, a5, a6, a7, a8, a9, a10) => [(.row 37 a6 true), (.cells 26 none [(.v (.i .i64 a7)), (.v (.i .i64 a8))]), (.siter a9 a10)]
  dsS := fun (a0, a1, a2, a3, a4, a5, a6, a7, a8, a9, a10) => []
  dcE x env H ds := match x, env 0, env 1, env 6, env 7, env 8, env 12, env 13, env 93, H, ds with
    | .normal, (.v (.s a0)), (.v (.s a1)), (.own 0), (.v (.i .i64 a2)), (.ptr 1 0), (.v (.i .i64 a3)), (.v (.i .i64 a4)), (.ptr 2 0), [(.row 37 a5 true), (.cells 26 none [(.v (.i .i64 a6)), (.v (.i .i64 a7))]), (.siter a8 a9)], [] => some (a0, a1, a2, a3, a4, a5, a6, a7, a8, a9)
    | _, _, _, _, _, _, _, _, _, _, _ => none
  exE := fun (a0, a1, a2, a3, a4, a5, a6, a7, a8, a9) => .normal
  slE := fun (a0, a1, a2, a3, a4, a5, a6, a7, a8, a9) => [(0, (.v (.s a0))), (1, (.v (.s a1))), (6, (.own 0)), (7, (.v (.i .i64 a2))), (8, (.ptr 1 0)), (12, (.v (.i .i64 a3))), (13, (.v (.i .i64 a4))), (93, (.ptr 2 0))]
  obE := fun (a0, a1, a2, a3, a4, a5, a6, a7, a8, a9) => [(.row 37 a5 true), (.cells 26 none [(.v (.i .i64 a6)), (.v (.i .i64 a7))]), (.siter a8 a9)]
  dsE := fun (a0, a1, a2, a3, a4, a5, a6, a7, a8, a9) => []
  goE := fun _ (a0, a1, a2, a3, a4, a5, a6, a7, a8, a9) k => k .normal [(0, (.v (.s a0))), (1, (.v (.s a1))), (6, (.own 0)), (7, (.v (.i .i64 a2))), (8, (.ptr 1 0)), (12, (.v (.i .i64 a3))), (13, (.v (.i .i64 a4))), (93, (.ptr 2 0))] [(.row 37 a5 true), (.cells 26 none [(.v (.i .i64 a6)), (.v (.i .i64 a7))]), (.siter a8 a9)] []
theorem p_tollbarlaw05_LexFronts_16_ok : PieceOk p_tollbarlaw05_LexFronts_16 := by
  refine ⟨fun env H ds s h => ?_, fun x env H ds e h => ?_, fun R e k => by kernel_rfl⟩
  · simp only [p_tollbarlaw05_LexFronts_16] at h ⊢; split at h <;> first | (cases h; simp only [List.forall_mem_cons]; simp_all; done) | (cases h; done)
  · simp only [p_tollbarlaw05_LexFronts_16] at h ⊢; split at h <;> first | (cases h; simp only [List.forall_mem_cons]; simp_all; done) | (cases h; done)
theorem p_tollbarlaw05_LexFronts_16_ct (κ : Nat) (m : Int) : CutOk Tryd.prog C (G m) Tryd.f6.ntmps 0 (pieceOf (.cnd 100 24) (getBody Tryd.f6)) (p_tollbarlaw05_LexFronts_16.cut (gcN 0 [0, 1, 6, 7, 8, 12, 13, 93, 100]) (fun (a0, a1, a2, a3, a4, a5, a6, a7, a8, a9, a10) => tollbarlaw05_LexFronts.v16 κ a0 a1 a2 a3 a4 a5 a6 a7 a8 a9 a10)) :=
  Piece.join p_tollbarlaw05_LexFronts_16_ok C_ok mixed (gam40_ok κ m) gcN_ok (xN_ok gcN_ok (ex_cons gcN_ok (ex_cons gcN_ok (ex_nil))) gcN_ok gcN_ok) (cut := (ct_tollbarlaw05_LexFronts_9 κ)) (X := (xN (gcN 0 [0, 1, 6, 7, 8, 12, 13, 93]) [(3, (gcN 0 [0, 1, 6, 7, 8, 12, 13, 93])), (2, (gcN 0 [0, 1, 6, 7, 8, 12, 13]))] (gcN 0 [4]) (gcN 0 [1000000]))) (cuts_by (l := []) (by kernel_rfl) (all_nil)) (fun s => by kernel_rfl)
def cc_tollbarlaw05_LexFronts_17 (κ : Nat) : Cut T := p_tollbarlaw05_LexFronts_16.cut (gcN 0 [0, 1, 6, 7, 8, 12, 13, 93, 100]) (fun (a0, a1, a2, a3, a4, a5, a6, a7, a8, a9, a10) => tollbarlaw05_LexFronts.v16 κ a0 a1 a2 a3 a4 a5 a6 a7 a8 a9 a10)
theorem cc_tollbarlaw05_LexFronts_17_ok (κ : Nat) (m : Int) : CutOk Tryd.prog C (G m) Tryd.f6.ntmps 0 (pieceOf (.cnd 100 24) (getBody Tryd.f6)) (cc_tollbarlaw05_LexFronts_17 κ) := p_tollbarlaw05_LexFronts_16_ct κ m
def ct_tollbarlaw05_LexFronts_17 (κ : Nat) : Key → Option (Cut T) := addCut (ct_tollbarlaw05_LexFronts_9 κ) (.cnd 100 24) (cc_tollbarlaw05_LexFronts_17 κ)
def p_tollbarlaw05_LexFronts_15 : Piece T (ByteArray × ByteArray × Int × Int × Int × Bool × Int × Int × (List LexToken) × Int × Int × ByteArray × Nat) (ByteArray × ByteArray × Int × Int × Int × (List LexToken) × Int × Int × ByteArray × Nat) where
  dcS env H ds := match env 0, env 1, env 6, env 7, env 8, env 12, env 13, env 93, env 94, H, ds with
    | (.v (.s a0)), (.v (.s a1)), (.own 0), (.v (.i .i64 a2)), (.ptr 1 0), (.v (.i .i64 a3)), (.v (.i .i64 a4)), (.ptr 2 0), (.tup [(.v (.b a5)), (.v (.i .i64 a6)), (.v (.i .i32 a7))]), [(.row 37 a8 true), (.cells 26 none [(.v (.i .i64 a9)), (.v (.i .i64 a10))]), (.siter a11 a12)], [] => some (a0, a1, a2, a3, a4, a5, a6, a7, a8, a9, a10, a11, a12)
    | _, _, _, _, _, _, _, _, _, _, _ => none
  slS := fun (a0, a1, a2, a3, a4, a5, a6, a7, a8, a9, a10, a11, a12) => [(0, (.v (.s a0))), (1, (.v (.s a1))), (6, (.own 0)), (7, (.v (.i .i64 a2))), (8, (.ptr 1 0)), (12, (.v (.i .i64 a3))), (13, (.v (.i .i64 a4))), (93, (.ptr 2 0)), (94, (.tup [(.v (.b a5)), (.v (.i .i64 a6)), (.v (.i .i32 a7))]))]
  obS := fun (a0, a1, a2, a3, a4, a5, a6, a7, a8, a9, a10, a11, a12) => [(.row 37 a8 true), (.cells 26 none [(.v (.i .i64 a9)), (.v (.i .i64 a10))]), (.siter a11 a12)]
  dsS := fun (a0, a1, a2, a3, a4, a5, a6, a7, a8, a9, a10, a11, a12) => []
  dcE x env H ds := match x, env 0, env 1, env 6, env 7, env 8, env 12, env 13, env 93, H, ds with
    | .normal, (.v (.s a0)), (.v (.s a1)), (.own 0), (.v (.i .i64 a2)), (.ptr 1 0), (.v (.i .i64 a3)), (.v (.i .i64 a4)), (.ptr 2 0), [(.row 37 a5 true), (.cells 26 none [(.v (.i .i64 a6)), (.v (.i .i64 a7))]), (.siter a8 a9)], [] => some (a0, a1, a2, a3, a4, a5, a6, a7, a8, a9)
    | _, _, _, _, _, _, _, _, _, _, _ => none
  exE := fun (a0, a1, a2, a3, a4, a5, a6, a7, a8, a9) => .normal
  slE := fun (a0, a1, a2, a3, a4, a5, a6, a7, a8, a9) => [(0, (.v (.s a0))), (1, (.v (.s a1))), (6, (.own 0)), (7, (.v (.i .i64 a2))), (8, (.ptr 1 0)), (12, (.v (.i .i64 a3))), (13, (.v (.i .i64 a4))), (93, (.ptr 2 0))]
  obE := fun (a0, a1, a2, a3, a4, a5, a6, a7, a8, a9) => [(.row 37 a5 true), (.cells 26 none [(.v (.i .i64 a6)), (.v (.i .i64 a7))]), (.siter a8 a9)]
  dsE := fun (a0, a1, a2, a3, a4, a5, a6, a7, a8, a9) => []
  goE := fun _ (a0, a1, a2, a3, a4, a5, a6, a7, a8, a9) k => k .normal [(0, (.v (.s a0))), (1, (.v (.s a1))), (6, (.own 0)), (7, (.v (.i .i64 a2))), (8, (.ptr 1 0)), (12, (.v (.i .i64 a3))), (13, (.v (.i .i64 a4))), (93, (.ptr 2 0))] [(.row 37 a5 true), (.cells 26 none [(.v (.i .i64 a6)), (.v (.i .i64 a7))]), (.siter a8 a9)] []
theorem p_tollbarlaw05_LexFronts_15_ok : PieceOk p_tollbarlaw05_LexFronts_15 := by
  refine ⟨fun env H ds s h => ?_, fun x env H ds e h => ?_, fun R e k => by kernel_rfl⟩
  · simp only [p_tollbarlaw05_LexFronts_15] at h ⊢; split at h <;> first | (cases h; simp only [List.forall_mem_cons]; simp_all; done) | (cases h; done)
  · simp only [p_tollbarlaw05_LexFronts_15] at h ⊢; split at h <;> first | (cases h; simp only [List.forall_mem_cons]; simp_all; done) | (cases h; done)
theorem p_tollbarlaw05_LexFronts_15_ct (κ : Nat) (m : Int) : CutOk Tryd.prog C (G m) Tryd.f6.ntmps 0 (pieceOf (.blk 3) (getBody Tryd.f6)) (p_tollbarlaw05_LexFronts_15.cut (gcN 0 [0, 1, 6, 7, 8, 12, 13, 93, 94]) (fun (a0, a1, a2, a3, a4, a5, a6, a7, a8, a9, a10, a11, a12) => tollbarlaw05_LexFronts.v15 κ a0 a1 a2 a3 a4 a5 a6 a7 a8 a9 a10 a11 a12)) :=
  Piece.join p_tollbarlaw05_LexFronts_15_ok C_ok mixed (gam40_ok κ m) gcN_ok (xN_ok gcN_ok (ex_cons gcN_ok (ex_nil)) gcN_ok gcN_ok) (cut := (ct_tollbarlaw05_LexFronts_17 κ)) (X := (xN (gcN 0 [0, 1, 6, 7, 8, 12, 13, 93]) [(2, (gcN 0 [0, 1, 6, 7, 8, 12, 13]))] (gcN 0 [4]) (gcN 0 [1000000]))) (cuts_by (l := [(pieceOf (.cnd 100 24) (getBody Tryd.f6), cc_tollbarlaw05_LexFronts_17 κ)]) (by kernel_rfl) (all_cons (cc_tollbarlaw05_LexFronts_17_ok κ m) (all_nil))) (fun s => by kernel_rfl)
def cc_tollbarlaw05_LexFronts_18 (κ : Nat) : Cut T := p_tollbarlaw05_LexFronts_15.cut (gcN 0 [0, 1, 6, 7, 8, 12, 13, 93, 94]) (fun (a0, a1, a2, a3, a4, a5, a6, a7, a8, a9, a10, a11, a12) => tollbarlaw05_LexFronts.v15 κ a0 a1 a2 a3 a4 a5 a6 a7 a8 a9 a10 a11 a12)
theorem cc_tollbarlaw05_LexFronts_18_ok (κ : Nat) (m : Int) : CutOk Tryd.prog C (G m) Tryd.f6.ntmps 0 (pieceOf (.blk 3) (getBody Tryd.f6)) (cc_tollbarlaw05_LexFronts_18 κ) := p_tollbarlaw05_LexFronts_15_ct κ m
def ct_tollbarlaw05_LexFronts_18 (κ : Nat) : Key → Option (Cut T) := addCut (ct_tollbarlaw05_LexFronts_9 κ) (.blk 3) (cc_tollbarlaw05_LexFronts_18 κ)
def p_tollbarlaw05_LexFronts_14 : Piece T (ByteArray × ByteArray × Int × Int × Int × (List LexToken) × Int × Int × ByteArray × Nat) (ByteArray × ByteArray × Int × Int × Int × (List LexToken) × Int × Int) where
  dcS env H ds := match env 0, env 1, env 6, env 7, env 8, env 12, env 13, env 93, H, ds with
    | (.v (.s a0)), (.v (.s a1)), (.own 0), (.v (.i .i64 a2)), (.ptr 1 0), (.v (.i .i64 a3)), (.v (.i .i64 a4)), (.ptr 2 0), [(.row 37 a5 true), (.cells 26 none [(.v (.i .i64 a6)), (.v (.i .i64 a7))]), (.siter a8 a9)], [] => some (a0, a1, a2, a3, a4, a5, a6, a7, a8, a9)
    | _, _, _, _, _, _, _, _, _, _ => none
  slS := fun (a0, a1, a2, a3, a4, a5, a6, a7, a8, a9) => [(0, (.v (.s a0))), (1, (.v (.s a1))), (6, (.own 0)), (7, (.v (.i .i64 a2))), (8, (.ptr 1 0)), (12, (.v (.i .i64 a3))), (13, (.v (.i .i64 a4))), (93, (.ptr 2 0))]
  obS := fun (a0, a1, a2, a3, a4, a5, a6, a7, a8, a9) => [(.row 37 a5 true), (.cells 26 none [(.v (.i .i64 a6)), (.v (.i .i64 a7))]), (.siter a8 a9)]
  dsS := fun (a0, a1, a2, a3, a4, a5, a6, a7, a8, a9) => []
  dcE x env H ds := match x, env 0, env 1, env 6, env 7, env 8, env 12, env 13, H, ds with
    | .normal, (.v (.s a0)), (.v (.s a1)), (.own 0), (.v (.i .i64 a2)), (.ptr 1 0), (.v (.i .i64 a3)), (.v (.i .i64 a4)), [(.row 37 a5 true), (.cells 26 none [(.v (.i .i64 a6)), (.v (.i .i64 a7))])], [] => some (a0, a1, a2, a3, a4, a5, a6, a7)
    | _, _, _, _, _, _, _, _, _, _ => none
  exE := fun (a0, a1, a2, a3, a4, a5, a6, a7) => .normal
  slE := fun (a0, a1, a2, a3, a4, a5, a6, a7) => [(0, (.v (.s a0))), (1, (.v (.s a1))), (6, (.own 0)), (7, (.v (.i .i64 a2))), (8, (.ptr 1 0)), (12, (.v (.i .i64 a3))), (13, (.v (.i .i64 a4)))]
  obE := fun (a0, a1, a2, a3, a4, a5, a6, a7) => [(.row 37 a5 true), (.cells 26 none [(.v (.i .i64 a6)), (.v (.i .i64 a7))])]
  dsE := fun (a0, a1, a2, a3, a4, a5, a6, a7) => []
  goE := fun _ (a0, a1, a2, a3, a4, a5, a6, a7) k => k .normal [(0, (.v (.s a0))), (1, (.v (.s a1))), (6, (.own 0)), (7, (.v (.i .i64 a2))), (8, (.ptr 1 0)), (12, (.v (.i .i64 a3))), (13, (.v (.i .i64 a4)))] [(.row 37 a5 true), (.cells 26 none [(.v (.i .i64 a6)), (.v (.i .i64 a7))])] []
theorem p_tollbarlaw05_LexFronts_14_ok : PieceOk p_tollbarlaw05_LexFronts_14 := by
  refine ⟨fun env H ds s h => ?_, fun x env H ds e h => ?_, fun R e k => by kernel_rfl⟩
  · simp only [p_tollbarlaw05_LexFronts_14] at h ⊢; split at h <;> first | (cases h; simp only [List.forall_mem_cons]; simp_all; done) | (cases h; done)
  · simp only [p_tollbarlaw05_LexFronts_14] at h ⊢; split at h <;> first | (cases h; simp only [List.forall_mem_cons]; simp_all; done) | (cases h; done)
theorem p_tollbarlaw05_LexFronts_14_ct (κ : Nat) (m : Int) : CutOk Tryd.prog C (G m) Tryd.f6.ntmps 0 (pieceOf (.blk 2) (getBody Tryd.f6)) (p_tollbarlaw05_LexFronts_14.cut (gcN 0 [0, 1, 6, 7, 8, 12, 13, 93]) (tollbarlaw05_LexFronts.l14 κ κ)) :=
  Piece.loop p_tollbarlaw05_LexFronts_14_ok C_ok mixed (gam40_ok κ m) gcN_ok (xN_ok gcN_ok (ex_nil) gcN_ok gcN_ok) (cut := (ct_tollbarlaw05_LexFronts_18 κ)) (X := (xN (gcN 0 [0, 1, 6, 7, 8, 12, 13]) [] (gcN 0 [4]) (gcN 0 [1000000]))) (id := 2) (body := bodyOf (pieceOf (.blk 2) (getBody Tryd.f6))) (cuts_by (l := [(pieceOf (.blk 3) (getBody Tryd.f6), cc_tollbarlaw05_LexFronts_18 κ)]) (by kernel_rfl) (all_cons (cc_tollbarlaw05_LexFronts_18_ok κ m) (all_nil))) (f := tollbarlaw05_LexFronts.l14 κ) (fun s => by kernel_rfl) (fun k s => by kernel_rfl) κ
def cc_tollbarlaw05_LexFronts_19 (κ : Nat) : Cut T := p_tollbarlaw05_LexFronts_14.cut (gcN 0 [0, 1, 6, 7, 8, 12, 13, 93]) (tollbarlaw05_LexFronts.l14 κ κ)
theorem cc_tollbarlaw05_LexFronts_19_ok (κ : Nat) (m : Int) : CutOk Tryd.prog C (G m) Tryd.f6.ntmps 0 (pieceOf (.blk 2) (getBody Tryd.f6)) (cc_tollbarlaw05_LexFronts_19 κ) := p_tollbarlaw05_LexFronts_14_ct κ m
def ct_tollbarlaw05_LexFronts_19 (κ : Nat) : Key → Option (Cut T) := addCut (ct_tollbarlaw05_LexFronts_9 κ) (.blk 2) (cc_tollbarlaw05_LexFronts_19 κ)
def p_tollbarlaw05_LexFronts_20 : Piece T (ByteArray × ByteArray × Int × Int × Int × (List LexToken) × Int × Int) (ByteArray × ByteArray × Int × Int × Int × Bool × Int × Int) where
  dcS env H ds := match env 0, env 1, env 6, env 7, env 8, env 12, env 13, H, ds with
    | (.v (.s a0)), (.v (.s a1)), (.own 0), (.v (.i .i64 a2)), (.ptr 1 0), (.v (.i .i64 a3)), (.v (.i .i64 a4)), [(.row 37 a5 true), (.cells 26 none [(.v (.i .i64 a6)), (.v (.i .i64 a7))])], [] => some (a0, a1, a2, a3, a4, a5, a6, a7)
    | _, _, _, _, _, _, _, _, _ => none
  slS := fun (a0, a1, a2, a3, a4, a5, a6, a7) => [(0, (.v (.s a0))), (1, (.v (.s a1))), (6, (.own 0)), (7, (.v (.i .i64 a2))), (8, (.ptr 1 0)), (12, (.v (.i .i64 a3))), (13, (.v (.i .i64 a4)))]
  obS := fun (a0, a1, a2, a3, a4, a5, a6, a7) => [(.row 37 a5 true), (.cells 26 none [(.v (.i .i64 a6)), (.v (.i .i64 a7))])]
  dsS := fun (a0, a1, a2, a3, a4, a5, a6, a7) => []
  dcE x env H ds := match x, env 0, env 1, env 7, env 8, env 12, env 13, env 125, H, ds with
    | .normal, (.v (.s a0)), (.v (.s a1)), (.v (.i .i64 a2)), (.ptr 0 0), (.v (.i .i64 a3)), (.v (.i .i64 a4)), (.v (.b a5)), [(.cells 26 none [(.v (.i .i64 a6)), (.v (.i .i64 a7))])], [] => some (a0, a1, a2, a3, a4, a5, a6, a7)
    | _, _, _, _, _, _, _, _, _, _ => none
  exE := fun (a0, a1, a2, a3, a4, a5, a6, a7) => .normal
  slE := fun (a0, a1, a2, a3, a4, a5, a6, a7) => [(0, (.v (.s a0))), (1, (.v (.s a1))), (7, (.v (.i .i64 a2))), (8, (.ptr 0 0)), (12, (.v (.i .i64 a3))), (13, (.v (.i .i64 a4))), (125, (.v (.b a5)))]
  obE := fun (a0, a1, a2, a3, a4, a5, a6, a7) => [(.cells 26 none [(.v (.i .i64 a6)), (.v (.i .i64 a7))])]
  dsE := fun (a0, a1, a2, a3, a4, a5, a6, a7) => []
  goE := fun _ (a0, a1, a2, a3, a4, a5, a6, a7) k => k .normal [(0, (.v (.s a0))), (1, (.v (.s a1))), (7, (.v (.i .i64 a2))), (8, (.ptr 0 0)), (12, (.v (.i .i64 a3))), (13, (.v (.i .i64 a4))), (125, (.v (.b a5)))] [(.cells 26 none [(.v (.i .i64 a6)), (.v (.i .i64 a7))])] []
theorem p_tollbarlaw05_LexFronts_20_ok : PieceOk p_tollbarlaw05_LexFronts_20 := by
  refine ⟨fun env H ds s h => ?_, fun x env H ds e h => ?_, fun R e k => by kernel_rfl⟩
  · simp only [p_tollbarlaw05_LexFronts_20] at h ⊢; split at h <;> first | (cases h; simp only [List.forall_mem_cons]; simp_all; done) | (cases h; done)
  · simp only [p_tollbarlaw05_LexFronts_20] at h ⊢; split at h <;> first | (cases h; simp only [List.forall_mem_cons]; simp_all; done) | (cases h; done)
theorem p_tollbarlaw05_LexFronts_20_ct (κ : Nat) (m : Int) : CutOk Tryd.prog C (G m) Tryd.f6.ntmps 0 (pieceOf (.reg 25) (getBody Tryd.f6)) (p_tollbarlaw05_LexFronts_20.cut (gcN 0 [0, 1, 6, 7, 8, 12, 13]) (fun (a0, a1, a2, a3, a4, a5, a6, a7) => tollbarlaw05_LexFronts.v20 κ a0 a1 a2 a3 a4 a5 a6 a7)) :=
  Piece.join p_tollbarlaw05_LexFronts_20_ok C_ok mixed (gam40_ok κ m) gcN_ok (xN_ok gcN_ok (ex_nil) gcN_ok gcN_ok) (cut := (ct_tollbarlaw05_LexFronts_19 κ)) (X := (xN (gcN 0 [0, 1, 7, 8, 12, 13, 125]) [] (gcN 0 [4]) (gcN 0 [1000000]))) (cuts_by (l := []) (by kernel_rfl) (all_nil)) (fun s => by kernel_rfl)
def cc_tollbarlaw05_LexFronts_21 (κ : Nat) : Cut T := p_tollbarlaw05_LexFronts_20.cut (gcN 0 [0, 1, 6, 7, 8, 12, 13]) (fun (a0, a1, a2, a3, a4, a5, a6, a7) => tollbarlaw05_LexFronts.v20 κ a0 a1 a2 a3 a4 a5 a6 a7)
theorem cc_tollbarlaw05_LexFronts_21_ok (κ : Nat) (m : Int) : CutOk Tryd.prog C (G m) Tryd.f6.ntmps 0 (pieceOf (.reg 25) (getBody Tryd.f6)) (cc_tollbarlaw05_LexFronts_21 κ) := p_tollbarlaw05_LexFronts_20_ct κ m
def ct_tollbarlaw05_LexFronts_21 (κ : Nat) : Key → Option (Cut T) := addCut (ct_tollbarlaw05_LexFronts_19 κ) (.reg 25) (cc_tollbarlaw05_LexFronts_21 κ)
def p_tollbarlaw05_LexFronts_22 : Piece T (ByteArray × ByteArray × Int × Int × Int × Int × Int) (ByteArray × ByteArray × Int × Bool × Int × Int) where
  dcS env H ds := match env 0, env 1, env 7, env 8, env 12, env 13, H, ds with
    | (.v (.s a0)), (.v (.s a1)), (.v (.i .i64 a2)), (.ptr 0 0), (.v (.i .i64 a3)), (.v (.i .i64 a4)), [(.cells 26 none [(.v (.i .i64 a5)), (.v (.i .i64 a6))])], [] => some (a0, a1, a2, a3, a4, a5, a6)
    | _, _, _, _, _, _, _, _ => none
  slS := fun (a0, a1, a2, a3, a4, a5, a6) => [(0, (.v (.s a0))), (1, (.v (.s a1))), (7, (.v (.i .i64 a2))), (8, (.ptr 0 0)), (12, (.v (.i .i64 a3))), (13, (.v (.i .i64 a4)))]
  obS := fun (a0, a1, a2, a3, a4, a5, a6) => [(.cells 26 none [(.v (.i .i64 a5)), (.v (.i .i64 a6))])]
  dsS := fun (a0, a1, a2, a3, a4, a5, a6) => []
  dcE x env H ds := match x, env 0, env 1, env 7, env 8, env 135, H, ds with
    | .normal, (.v (.s a0)), (.v (.s a1)), (.v (.i .i64 a2)), (.ptr 0 0), (.v (.b a3)), [(.cells 26 none [(.v (.i .i64 a4)), (.v (.i .i64 a5))])], [] => some (a0, a1, a2, a3, a4, a5)
    | _, _, _, _, _, _, _, _ => none
  exE := fun (a0, a1, a2, a3, a4, a5) => .normal
  slE := fun (a0, a1, a2, a3, a4, a5) => [(0, (.v (.s a0))), (1, (.v (.s a1))), (7, (.v (.i .i64 a2))), (8, (.ptr 0 0)), (135, (.v (.b a3)))]
  obE := fun (a0, a1, a2, a3, a4, a5) => [(.cells 26 none [(.v (.i .i64 a4)), (.v (.i .i64 a5))])]
  dsE := fun (a0, a1, a2, a3, a4, a5) => []
  goE := fun _ (a0, a1, a2, a3, a4, a5) k => k .normal [(0, (.v (.s a0))), (1, (.v (.s a1))), (7, (.v (.i .i64 a2))), (8, (.ptr 0 0)), (135, (.v (.b a3)))] [(.cells 26 none [(.v (.i .i64 a4)), (.v (.i .i64 a5))])] []
theorem p_tollbarlaw05_LexFronts_22_ok : PieceOk p_tollbarlaw05_LexFronts_22 := by
  refine ⟨fun env H ds s h => ?_, fun x env H ds e h => ?_, fun R e k => by kernel_rfl⟩
  · simp only [p_tollbarlaw05_LexFronts_22] at h ⊢; split at h <;> first | (cases h; simp only [List.forall_mem_cons]; simp_all; done) | (cases h; done)
  · simp only [p_tollbarlaw05_LexFronts_22] at h ⊢; split at h <;> first | (cases h; simp only [List.forall_mem_cons]; simp_all; done) | (cases h; done)
theorem p_tollbarlaw05_LexFronts_22_ct (κ : Nat) (m : Int) : CutOk Tryd.prog C (G m) Tryd.f6.ntmps 0 (pieceOf (.reg 27) (getBody Tryd.f6)) (p_tollbarlaw05_LexFronts_22.cut (gcN 0 [0, 1, 7, 8, 12, 13]) (fun (a0, a1, a2, a3, a4, a5, a6) => tollbarlaw05_LexFronts.v22 κ a0 a1 a2 a3 a4 a5 a6)) :=
  Piece.join p_tollbarlaw05_LexFronts_22_ok C_ok mixed (gam40_ok κ m) gcN_ok (xN_ok gcN_ok (ex_nil) gcN_ok gcN_ok) (cut := (ct_tollbarlaw05_LexFronts_21 κ)) (X := (xN (gcN 0 [0, 1, 7, 8, 135]) [] (gcN 0 [4]) (gcN 0 [1000000]))) (cuts_by (l := []) (by kernel_rfl) (all_nil)) (fun s => by kernel_rfl)
def cc_tollbarlaw05_LexFronts_23 (κ : Nat) : Cut T := p_tollbarlaw05_LexFronts_22.cut (gcN 0 [0, 1, 7, 8, 12, 13]) (fun (a0, a1, a2, a3, a4, a5, a6) => tollbarlaw05_LexFronts.v22 κ a0 a1 a2 a3 a4 a5 a6)
theorem cc_tollbarlaw05_LexFronts_23_ok (κ : Nat) (m : Int) : CutOk Tryd.prog C (G m) Tryd.f6.ntmps 0 (pieceOf (.reg 27) (getBody Tryd.f6)) (cc_tollbarlaw05_LexFronts_23 κ) := p_tollbarlaw05_LexFronts_22_ct κ m
def ct_tollbarlaw05_LexFronts_23 (κ : Nat) : Key → Option (Cut T) := addCut (ct_tollbarlaw05_LexFronts_21 κ) (.reg 27) (cc_tollbarlaw05_LexFronts_23 κ)
def p_tollbarlaw05_LexFronts_24 : Piece T (Int × Int × Int × Int × Int × Int) (Bool) where
  dcS env H ds := match env 7, env 8, env 17, env 18, H, ds with
    | (.v (.i .i64 a0)), (.ptr 0 0), (.v (.i .i64 a1)), (.ptr 1 0), [(.cells 26 none [(.v (.i .i64 a2)), (.v (.i .i64 a3))]), (.cells 26 none [(.v (.i .i64 a4)), (.v (.i .i64 a5))])], [] => some (a0, a1, a2, a3, a4, a5)
    | _, _, _, _, _, _ => none
  slS := fun (a0, a1, a2, a3, a4, a5) => [(7, (.v (.i .i64 a0))), (8, (.ptr 0 0)), (17, (.v (.i .i64 a1))), (18, (.ptr 1 0))]
  obS := fun (a0, a1, a2, a3, a4, a5) => [(.cells 26 none [(.v (.i .i64 a2)), (.v (.i .i64 a3))]), (.cells 26 none [(.v (.i .i64 a4)), (.v (.i .i64 a5))])]
  dsS := fun (a0, a1, a2, a3, a4, a5) => []
  dcE x env H ds := match x, env 4, H, ds with
    | .normal, (.v (.b a0)), [], [] => some a0
    | _, _, _, _ => none
  exE := fun a0 => .normal
  slE := fun a0 => [(4, (.v (.b a0)))]
  obE := fun a0 => []
  dsE := fun a0 => []
  goE := fun _ a0 k => k .normal [(4, (.v (.b a0)))] [] []
theorem p_tollbarlaw05_LexFronts_24_ok : PieceOk p_tollbarlaw05_LexFronts_24 := by
  refine ⟨fun env H ds s h => ?_, fun x env H ds e h => ?_, fun R e k => by kernel_rfl⟩
  · simp only [p_tollbarlaw05_LexFronts_24] at h ⊢; split at h <;> first | (cases h; simp only [List.forall_mem_cons]; simp_all; done) | (cases h; done)
  · simp only [p_tollbarlaw05_LexFronts_24] at h ⊢; split at h <;> first | (cases h; simp only [List.forall_mem_cons]; simp_all; done) | (cases h; done)
theorem p_tollbarlaw05_LexFronts_24_ct (κ : Nat) (m : Int) : CutOk Tryd.prog C (G m) Tryd.f6.ntmps 0 (pieceOf (.reg 30) (getBody Tryd.f6)) (p_tollbarlaw05_LexFronts_24.cut (gcN 0 [7, 8, 17, 18]) (fun (a0, a1, a2, a3, a4, a5) => tollbarlaw05_LexFronts.v24 κ a0 a1 a2 a3 a4 a5)) :=
  Piece.join p_tollbarlaw05_LexFronts_24_ok C_ok mixed (gam40_ok κ m) gcN_ok (xN_ok gcN_ok (ex_nil) gcN_ok gcN_ok) (cut := (ct_tollbarlaw05_LexFronts_23 κ)) (X := (xN (gcN 0 [4]) [] (gcN 0 [4]) (gcN 0 [1000000]))) (cuts_by (l := []) (by kernel_rfl) (all_nil)) (fun s => by kernel_rfl)
def cc_tollbarlaw05_LexFronts_25 (κ : Nat) : Cut T := p_tollbarlaw05_LexFronts_24.cut (gcN 0 [7, 8, 17, 18]) (fun (a0, a1, a2, a3, a4, a5) => tollbarlaw05_LexFronts.v24 κ a0 a1 a2 a3 a4 a5)
theorem cc_tollbarlaw05_LexFronts_25_ok (κ : Nat) (m : Int) : CutOk Tryd.prog C (G m) Tryd.f6.ntmps 0 (pieceOf (.reg 30) (getBody Tryd.f6)) (cc_tollbarlaw05_LexFronts_25 κ) := p_tollbarlaw05_LexFronts_24_ct κ m
def ct_tollbarlaw05_LexFronts_25 (κ : Nat) : Key → Option (Cut T) := addCut (ct_tollbarlaw05_LexFronts_23 κ) (.reg 30) (cc_tollbarlaw05_LexFronts_25 κ)
def sp_tollbarlaw05_LexFronts : Spec T (ByteArray × ByteArray) (Bool) where
  dcI a H := match a, H with
    | [(.v (.s a0)), (.v (.s a1))], [] => some (a0, a1)
    | _, _ => none
  ecA := fun (a0, a1) => [(.v (.s a0)), (.v (.s a1))]
  ecH := fun (a0, a1) => []
  dcO o := match o with
    | .ret (.v (.b a0)) [] => some a0
    | _ => none
  goO := fun _ a0 k => k (.ret (.v (.b a0)) [])
  ecO := fun a0 => .ret (.v (.b a0)) []
theorem sp_tollbarlaw05_LexFronts_ok : SpecOk sp_tollbarlaw05_LexFronts := by
  refine ⟨fun a H i h => ?_, fun o x h => ?_, fun R e k => by kernel_rfl⟩
  · simp only [sp_tollbarlaw05_LexFronts] at h ⊢; split at h <;> first | (cases h; exact ⟨rfl, rfl⟩) | (cases h; done)
  · simp only [sp_tollbarlaw05_LexFronts] at h ⊢; split at h <;> first | (cases h; rfl) | (cases h; done)
theorem ok_tollbarlaw05_LexFronts (κ : Nat) (m : Int) : EOk Tryd.prog C (G m) 6 (sp_tollbarlaw05_LexFronts.entry (fun (a0, a1) => tollbarlaw05_LexFronts κ a0 a1)) :=
  Spec.ok sp_tollbarlaw05_LexFronts_ok C_ok mixed (gam40_ok κ m) (cut := (ct_tollbarlaw05_LexFronts_25 κ)) (NR := (gcN 0 [0])) (NP := (gcN 0 [0])) (nB := 0) Tryd.func6 (c := (getBody Tryd.f6)) (by kernel_rfl) (by kernel_rfl) (fun i => by kernel_rfl) gcN_ok gcN_ok (cuts_by (l := [(pieceOf (.reg 4) (getBody Tryd.f6), cc_tollbarlaw05_LexFronts_1 κ), (pieceOf (.blk 0) (getBody Tryd.f6), cc_tollbarlaw05_LexFronts_7 κ), (pieceOf (.reg 15) (getBody Tryd.f6), cc_tollbarlaw05_LexFronts_9 κ), (pieceOf (.blk 2) (getBody Tryd.f6), cc_tollbarlaw05_LexFronts_19 κ), (pieceOf (.reg 25) (getBody Tryd.f6), cc_tollbarlaw05_LexFronts_21 κ), (pieceOf (.reg 27) (getBody Tryd.f6), cc_tollbarlaw05_LexFronts_23 κ), (pieceOf (.reg 30) (getBody Tryd.f6), cc_tollbarlaw05_LexFronts_25 κ)]) (by kernel_rfl) (all_cons (cc_tollbarlaw05_LexFronts_1_ok κ m) (all_cons (cc_tollbarlaw05_LexFronts_7_ok κ m) (all_cons (cc_tollbarlaw05_LexFronts_9_ok κ m) (all_cons (cc_tollbarlaw05_LexFronts_19_ok κ m) (all_cons (cc_tollbarlaw05_LexFronts_21_ok κ m) (all_cons (cc_tollbarlaw05_LexFronts_23_ok κ m) (all_cons (cc_tollbarlaw05_LexFronts_25_ok κ m) (all_nil))))))))) (fun i => by kernel_rfl)
noncomputable def gam41 (κ : Nat) : Gam T := (gam40 κ).addS 6 sp_tollbarlaw05_LexFronts (fun (a0, a1) => tollbarlaw05_LexFronts κ a0 a1)
theorem gam41_ok (κ : Nat) (m : Int) : GOk Tryd.prog C (G m) (gam41 κ) := (gam40_ok κ m).addS (ok_tollbarlaw05_LexFronts κ m)
def p_tollbarlaw05_LexJoins_0 : Piece T (ByteArray × ByteArray) (ByteArray × ByteArray × Bool) where
  dcS env H ds := match env 0, env 1, H, ds with
    | (.v (.s a0)), (.v (.s a1)), [], [] => some (a0, a1)
    | _, _, _, _ => none
  slS := fun (a0, a1) => [(0, (.v (.s a0))), (1, (.v (.s a1)))]
  obS := fun (a0, a1) => []
  dsS := fun (a0, a1) => []
  dcE x env H ds := match x, env 0, env 1, env 28, H, ds with
    | .normal, (.v (.s a0)), (.v (.s a1)), (.v (.b a2)), [], [] => some (a0, a1, a2)
    | _, _, _, _, _, _ => none
  exE := fun (a0, a1, a2) => .normal
  slE := fun (a0, a1, a2) => [(0, (.v (.s a0))), (1, (.v (.s a1))), (28, (.v (.b a2)))]
  obE := fun (a0, a1, a2) => []
  dsE := fun (a0, a1, a2) => []
  goE := fun _ (a0, a1, a2) k => k .normal [(0, (.v (.s a0))), (1, (.v (.s a1))), (28, (.v (.b a2)))] [] []
theorem p_tollbarlaw05_LexJoins_0_ok : PieceOk p_tollbarlaw05_LexJoins_0 := by
  refine ⟨fun env H ds s h => ?_, fun x env H ds e h => ?_, fun R e k => by kernel_rfl⟩
  · simp only [p_tollbarlaw05_LexJoins_0] at h ⊢; split at h <;> first | (cases h; simp only [List.forall_mem_cons]; simp_all; done) | (cases h; done)
  · simp only [p_tollbarlaw05_LexJoins_0] at h ⊢; split at h <;> first | (cases h; simp only [List.forall_mem_cons]; simp_all; done) | (cases h; done)
theorem p_tollbarlaw05_LexJoins_0_ct (κ : Nat) (m : Int) : CutOk Tryd.prog C (G m) Tryd.f7.ntmps 0 (pieceOf (.reg 4) (getBody Tryd.f7)) (p_tollbarlaw05_LexJoins_0.cut (gcN 0 [0, 1]) (fun (a0, a1) => tollbarlaw05_LexJoins.v0 κ a0 a1)) :=
  Piece.join p_tollbarlaw05_LexJoins_0_ok C_ok mixed (gam41_ok κ m) gcN_ok (xN_ok gcN_ok (ex_nil) gcN_ok gcN_ok) (cut := noCut) (X := (xN (gcN 0 [0, 1, 28]) [] (gcN 0 [4]) (gcN 0 [1000000]))) (cuts_by (l := []) (by kernel_rfl) (all_nil)) (fun s => by kernel_rfl)
def cc_tollbarlaw05_LexJoins_1 (κ : Nat) : Cut T := p_tollbarlaw05_LexJoins_0.cut (gcN 0 [0, 1]) (fun (a0, a1) => tollbarlaw05_LexJoins.v0 κ a0 a1)
theorem cc_tollbarlaw05_LexJoins_1_ok (κ : Nat) (m : Int) : CutOk Tryd.prog C (G m) Tryd.f7.ntmps 0 (pieceOf (.reg 4) (getBody Tryd.f7)) (cc_tollbarlaw05_LexJoins_1 κ) := p_tollbarlaw05_LexJoins_0_ct κ m
def ct_tollbarlaw05_LexJoins_1 (κ : Nat) : Key → Option (Cut T) := addCut noCut (.reg 4) (cc_tollbarlaw05_LexJoins_1 κ)
def p_tollbarlaw05_LexJoins_2 : Piece T (Int × Int × (List LexToken)) (Bool) where
  dcS env H ds := match env 7, env 12, env 13, H, ds with
    | (.v (.i .i64 a0)), (.own 0), (.v (.i .i64 a1)), [(.row 37 a2 true)], [] => some (a0, a1, a2)
    | _, _, _, _, _ => none
  slS := fun (a0, a1, a2) => [(7, (.v (.i .i64 a0))), (12, (.own 0)), (13, (.v (.i .i64 a1)))]
  obS := fun (a0, a1, a2) => [(.row 37 a2 true)]
  dsS := fun (a0, a1, a2) => []
  dcE x env H ds := match x, env 4, H, ds with
    | .normal, (.v (.b a0)), [], [] => some a0
    | _, _, _, _ => none
  exE := fun a0 => .normal
  slE := fun a0 => [(4, (.v (.b a0)))]
  obE := fun a0 => []
  dsE := fun a0 => []
  goE := fun _ a0 k => k .normal [(4, (.v (.b a0)))] [] []
theorem p_tollbarlaw05_LexJoins_2_ok : PieceOk p_tollbarlaw05_LexJoins_2 := by
  refine ⟨fun env H ds s h => ?_, fun x env H ds e h => ?_, fun R e k => by kernel_rfl⟩
  · simp only [p_tollbarlaw05_LexJoins_2] at h ⊢; split at h <;> first | (cases h; simp only [List.forall_mem_cons]; simp_all; done) | (cases h; done)
  · simp only [p_tollbarlaw05_LexJoins_2] at h ⊢; split at h <;> first | (cases h; simp only [List.forall_mem_cons]; simp_all; done) | (cases h; done)
theorem p_tollbarlaw05_LexJoins_2_ct (κ : Nat) (m : Int) : CutOk Tryd.prog C (G m) Tryd.f7.ntmps 0 (pieceOf (.reg 10) (getBody Tryd.f7)) (p_tollbarlaw05_LexJoins_2.cut (gcN 0 [7, 12, 13]) (fun (a0, a1, a2) => tollbarlaw05_LexJoins.v2 κ a0 a1 a2)) :=
  Piece.join p_tollbarlaw05_LexJoins_2_ok C_ok mixed (gam41_ok κ m) gcN_ok (xN_ok gcN_ok (ex_nil) gcN_ok gcN_ok) (cut := (ct_tollbarlaw05_LexJoins_1 κ)) (X := (xN (gcN 0 [4]) [] (gcN 0 [4]) (gcN 0 [1000000]))) (cuts_by (l := []) (by kernel_rfl) (all_nil)) (fun s => by kernel_rfl)
def cc_tollbarlaw05_LexJoins_3 (κ : Nat) : Cut T := p_tollbarlaw05_LexJoins_2.cut (gcN 0 [7, 12, 13]) (fun (a0, a1, a2) => tollbarlaw05_LexJoins.v2 κ a0 a1 a2)
theorem cc_tollbarlaw05_LexJoins_3_ok (κ : Nat) (m : Int) : CutOk Tryd.prog C (G m) Tryd.f7.ntmps 0 (pieceOf (.reg 10) (getBody Tryd.f7)) (cc_tollbarlaw05_LexJoins_3 κ) := p_tollbarlaw05_LexJoins_2_ct κ m
def ct_tollbarlaw05_LexJoins_3 (κ : Nat) : Key → Option (Cut T) := addCut (ct_tollbarlaw05_LexJoins_1 κ) (.reg 10) (cc_tollbarlaw05_LexJoins_3 κ)
def p_tollbarlaw05_LexJoins_4 : Piece T (Int × Int × Int × Int × Int × Int × Int) (Bool) where
  dcS env H ds := match env 10, env 11, env 13, env 14, env 15, H, ds with
    | (.v (.i .i64 a0)), (.ptr 0 0), (.v (.i .i64 a1)), (.ptr 1 0), (.v (.i .i64 a2)), [(.cells 26 none [(.v (.i .i64 a3)), (.v (.i .i64 a4))]), (.cells 26 none [(.v (.i .i64 a5)), (.v (.i .i64 a6))])], [] => some (a0, a1, a2, a3, a4, a5, a6)
    | _, _, _, _, _, _, _ => none
  slS := fun (a0, a1, a2, a3, a4, a5, a6) => [(10, (.v (.i .i64 a0))), (11, (.ptr 0 0)), (13, (.v (.i .i64 a1))), (14, (.ptr 1 0)), (15, (.v (.i .i64 a2)))]
  obS := fun (a0, a1, a2, a3, a4, a5, a6) => [(.cells 26 none [(.v (.i .i64 a3)), (.v (.i .i64 a4))]), (.cells 26 none [(.v (.i .i64 a5)), (.v (.i .i64 a6))])]
  dsS := fun (a0, a1, a2, a3, a4, a5, a6) => []
  dcE x env H ds := match x, env 4, H, ds with
    | .normal, (.v (.b a0)), [], [] => some a0
    | _, _, _, _ => none
  exE := fun a0 => .normal
  slE := fun a0 => [(4, (.v (.b a0)))]
  obE := fun a0 => []
  dsE := fun a0 => []
  goE := fun _ a0 k => k .normal [(4, (.v (.b a0)))] [] []
theorem p_tollbarlaw05_LexJoins_4_ok : PieceOk p_tollbarlaw05_LexJoins_4 := by
  refine ⟨fun env H ds s h => ?_, fun x env H ds e h => ?_, fun R e k => by kernel_rfl⟩
  · simp only [p_tollbarlaw05_LexJoins_4] at h ⊢; split at h <;> first | (cases h; simp only [List.forall_mem_cons]; simp_all; done) | (cases h; done)
  · simp only [p_tollbarlaw05_LexJoins_4] at h ⊢; split at h <;> first | (cases h; simp only [List.forall_mem_cons]; simp_all; done) | (cases h; done)
theorem p_tollbarlaw05_LexJoins_4_ct (κ : Nat) (m : Int) : CutOk Tryd.prog C (G m) Tryd.f7.ntmps 0 (pieceOf (.reg 13) (getBody Tryd.f7)) (p_tollbarlaw05_LexJoins_4.cut (gcN 0 [10, 11, 13, 14, 15]) (fun (a0, a1, a2, a3, a4, a5, a6) => tollbarlaw05_LexJoins.v4 κ a0 a1 a2 a3 a4 a5 a6)) :=
  Piece.join p_tollbarlaw05_LexJoins_4_ok C_ok mixed (gam41_ok κ m) gcN_ok (xN_ok gcN_ok (ex_nil) gcN_ok gcN_ok) (cut := (ct_tollbarlaw05_LexJoins_3 κ)) (X := (xN (gcN 0 [4]) [] (gcN 0 [4]) (gcN 0 [1000000]))) (cuts_by (l := []) (by kernel_rfl) (all_nil)) (fun s => by kernel_rfl)
def cc_tollbarlaw05_LexJoins_5 (κ : Nat) : Cut T := p_tollbarlaw05_LexJoins_4.cut (gcN 0 [10, 11, 13, 14, 15]) (fun (a0, a1, a2, a3, a4, a5, a6) => tollbarlaw05_LexJoins.v4 κ a0 a1 a2 a3 a4 a5 a6)
theorem cc_tollbarlaw05_LexJoins_5_ok (κ : Nat) (m : Int) : CutOk Tryd.prog C (G m) Tryd.f7.ntmps 0 (pieceOf (.reg 13) (getBody Tryd.f7)) (cc_tollbarlaw05_LexJoins_5 κ) := p_tollbarlaw05_LexJoins_4_ct κ m
def ct_tollbarlaw05_LexJoins_5 (κ : Nat) : Key → Option (Cut T) := addCut (ct_tollbarlaw05_LexJoins_3 κ) (.reg 13) (cc_tollbarlaw05_LexJoins_5 κ)
def p_tollbarlaw05_LexJoins_6 : Piece T (Int × Int × (List LexToken) × (List LexToken) × (List LexToken)) (Int × Bool × (List LexToken) × (List LexToken) × (List LexToken)) where
  dcS env H ds := match env 6, env 9, env 12, env 13, env 15, H, ds with
    | (.own 0), (.own 1), (.own 2), (.v (.i .i64 a0)), (.v (.i .i64 a1)), [(.row 37 a2 true), (.row 37 a3 true), (.row 37 a4 true)], [] => some (a0, a1, a2, a3, a4)
    | _, _, _, _, _, _, _ => none
  slS := fun (a0, a1, a2, a3, a4) => [(6, (.own 0)), (9, (.own 1)), (12, (.own 2)), (13, (.v (.i .i64 a0))), (15, (.v (.i .i64 a1)))]
  obS := fun (a0, a1, a2, a3, a4) => [(.row 37 a2 true), (.row 37 a3 true), (.row 37 a4 true)]
  dsS := fun (a0, a1, a2, a3, a4) => []
  dcE x env H ds := match x, env 6, env 9, env 12, env 15, env 101, H, ds with
    | .normal, (.own 0), (.own 1), (.own 2), (.v (.i .i64 a0)), (.v (.b a1)), [(.row 37 a2 true), (.row 37 a3 true), (.row 37 a4 true)], [] => some (a0, a1, a2, a3, a4)
    | _, _, _, _, _, _, _, _ => none
  exE := fun (a0, a1, a2, a3, a4) => .normal
  slE := fun (a0, a1, a2, a3, a4) => [(6, (.own 0)), (9, (.own 1)), (12, (.own 2)), (15, (.v (.i .i64 a0))), (101, (.v (.b a1)))]
  obE := fun (a0, a1, a2, a3, a4) => [(.row 37 a2 true), (.row 37 a3 true), (.row 37 a4 true)]
  dsE := fun (a0, a1, a2, a3, a4) => []
  goE := fun _ (a0, a1, a2, a3, a4) k => k .normal [(6, (.own 0)), (9, (.own 1)), (12, (.own 2)), (15, (.v (.i .i64 a0))), (101, (.v (.b a1)))] [(.row 37 a2 true), (.row 37 a3 true), (.row 37 a4 true)] []
theorem p_tollbarlaw05_LexJoins_6_ok : PieceOk p_tollbarlaw05_LexJoins_6 := by
  refine ⟨fun env H ds s h => ?_, fun x env H ds e h => ?_, fun R e k => by kernel_rfl⟩
  · simp only [p_tollbarlaw05_LexJoins_6] at h ⊢; split at h <;> first | (cases h; simp only [List.forall_mem_cons]; simp_all; done) | (cases h; done)
  · simp only [p_tollbarlaw05_LexJoins_6] at h ⊢; split at h <;> first | (cases h; simp only [List.forall_mem_cons]; simp_all; done) | (cases h; done)
theorem p_tollbarlaw05_LexJoins_6_ct (κ : Nat) (m : Int) : CutOk Tryd.prog C (G m) Tryd.f7.ntmps 0 (pieceOf (.reg 14) (getBody Tryd.f7)) (p_tollbarlaw05_LexJoins_6.cut (gcN 0 [6, 9, 12, 13, 15]) (fun (a0, a1, a2, a3, a4) => tollbarlaw05_LexJoins.v6 κ a0 a1 a2 a3 a4)) :=
  Piece.join p_tollbarlaw05_LexJoins_6_ok C_ok mixed (gam41_ok κ m) gcN_ok (xN_ok gcN_ok (ex_nil) gcN_ok gcN_ok) (cut := (ct_tollbarlaw05_LexJoins_5 κ)) (X := (xN (gcN 0 [6, 9, 12, 15, 101]) [] (gcN 0 [4]) (gcN 0 [1000000]))) (cuts_by (l := []) (by kernel_rfl) (all_nil)) (fun s => by kernel_rfl)
def cc_tollbarlaw05_LexJoins_7 (κ : Nat) : Cut T := p_tollbarlaw05_LexJoins_6.cut (gcN 0 [6, 9, 12, 13, 15]) (fun (a0, a1, a2, a3, a4) => tollbarlaw05_LexJoins.v6 κ a0 a1 a2 a3 a4)
theorem cc_tollbarlaw05_LexJoins_7_ok (κ : Nat) (m : Int) : CutOk Tryd.prog C (G m) Tryd.f7.ntmps 0 (pieceOf (.reg 14) (getBody Tryd.f7)) (cc_tollbarlaw05_LexJoins_7 κ) := p_tollbarlaw05_LexJoins_6_ct κ m
def ct_tollbarlaw05_LexJoins_7 (κ : Nat) : Key → Option (Cut T) := addCut (ct_tollbarlaw05_LexJoins_5 κ) (.reg 14) (cc_tollbarlaw05_LexJoins_7 κ)
def p_tollbarlaw05_LexJoins_11 : Piece T (Int × Int × Bool × (List LexToken) × (List LexToken) × (List LexToken) × Int × ByteArray × Int × Int) (Int × Int × (List LexToken) × (List LexToken) × (List LexToken) × Int × ByteArray × Int × Int) where
  dcS env H ds := match env 6, env 9, env 12, env 15, env 16, env 17, env 113, H, ds with
    | (.own 0), (.own 1), (.own 2), (.v (.i .i64 a0)), (.v (.i .i64 a1)), (.ptr 3 0), (.v (.b a2)), [(.row 37 a3 true), (.row 37 a4 true), (.row 37 a5 true), (.cells 37 none [(.v (.i .i64 a6)), (.v (.s a7)), (.v (.i .i64 a8)), (.v (.i .i64 a9))])], [] => some (a0, a1, a2, a3, a4, a5, a6, a7, a8, a9)
    | _, _, _, _, _, _, _, _, _ => none
  slS := fun (a0, a1, a2, a3, a4, a5, a6, a7, a8, a9) => [(6, (.own 0)), (9, (.own 1)), (12, (.own 2)), (15, (.v (.i .i64 a0))), (16, (.v (.i .i64 a1))), (17, (.ptr 3 0)), (113, (.v (.b a2)))]
  obS := fun (a0, a1, a2, a3, a4, a5, a6, a7, a8, a9) => [(.row 37 a3 true), (.row 37 a4 true), (.row 37 a5 true), (.cells 37 none [(.v (.i .i64 a6)), (.v (.s a7)), (.v (.i .i64 a8)), (.v (.i .i64 a9))])]
  dsS := fun (a0, a1, a2, a3, a4, a5, a6, a7, a8, a9) => []
  dcE x env H ds := match x, env 6, env 9, env 12, env 15, env 16, env 17, H, ds with
    | .normal, (.own 0), (.own 1), (.own 2), (.v (.i .i64 a0)), (.v (.i .i64 a1)), (.ptr 3 0), [(.row 37 a2 true), (.row 37 a3 true), (.row 37 a4 true), (.cells 37 none [(.v (.i .i64 a5)), (.v (.s a6)), (.v (.i .i64 a7)), (.v (.i .i64 a8))])], [] => some (a0, a1, a2, a3, a4, a5, a6, a7, a8)
    | _, _, _, _, _, _, _, _, _ => none
  exE := fun (a0, a1, a2, a3, a4, a5, a6, a7, a8) => .normal
  slE := fun (a0, a1, a2, a3, a4, a5, a6, a7, a8) => [(6, (.own 0)), (9, (.own 1)), (12, (.own 2)), (15, (.v (.i .i64 a0))), (16, (.v (.i .i64 a1))), (17, (.ptr 3 0))]
  obE := fun (a0, a1, a2, a3, a4, a5, a6, a7, a8) => [(.row 37 a2 true), (.row 37 a3 true), (.row 37 a4 true), (.cells 37 none [(.v (.i .i64 a5)), (.v (.s a6)), (.v (.i .i64 a7)), (.v (.i .i64 a8))])]
  dsE := fun (a0, a1, a2, a3, a4, a5, a6, a7, a8) => []
  goE := fun _ (a0, a1, a2, a3, a4, a5, a6, a7, a8) k => k .normal [(6, (.own 0)), (9, (.own 1)), (12, (.own 2)), (15, (.v (.i .i64 a0))), (16, (.v (.i .i64 a1))), (17, (.ptr 3 0))] [(.row 37 a2 true), (.row 37 a3 true), (.row 37 a4 true), (.cells 37 none [(.v (.i .i64 a5)), (.v (.s a6)), (.v (.i .i64 a7)), (.v (.i .i64 a8))])] []
theorem p_tollbarlaw05_LexJoins_11_ok : PieceOk p_tollbarlaw05_LexJoins_11 := by
  refine ⟨fun env H ds s h => ?_, fun x env H ds e h => ?_, fun R e k => by kernel_rfl⟩
  · simp only [p_tollbarlaw05_LexJoins_11] at h ⊢; split at h <;> first | (cases h; simp only [List.forall_mem_cons]; simp_all; done) | (cases h; done)
  · simp only [p_tollbarlaw05_LexJoins_11] at h ⊢; split at h <;> first | (cases h; simp only [List.forall_mem_cons]; simp_all; done) | (cases h; done)
theorem p_tollbarlaw05_LexJoins_11_ct (κ : Nat) (m : Int) : CutOk Tryd.prog C (G m) Tryd.f7.ntmps 0 (pieceOf (.cnd 113 22) (getBody Tryd.f7)) (p_tollbarlaw05_LexJoins_11.cut (gcN 0 [6, 9, 12, 15, 16, 17, 113]) (fun (a0, a1, a2, a3, a4, a5, a6, a7, a8, a9) => tollbarlaw05_LexJoins.v11 κ a0 a1 a2 a3 a4 a5 a6 a7 a8 a9)) :=
  Piece.join p_tollbarlaw05_LexJoins_11_ok C_ok mixed (gam41_ok κ m) gcN_ok (xN_ok gcN_ok (ex_cons gcN_ok (ex_cons gcN_ok (ex_nil))) gcN_ok gcN_ok) (cut := (ct_tollbarlaw05_LexJoins_7 κ)) (X := (xN (gcN 0 [6, 9, 12, 15, 16, 17]) [(1, (gcN 0 [6, 9, 12, 15, 16])), (0, (gcN 0 []))] (gcN 0 [4]) (gcN 0 [1000000]))) (cuts_by (l := []) (by kernel_rfl) (all_nil)) (fun s => by kernel_rfl)
def cc_tollbarlaw05_LexJoins_12 (κ : Nat) : Cut T := p_tollbarlaw05_LexJoins_11.cut (gcN 0 [6, 9, 12, 15, 16, 17, 113]) (fun (a0, a1, a2, a3, a4, a5, a6, a7, a8, a9) => tollbarlaw05_LexJoins.v11 κ a0 a1 a2 a3 a4 a5 a6 a7 a8 a9)
theorem cc_tollbarlaw05_LexJoins_12_ok (κ : Nat) (m : Int) : CutOk Tryd.prog C (G m) Tryd.f7.ntmps 0 (pieceOf (.cnd 113 22) (getBody Tryd.f7)) (cc_tollbarlaw05_LexJoins_12 κ) := p_tollbarlaw05_LexJoins_11_ct κ m
def ct_tollbarlaw05_LexJoins_12 (κ : Nat) : Key → Option (Cut T) := addCut (ct_tollbarlaw05_LexJoins_7 κ) (.cnd 113 22) (cc_tollbarlaw05_LexJoins_12 κ)
def p_tollbarlaw05_LexJoins_10 : Piece T (Int × Int × (List LexToken) × (List LexToken) × (List LexToken)) ((Unit) ⊕ (Bool)) where
  dcS env H ds := match env 6, env 9, env 12, env 15, env 16, H, ds with
    | (.own 0), (.own 1), (.own 2), (.v (.i .i64 a0)), (.v (.i .i64 a1)), [(.row 37 a2 true), (.row 37 a3 true), (.row 37 a4 true)], [] => some (a0, a1, a2, a3, a4)
    | _, _, _, _, _, _, _ => none
  slS := fun (a0, a1, a2, a3, a4) => [(6, (.own 0)), (9, (.own 1)), (12, (.own 2)), (15, (.v (.i .i64 a0))), (16, (.v (.i .i64 a1)))]
  obS := fun (a0, a1, a2, a3, a4) => [(.row 37 a2 true), (.row 37 a3 true), (.row 37 a4 true)]
  dsS := fun (a0, a1, a2, a3, a4) => []
  dcE x env H ds := match x, env 4, H, ds with
    | .normal, _, [], [] => some (.inl ())
    | .ret, (.v (.b a0)), [], [] => some (.inr a0)
    | _, _, _, _ => none
  exE := fun x => match x with
    | (.inl _) => .normal
    | (.inr a0) => .ret
  slE := fun x => match x with
    | (.inl _) => []
    | (.inr a0) => [(4, (.v (.b a0)))]
  obE := fun x => match x with
    | (.inl _) => []
    | (.inr a0) => []
  dsE := fun x => match x with
    | (.inl _) => []
    | (.inr a0) => []
  goE := fun _ x k => match x with
    | (.inl _) => k .normal [] [] []
    | (.inr a0) => k .ret [(4, (.v (.b a0)))] [] []
theorem p_tollbarlaw05_LexJoins_10_ok : PieceOk p_tollbarlaw05_LexJoins_10 := by
  refine ⟨fun env H ds s h => ?_, fun x env H ds e h => ?_, fun R e k => by rcases e with e | e <;> kernel_rfl⟩
  · simp only [p_tollbarlaw05_LexJoins_10] at h ⊢; split at h <;> first | (cases h; simp only [List.forall_mem_cons]; simp_all; done) | (cases h; done)
  · simp only [p_tollbarlaw05_LexJoins_10] at h ⊢; split at h <;> first | (cases h; simp only [List.forall_mem_cons]; simp_all; done) | (cases h; done)
theorem p_tollbarlaw05_LexJoins_10_ct (κ : Nat) (m : Int) : CutOk Tryd.prog C (G m) Tryd.f7.ntmps 0 (pieceOf (.blk 0) (getBody Tryd.f7)) (p_tollbarlaw05_LexJoins_10.cut (gcN 0 [6, 9, 12, 15, 16]) (tollbarlaw05_LexJoins.l10 κ κ)) :=
  Piece.loop p_tollbarlaw05_LexJoins_10_ok C_ok mixed (gam41_ok κ m) gcN_ok (xN_ok gcN_ok (ex_nil) gcN_ok gcN_ok) (cut := (ct_tollbarlaw05_LexJoins_12 κ)) (X := (xN (gcN 0 []) [] (gcN 0 [4]) (gcN 0 [1000000]))) (id := 0) (body := bodyOf (pieceOf (.blk 0) (getBody Tryd.f7))) (cuts_by (l := [(pieceOf (.cnd 113 22) (getBody Tryd.f7), cc_tollbarlaw05_LexJoins_12 κ)]) (by kernel_rfl) (all_cons (cc_tollbarlaw05_LexJoins_12_ok κ m) (all_nil))) (f := tollbarlaw05_LexJoins.l10 κ) (fun s => by kernel_rfl) (fun k s => by kernel_rfl) κ
def cc_tollbarlaw05_LexJoins_13 (κ : Nat) : Cut T := p_tollbarlaw05_LexJoins_10.cut (gcN 0 [6, 9, 12, 15, 16]) (tollbarlaw05_LexJoins.l10 κ κ)
theorem cc_tollbarlaw05_LexJoins_13_ok (κ : Nat) (m : Int) : CutOk Tryd.prog C (G m) Tryd.f7.ntmps 0 (pieceOf (.blk 0) (getBody Tryd.f7)) (cc_tollbarlaw05_LexJoins_13 κ) := p_tollbarlaw05_LexJoins_10_ct κ m
def ct_tollbarlaw05_LexJoins_13 (κ : Nat) : Key → Option (Cut T) := addCut (ct_tollbarlaw05_LexJoins_7 κ) (.blk 0) (cc_tollbarlaw05_LexJoins_13 κ)
def sp_tollbarlaw05_LexJoins : Spec T (ByteArray × ByteArray) (Bool) where
  dcI a H := match a, H with
    | [(.v (.s a0)), (.v (.s a1))], [] => some (a0, a1)
    | _, _ => none
  ecA := fun (a0, a1) => [(.v (.s a0)), (.v (.s a1))]
  ecH := fun (a0, a1) => []
  dcO o := match o with
    | .ret (.v (.b a0)) [] => some a0
    | _ => none
  goO := fun _ a0 k => k (.ret (.v (.b a0)) [])
  ecO := fun a0 => .ret (.v (.b a0)) []
theorem sp_tollbarlaw05_LexJoins_ok : SpecOk sp_tollbarlaw05_LexJoins := by
  refine ⟨fun a H i h => ?_, fun o x h => ?_, fun R e k => by kernel_rfl⟩
  · simp only [sp_tollbarlaw05_LexJoins] at h ⊢; split at h <;> first | (cases h; exact ⟨rfl, rfl⟩) | (cases h; done)
  · simp only [sp_tollbarlaw05_LexJoins] at h ⊢; split at h <;> first | (cases h; rfl) | (cases h; done)
theorem ok_tollbarlaw05_LexJoins (κ : Nat) (m : Int) : EOk Tryd.prog C (G m) 7 (sp_tollbarlaw05_LexJoins.entry (fun (a0, a1) => tollbarlaw05_LexJoins κ a0 a1)) :=
  Spec.ok sp_tollbarlaw05_LexJoins_ok C_ok mixed (gam41_ok κ m) (cut := (ct_tollbarlaw05_LexJoins_13 κ)) (NR := (gcN 0 [0])) (NP := (gcN 0 [0])) (nB := 0) Tryd.func7 (c := (getBody Tryd.f7)) (by kernel_rfl) (by kernel_rfl) (fun i => by kernel_rfl) gcN_ok gcN_ok (cuts_by (l := [(pieceOf (.reg 4) (getBody Tryd.f7), cc_tollbarlaw05_LexJoins_1 κ), (pieceOf (.reg 10) (getBody Tryd.f7), cc_tollbarlaw05_LexJoins_3 κ), (pieceOf (.reg 13) (getBody Tryd.f7), cc_tollbarlaw05_LexJoins_5 κ), (pieceOf (.reg 14) (getBody Tryd.f7), cc_tollbarlaw05_LexJoins_7 κ), (pieceOf (.blk 0) (getBody Tryd.f7), cc_tollbarlaw05_LexJoins_13 κ)]) (by kernel_rfl) (all_cons (cc_tollbarlaw05_LexJoins_1_ok κ m) (all_cons (cc_tollbarlaw05_LexJoins_3_ok κ m) (all_cons (cc_tollbarlaw05_LexJoins_5_ok κ m) (all_cons (cc_tollbarlaw05_LexJoins_7_ok κ m) (all_cons (cc_tollbarlaw05_LexJoins_13_ok κ m) (all_nil))))))) (fun i => by kernel_rfl)
noncomputable def gam42 (κ : Nat) : Gam T := (gam41 κ).addS 7 sp_tollbarlaw05_LexJoins (fun (a0, a1) => tollbarlaw05_LexJoins κ a0 a1)
theorem gam42_ok (κ : Nat) (m : Int) : GOk Tryd.prog C (G m) (gam42 κ) := (gam41_ok κ m).addS (ok_tollbarlaw05_LexJoins κ m)
def p_tollbarlaw05_LexBetween_0 : Piece T ((List LexToken) × (List ByteArray)) ((List LexToken) × (List ByteArray) × Bool) where
  dcS env H ds := match env 0, env 1, H, ds with
    | (.v (.sl 37 a0)), (.v (.sl 9 a1)), [], [] => some (a0, a1)
    | _, _, _, _ => none
  slS := fun (a0, a1) => [(0, (.v (.sl 37 a0))), (1, (.v (.sl 9 a1)))]
  obS := fun (a0, a1) => []
  dsS := fun (a0, a1) => []
  dcE x env H ds := match x, env 0, env 1, env 26, H, ds with
    | .normal, (.v (.sl 37 a0)), (.v (.sl 9 a1)), (.v (.b a2)), [], [] => some (a0, a1, a2)
    | _, _, _, _, _, _ => none
  exE := fun (a0, a1, a2) => .normal
  slE := fun (a0, a1, a2) => [(0, (.v (.sl 37 a0))), (1, (.v (.sl 9 a1))), (26, (.v (.b a2)))]
  obE := fun (a0, a1, a2) => []
  dsE := fun (a0, a1, a2) => []
  goE := fun _ (a0, a1, a2) k => k .normal [(0, (.v (.sl 37 a0))), (1, (.v (.sl 9 a1))), (26, (.v (.b a2)))] [] []
theorem p_tollbarlaw05_LexBetween_0_ok : PieceOk p_tollbarlaw05_LexBetween_0 := by
  refine ⟨fun env H ds s h => ?_, fun x env H ds e h => ?_, fun R e k => by kernel_rfl⟩
  · simp only [p_tollbarlaw05_LexBetween_0] at h ⊢; split at h <;> first | (cases h; simp only [List.forall_mem_cons]; simp_all; done) | (cases h; done)
  · simp only [p_tollbarlaw05_LexBetween_0] at h ⊢; split at h <;> first | (cases h; simp only [List.forall_mem_cons]; simp_all; done) | (cases h; done)
theorem p_tollbarlaw05_LexBetween_0_ct (κ : Nat) (m : Int) : CutOk Tryd.prog C (G m) Tryd.f5.ntmps 0 (pieceOf (.reg 4) (getBody Tryd.f5)) (p_tollbarlaw05_LexBetween_0.cut (gcN 0 [0, 1]) (fun (a0, a1) => tollbarlaw05_LexBetween.v0 κ a0 a1)) :=
  Piece.join p_tollbarlaw05_LexBetween_0_ok C_ok mixed (gam42_ok κ m) gcN_ok (xN_ok gcN_ok (ex_nil) gcN_ok gcN_ok) (cut := noCut) (X := (xN (gcN 0 [0, 1, 26]) [] (gcN 0 [4]) (gcN 0 [1000000]))) (cuts_by (l := []) (by kernel_rfl) (all_nil)) (fun s => by kernel_rfl)
def cc_tollbarlaw05_LexBetween_1 (κ : Nat) : Cut T := p_tollbarlaw05_LexBetween_0.cut (gcN 0 [0, 1]) (fun (a0, a1) => tollbarlaw05_LexBetween.v0 κ a0 a1)
theorem cc_tollbarlaw05_LexBetween_1_ok (κ : Nat) (m : Int) : CutOk Tryd.prog C (G m) Tryd.f5.ntmps 0 (pieceOf (.reg 4) (getBody Tryd.f5)) (cc_tollbarlaw05_LexBetween_1 κ) := p_tollbarlaw05_LexBetween_0_ct κ m
def ct_tollbarlaw05_LexBetween_1 (κ : Nat) : Key → Option (Cut T) := addCut noCut (.reg 4) (cc_tollbarlaw05_LexBetween_1 κ)
def p_tollbarlaw05_LexBetween_17 : Piece T ((List LexToken) × (List ByteArray) × ByteArray × Int × Int) (((List LexToken) × (List ByteArray) × ByteArray × Int) ⊕ (Bool)) where
  dcS env H ds := match env 0, env 1, env 6, env 7, env 8, H, ds with
    | (.v (.sl 37 a0)), (.v (.sl 9 a1)), (.v (.s a2)), (.v (.i .i64 a3)), (.v (.i .i64 a4)), [], [] => some (a0, a1, a2, a3, a4)
    | _, _, _, _, _, _, _ => none
  slS := fun (a0, a1, a2, a3, a4) => [(0, (.v (.sl 37 a0))), (1, (.v (.sl 9 a1))), (6, (.v (.s a2))), (7, (.v (.i .i64 a3))), (8, (.v (.i .i64 a4)))]
  obS := fun (a0, a1, a2, a3, a4) => []
  dsS := fun (a0, a1, a2, a3, a4) => []
  dcE x env H ds := match x, env 0, env 1, env 4, env 6, env 7, H, ds with
    | .normal, (.v (.sl 37 a0)), (.v (.sl 9 a1)), _, (.v (.s a2)), (.v (.i .i64 a3)), [], [] => some (.inl (a0, a1, a2, a3))
    | .ret, _, _, (.v (.b a0)), _, _, [], [] => some (.inr a0)
    | _, _, _, _, _, _, _, _ => none
  exE := fun x => match x with
    | (.inl (a0, a1, a2, a3)) => .normal
    | (.inr a0) => .ret
  slE := fun x => match x with
    | (.inl (a0, a1, a2, a3)) => [(0, (.v (.sl 37 a0))), (1, (.v (.sl 9 a1))), (6, (.v (.s a2))), (7, (.v (.i .i64 a3)))]
    | (.inr a0) => [(4, (.v (.b a0)))]
  obE := fun x => match x with
    | (.inl (a0, a1, a2, a3)) => []
    | (.inr a0) => []
  dsE := fun x => match x with
    | (.inl (a0, a1, a2, a3)) => []
    | (.inr a0) => []
  goE := fun _ x k => match x with
    | (.inl (a0, a1, a2, a3)) => k .normal [(0, (.v (.sl 37 a0))), (1, (.v (.sl 9 a1))), (6, (.v (.s a2))), (7, (.v (.i .i64 a3)))] [] []
    | (.inr a0) => k .ret [(4, (.v (.b a0)))] [] []
theorem p_tollbarlaw05_LexBetween_17_ok : PieceOk p_tollbarlaw05_LexBetween_17 := by
  refine ⟨fun env H ds s h => ?_, fun x env H ds e h => ?_, fun R e k => by rcases e with e | e <;> kernel_rfl⟩
  · simp only [p_tollbarlaw05_LexBetween_17] at h ⊢; split at h <;> first | (cases h; simp only [List.forall_mem_cons]; simp_all; done) | (cases h; done)
  · simp only [p_tollbarlaw05_LexBetween_17] at h ⊢; split at h <;> first | (cases h; simp only [List.forall_mem_cons]; simp_all; done) | (cases h; done)
theorem p_tollbarlaw05_LexBetween_17_ct (κ : Nat) (m : Int) : CutOk Tryd.prog C (G m) Tryd.f5.ntmps 0 (pieceOf (.blk 2) (getBody Tryd.f5)) (p_tollbarlaw05_LexBetween_17.cut (gcN 0 [0, 1, 6, 7, 8]) (tollbarlaw05_LexBetween.l17 κ κ)) :=
  Piece.loop p_tollbarlaw05_LexBetween_17_ok C_ok mixed (gam42_ok κ m) gcN_ok (xN_ok gcN_ok (ex_cons gcN_ok (ex_cons gcN_ok (ex_nil))) gcN_ok gcN_ok) (cut := (ct_tollbarlaw05_LexBetween_1 κ)) (X := (xN (gcN 0 [0, 1, 6, 7]) [(1, (gcN 0 [0, 1, 6, 7])), (0, (gcN 0 [0, 6]))] (gcN 0 [4]) (gcN 0 [1000000]))) (id := 2) (body := bodyOf (pieceOf (.blk 2) (getBody Tryd.f5))) (cuts_by (l := []) (by kernel_rfl) (all_nil)) (f := tollbarlaw05_LexBetween.l17 κ) (fun s => by kernel_rfl) (fun k s => by kernel_rfl) κ
def cc_tollbarlaw05_LexBetween_18 (κ : Nat) : Cut T := p_tollbarlaw05_LexBetween_17.cut (gcN 0 [0, 1, 6, 7, 8]) (tollbarlaw05_LexBetween.l17 κ κ)
theorem cc_tollbarlaw05_LexBetween_18_ok (κ : Nat) (m : Int) : CutOk Tryd.prog C (G m) Tryd.f5.ntmps 0 (pieceOf (.blk 2) (getBody Tryd.f5)) (cc_tollbarlaw05_LexBetween_18 κ) := p_tollbarlaw05_LexBetween_17_ct κ m
def ct_tollbarlaw05_LexBetween_18 (κ : Nat) : Key → Option (Cut T) := addCut (ct_tollbarlaw05_LexBetween_1 κ) (.blk 2) (cc_tollbarlaw05_LexBetween_18 κ)
def p_tollbarlaw05_LexBetween_19 : Piece T ((List LexToken) × (List ByteArray) × ByteArray × Int) ((List LexToken) × (List ByteArray) × ByteArray × Int × Bool) where
  dcS env H ds := match env 0, env 1, env 6, env 7, H, ds with
    | (.v (.sl 37 a0)), (.v (.sl 9 a1)), (.v (.s a2)), (.v (.i .i64 a3)), [], [] => some (a0, a1, a2, a3)
    | _, _, _, _, _, _ => none
  slS := fun (a0, a1, a2, a3) => [(0, (.v (.sl 37 a0))), (1, (.v (.sl 9 a1))), (6, (.v (.s a2))), (7, (.v (.i .i64 a3)))]
  obS := fun (a0, a1, a2, a3) => []
  dsS := fun (a0, a1, a2, a3) => []
  dcE x env H ds := match x, env 0, env 1, env 6, env 7, env 63, H, ds with
    | .normal, (.v (.sl 37 a0)), (.v (.sl 9 a1)), (.v (.s a2)), (.v (.i .i64 a3)), (.v (.b a4)), [], [] => some (a0, a1, a2, a3, a4)
    | _, _, _, _, _, _, _, _ => none
  exE := fun (a0, a1, a2, a3, a4) => .normal
  slE := fun (a0, a1, a2, a3, a4) => [(0, (.v (.sl 37 a0))), (1, (.v (.sl 9 a1))), (6, (.v (.s a2))), (7, (.v (.i .i64 a3))), (63, (.v (.b a4)))]
  obE := fun (a0, a1, a2, a3, a4) => []
  dsE := fun (a0, a1, a2, a3, a4) => []
  goE := fun _ (a0, a1, a2, a3, a4) k => k .normal [(0, (.v (.sl 37 a0))), (1, (.v (.sl 9 a1))), (6, (.v (.s a2))), (7, (.v (.i .i64 a3))), (63, (.v (.b a4)))] [] []
theorem p_tollbarlaw05_LexBetween_19_ok : PieceOk p_tollbarlaw05_LexBetween_19 := by
  refine ⟨fun env H ds s h => ?_, fun x env H ds e h => ?_, fun R e k => by kernel_rfl⟩
  · simp only [p_tollbarlaw05_LexBetween_19] at h ⊢; split at h <;> first | (cases h; simp only [List.forall_mem_cons]; simp_all; done) | (cases h; done)
  · simp only [p_tollbarlaw05_LexBetween_19] at h ⊢; split at h <;> first | (cases h; simp only [List.forall_mem_cons]; simp_all; done) | (cases h; done)
theorem p_tollbarlaw05_LexBetween_19_ct (κ : Nat) (m : Int) : CutOk Tryd.prog C (G m) Tryd.f5.ntmps 0 (pieceOf (.reg 15) (getBody Tryd.f5)) (p_tollbarlaw05_LexBetween_19.cut (gcN 0 [0, 1, 6, 7]) (fun (a0, a1, a2, a3) => tollbarlaw05_LexBetween.v19 κ a0 a1 a2 a3)) :=
  Piece.join p_tollbarlaw05_LexBetween_19_ok C_ok mixed (gam42_ok κ m) gcN_ok (xN_ok gcN_ok (ex_cons gcN_ok (ex_cons gcN_ok (ex_nil))) gcN_ok gcN_ok) (cut := (ct_tollbarlaw05_LexBetween_18 κ)) (X := (xN (gcN 0 [0, 1, 6, 7, 63]) [(1, (gcN 0 [0, 1, 6, 7])), (0, (gcN 0 [0, 6]))] (gcN 0 [4]) (gcN 0 [1000000]))) (cuts_by (l := []) (by kernel_rfl) (all_nil)) (fun s => by kernel_rfl)
def cc_tollbarlaw05_LexBetween_20 (κ : Nat) : Cut T := p_tollbarlaw05_LexBetween_19.cut (gcN 0 [0, 1, 6, 7]) (fun (a0, a1, a2, a3) => tollbarlaw05_LexBetween.v19 κ a0 a1 a2 a3)
theorem cc_tollbarlaw05_LexBetween_20_ok (κ : Nat) (m : Int) : CutOk Tryd.prog C (G m) Tryd.f5.ntmps 0 (pieceOf (.reg 15) (getBody Tryd.f5)) (cc_tollbarlaw05_LexBetween_20 κ) := p_tollbarlaw05_LexBetween_19_ct κ m
def ct_tollbarlaw05_LexBetween_20 (κ : Nat) : Key → Option (Cut T) := addCut (ct_tollbarlaw05_LexBetween_18 κ) (.reg 15) (cc_tollbarlaw05_LexBetween_20 κ)
def p_tollbarlaw05_LexBetween_25 : Piece T ((List LexToken) × (List ByteArray) × ByteArray × Int × Int × Bool) ((Bool) ⊕ ((List LexToken) × (List ByteArray) × ByteArray × Int)) where
  dcS env H ds := match env 0, env 1, env 6, env 7, env 76, env 107, H, ds with
    | (.v (.sl 37 a0)), (.v (.sl 9 a1)), (.v (.s a2)), (.v (.i .i64 a3)), (.v (.i .i64 a4)), (.v (.b a5)), [], [] => some (a0, a1, a2, a3, a4, a5)
    | _, _, _, _, _, _, _, _ => none
  slS := fun (a0, a1, a2, a3, a4, a5) => [(0, (.v (.sl 37 a0))), (1, (.v (.sl 9 a1))), (6, (.v (.s a2))), (7, (.v (.i .i64 a3))), (76, (.v (.i .i64 a4))), (107, (.v (.b a5)))]
  obS := fun (a0, a1, a2, a3, a4, a5) => []
  dsS := fun (a0, a1, a2, a3, a4, a5) => []
  dcE x env H ds := match x, env 0, env 1, env 4, env 6, env 7, H, ds with
    | .ret, _, _, (.v (.b a0)), _, _, [], [] => some (.inl a0)
    | .normal, (.v (.sl 37 a0)), (.v (.sl 9 a1)), _, (.v (.s a2)), (.v (.i .i64 a3)), [], [] => some (.inr (a0, a1, a2, a3))
    | _, _, _, _, _, _, _, _ => none
  exE := fun x => match x with
    | (.inl a0) => .ret
    | (.inr (a0, a1, a2, a3)) => .normal
  slE := fun x => match x with
    | (.inl a0) => [(4, (.v (.b a0)))]
    | (.inr (a0, a1, a2, a3)) => [(0, (.v (.sl 37 a0))), (1, (.v (.sl 9 a1))), (6, (.v (.s a2))), (7, (.v (.i .i64 a3)))]
  obE := fun x => match x with
    | (.inl a0) => []
    | (.inr (a0, a1, a2, a3)) => []
  dsE := fun x => match x with
    | (.inl a0) => []
    | (.inr (a0, a1, a2, a3)) => []
  goE := fun _ x k => match x with
    | (.inl a0) => k .ret [(4, (.v (.b a0)))] [] []
    | (.inr (a0, a1, a2, a3)) => k .normal [(0, (.v (.sl 37 a0))), (1, (.v (.sl 9 a1))), (6, (.v (.s a2))), (7, (.v (.i .i64 a3)))] [] []
theorem p_tollbarlaw05_LexBetween_25_ok : PieceOk p_tollbarlaw05_LexBetween_25 := by
  refine ⟨fun env H ds s h => ?_, fun x env H ds e h => ?_, fun R e k => by rcases e with e | e <;> kernel_rfl⟩
  · simp only [p_tollbarlaw05_LexBetween_25] at h ⊢; split at h <;> first | (cases h; simp only [List.forall_mem_cons]; simp_all; done) | (cases h; done)
  · simp only [p_tollbarlaw05_LexBetween_25] at h ⊢; split at h <;> first | (cases h; simp only [List.forall_mem_cons]; simp_all; done) | (cases h; done)
theorem p_tollbarlaw05_LexBetween_25_ct (κ : Nat) (m : Int) : CutOk Tryd.prog C (G m) Tryd.f5.ntmps 0 (pieceOf (.cnd 107 30) (getBody Tryd.f5)) (p_tollbarlaw05_LexBetween_25.cut (gcN 0 [0, 1, 6, 7, 76, 107]) (fun (a0, a1, a2, a3, a4, a5) => tollbarlaw05_LexBetween.v25 κ a0 a1 a2 a3 a4 a5)) :=
  Piece.join p_tollbarlaw05_LexBetween_25_ok C_ok mixed (gam42_ok κ m) gcN_ok (xN_ok gcN_ok (ex_cons gcN_ok (ex_cons gcN_ok (ex_cons gcN_ok (ex_nil)))) gcN_ok gcN_ok) (cut := (ct_tollbarlaw05_LexBetween_20 κ)) (X := (xN (gcN 0 [0, 1, 6, 7]) [(4, (gcN 0 [0, 1, 6, 7])), (1, (gcN 0 [0, 1, 6, 7])), (0, (gcN 0 [0, 6]))] (gcN 0 [4]) (gcN 0 [1000000]))) (cuts_by (l := []) (by kernel_rfl) (all_nil)) (fun s => by kernel_rfl)
def cc_tollbarlaw05_LexBetween_26 (κ : Nat) : Cut T := p_tollbarlaw05_LexBetween_25.cut (gcN 0 [0, 1, 6, 7, 76, 107]) (fun (a0, a1, a2, a3, a4, a5) => tollbarlaw05_LexBetween.v25 κ a0 a1 a2 a3 a4 a5)
theorem cc_tollbarlaw05_LexBetween_26_ok (κ : Nat) (m : Int) : CutOk Tryd.prog C (G m) Tryd.f5.ntmps 0 (pieceOf (.cnd 107 30) (getBody Tryd.f5)) (cc_tollbarlaw05_LexBetween_26 κ) := p_tollbarlaw05_LexBetween_25_ct κ m
def ct_tollbarlaw05_LexBetween_26 (κ : Nat) : Key → Option (Cut T) := addCut (ct_tollbarlaw05_LexBetween_20 κ) (.cnd 107 30) (cc_tollbarlaw05_LexBetween_26 κ)
def p_tollbarlaw05_LexBetween_24 : Piece T ((List LexToken) × (List ByteArray) × ByteArray × Int × Int × Bool) ((Bool) ⊕ ((List LexToken) × (List ByteArray) × ByteArray × Int)) where
  dcS env H ds := match env 0, env 1, env 6, env 7, env 76, env 103, H, ds with
    | (.v (.sl 37 a0)), (.v (.sl 9 a1)), (.v (.s a2)), (.v (.i .i64 a3)), (.v (.i .i64 a4)), (.v (.b a5)), [], [] => some (a0, a1, a2, a3, a4, a5)
    | _, _, _, _, _, _, _, _ => none
  slS := fun (a0, a1, a2, a3, a4, a5) => [(0, (.v (.sl 37 a0))), (1, (.v (.sl 9 a1))), (6, (.v (.s a2))), (7, (.v (.i .i64 a3))), (76, (.v (.i .i64 a4))), (103, (.v (.b a5)))]
  obS := fun (a0, a1, a2, a3, a4, a5) => []
  dsS := fun (a0, a1, a2, a3, a4, a5) => []
  dcE x env H ds := match x, env 0, env 1, env 4, env 6, env 7, H, ds with
    | .ret, _, _, (.v (.b a0)), _, _, [], [] => some (.inl a0)
    | .normal, (.v (.sl 37 a0)), (.v (.sl 9 a1)), _, (.v (.s a2)), (.v (.i .i64 a3)), [], [] => some (.inr (a0, a1, a2, a3))
    | _, _, _, _, _, _, _, _ => none
  exE := fun x => match x with
    | (.inl a0) => .ret
    | (.inr (a0, a1, a2, a3)) => .normal
  slE := fun x => match x with
    | (.inl a0) => [(4, (.v (.b a0)))]
    | (.inr (a0, a1, a2, a3)) => [(0, (.v (.sl 37 a0))), (1, (.v (.sl 9 a1))), (6, (.v (.s a2))), (7, (.v (.i .i64 a3)))]
  obE := fun x => match x with
    | (.inl a0) => []
    | (.inr (a0, a1, a2, a3)) => []
  dsE := fun x => match x with
    | (.inl a0) => []
    | (.inr (a0, a1, a2, a3)) => []
  goE := fun _ x k => match x with
    | (.inl a0) => k .ret [(4, (.v (.b a0)))] [] []
    | (.inr (a0, a1, a2, a3)) => k .normal [(0, (.v (.sl 37 a0))), (1, (.v (.sl 9 a1))), (6, (.v (.s a2))), (7, (.v (.i .i64 a3)))] [] []
theorem p_tollbarlaw05_LexBetween_24_ok : PieceOk p_tollbarlaw05_LexBetween_24 := by
  refine ⟨fun env H ds s h => ?_, fun x env H ds e h => ?_, fun R e k => by rcases e with e | e <;> kernel_rfl⟩
  · simp only [p_tollbarlaw05_LexBetween_24] at h ⊢; split at h <;> first | (cases h; simp only [List.forall_mem_cons]; simp_all; done) | (cases h; done)
  · simp only [p_tollbarlaw05_LexBetween_24] at h ⊢; split at h <;> first | (cases h; simp only [List.forall_mem_cons]; simp_all; done) | (cases h; done)
theorem p_tollbarlaw05_LexBetween_24_ct (κ : Nat) (m : Int) : CutOk Tryd.prog C (G m) Tryd.f5.ntmps 0 (pieceOf (.cnd 103 28) (getBody Tryd.f5)) (p_tollbarlaw05_LexBetween_24.cut (gcN 0 [0, 1, 6, 7, 76, 103]) (fun (a0, a1, a2, a3, a4, a5) => tollbarlaw05_LexBetween.v24 κ a0 a1 a2 a3 a4 a5)) :=
  Piece.join p_tollbarlaw05_LexBetween_24_ok C_ok mixed (gam42_ok κ m) gcN_ok (xN_ok gcN_ok (ex_cons gcN_ok (ex_cons gcN_ok (ex_cons gcN_ok (ex_nil)))) gcN_ok gcN_ok) (cut := (ct_tollbarlaw05_LexBetween_26 κ)) (X := (xN (gcN 0 [0, 1, 6, 7]) [(4, (gcN 0 [0, 1, 6, 7])), (1, (gcN 0 [0, 1, 6, 7])), (0, (gcN 0 [0, 6]))] (gcN 0 [4]) (gcN 0 [1000000]))) (cuts_by (l := [(pieceOf (.cnd 107 30) (getBody Tryd.f5), cc_tollbarlaw05_LexBetween_26 κ)]) (by kernel_rfl) (all_cons (cc_tollbarlaw05_LexBetween_26_ok κ m) (all_nil))) (fun s => by kernel_rfl)
def cc_tollbarlaw05_LexBetween_27 (κ : Nat) : Cut T := p_tollbarlaw05_LexBetween_24.cut (gcN 0 [0, 1, 6, 7, 76, 103]) (fun (a0, a1, a2, a3, a4, a5) => tollbarlaw05_LexBetween.v24 κ a0 a1 a2 a3 a4 a5)
theorem cc_tollbarlaw05_LexBetween_27_ok (κ : Nat) (m : Int) : CutOk Tryd.prog C (G m) Tryd.f5.ntmps 0 (pieceOf (.cnd 103 28) (getBody Tryd.f5)) (cc_tollbarlaw05_LexBetween_27 κ) := p_tollbarlaw05_LexBetween_24_ct κ m
def ct_tollbarlaw05_LexBetween_27 (κ : Nat) : Key → Option (Cut T) := addCut (ct_tollbarlaw05_LexBetween_20 κ) (.cnd 103 28) (cc_tollbarlaw05_LexBetween_27 κ)
def p_tollbarlaw05_LexBetween_23 : Piece T ((List LexToken) × (List ByteArray) × ByteArray × Int × Int × Bool) ((Bool) ⊕ ((List LexToken) × (List ByteArray) × ByteArray × Int)) where
  dcS env H ds := match env 0, env 1, env 6, env 7, env 76, env 93, H, ds with
    | (.v (.sl 37 a0)), (.v (.sl 9 a1)), (.v (.s a2)), (.v (.i .i64 a3)), (.v (.i .i64 a4)), (.v (.b a5)), [], [] => some (a0, a1, a2, a3, a4, a5)
    | _, _, _, _, _, _, _, _ => none
  slS := fun (a0, a1, a2, a3, a4, a5) => [(0, (.v (.sl 37 a0))), (1, (.v (.sl 9 a1))), (6, (.v (.s a2))), (7, (.v (.i .i64 a3))), (76, (.v (.i .i64 a4))), (93, (.v (.b a5)))]
  obS := fun (a0, a1, a2, a3, a4, a5) => []
  dsS := fun (a0, a1, a2, a3, a4, a5) => []
  dcE x env H ds := match x, env 0, env 1, env 4, env 6, env 7, H, ds with
    | .ret, _, _, (.v (.b a0)), _, _, [], [] => some (.inl a0)
    | .normal, (.v (.sl 37 a0)), (.v (.sl 9 a1)), _, (.v (.s a2)), (.v (.i .i64 a3)), [], [] => some (.inr (a0, a1, a2, a3))
    | _, _, _, _, _, _, _, _ => none
  exE := fun x => match x with
    | (.inl a0) => .ret
    | (.inr (a0, a1, a2, a3)) => .normal
  slE := fun x => match x with
    | (.inl a0) => [(4, (.v (.b a0)))]
    | (.inr (a0, a1, a2, a3)) => [(0, (.v (.sl 37 a0))), (1, (.v (.sl 9 a1))), (6, (.v (.s a2))), (7, (.v (.i .i64 a3)))]
  obE := fun x => match x with
    | (.inl a0) => []
    | (.inr (a0, a1, a2, a3)) => []
  dsE := fun x => match x with
    | (.inl a0) => []
    | (.inr (a0, a1, a2, a3)) => []
  goE := fun _ x k => match x with
    | (.inl a0) => k .ret [(4, (.v (.b a0)))] [] []
    | (.inr (a0, a1, a2, a3)) => k .normal [(0, (.v (.sl 37 a0))), (1, (.v (.sl 9 a1))), (6, (.v (.s a2))), (7, (.v (.i .i64 a3)))] [] []
theorem p_tollbarlaw05_LexBetween_23_ok : PieceOk p_tollbarlaw05_LexBetween_23 := by
  refine ⟨fun env H ds s h => ?_, fun x env H ds e h => ?_, fun R e k => by rcases e with e | e <;> kernel_rfl⟩
  · simp only [p_tollbarlaw05_LexBetween_23] at h ⊢; split at h <;> first | (cases h; simp only [List.forall_mem_cons]; simp_all; done) | (cases h; done)
  · simp only [p_tollbarlaw05_LexBetween_23] at h ⊢; split at h <;> first | (cases h; simp only [List.forall_mem_cons]; simp_all; done) | (cases h; done)
theorem p_tollbarlaw05_LexBetween_23_ct (κ : Nat) (m : Int) : CutOk Tryd.prog C (G m) Tryd.f5.ntmps 0 (pieceOf (.cnd 93 26) (getBody Tryd.f5)) (p_tollbarlaw05_LexBetween_23.cut (gcN 0 [0, 1, 6, 7, 76, 93]) (fun (a0, a1, a2, a3, a4, a5) => tollbarlaw05_LexBetween.v23 κ a0 a1 a2 a3 a4 a5)) :=
  Piece.join p_tollbarlaw05_LexBetween_23_ok C_ok mixed (gam42_ok κ m) gcN_ok (xN_ok gcN_ok (ex_cons gcN_ok (ex_cons gcN_ok (ex_cons gcN_ok (ex_nil)))) gcN_ok gcN_ok) (cut := (ct_tollbarlaw05_LexBetween_27 κ)) (X := (xN (gcN 0 [0, 1, 6, 7]) [(4, (gcN 0 [0, 1, 6, 7])), (1, (gcN 0 [0, 1, 6, 7])), (0, (gcN 0 [0, 6]))] (gcN 0 [4]) (gcN 0 [1000000]))) (cuts_by (l := [(pieceOf (.cnd 103 28) (getBody Tryd.f5), cc_tollbarlaw05_LexBetween_27 κ)]) (by kernel_rfl) (all_cons (cc_tollbarlaw05_LexBetween_27_ok κ m) (all_nil))) (fun s => by kernel_rfl)
def cc_tollbarlaw05_LexBetween_28 (κ : Nat) : Cut T := p_tollbarlaw05_LexBetween_23.cut (gcN 0 [0, 1, 6, 7, 76, 93]) (fun (a0, a1, a2, a3, a4, a5) => tollbarlaw05_LexBetween.v23 κ a0 a1 a2 a3 a4 a5)
theorem cc_tollbarlaw05_LexBetween_28_ok (κ : Nat) (m : Int) : CutOk Tryd.prog C (G m) Tryd.f5.ntmps 0 (pieceOf (.cnd 93 26) (getBody Tryd.f5)) (cc_tollbarlaw05_LexBetween_28 κ) := p_tollbarlaw05_LexBetween_23_ct κ m
def ct_tollbarlaw05_LexBetween_28 (κ : Nat) : Key → Option (Cut T) := addCut (ct_tollbarlaw05_LexBetween_20 κ) (.cnd 93 26) (cc_tollbarlaw05_LexBetween_28 κ)
def p_tollbarlaw05_LexBetween_22 : Piece T ((List LexToken) × (List ByteArray) × ByteArray × Int × Int × Bool) ((Bool) ⊕ ((List LexToken) × (List ByteArray) × ByteArray × Int)) where
  dcS env H ds := match env 0, env 1, env 6, env 7, env 76, env 77, H, ds with
    | (.v (.sl 37 a0)), (.v (.sl 9 a1)), (.v (.s a2)), (.v (.i .i64 a3)), (.v (.i .i64 a4)), (.v (.b a5)), [], [] => some (a0, a1, a2, a3, a4, a5)
    | _, _, _, _, _, _, _, _ => none
  slS := fun (a0, a1, a2, a3, a4, a5) => [(0, (.v (.sl 37 a0))), (1, (.v (.sl 9 a1))), (6, (.v (.s a2))), (7, (.v (.i .i64 a3))), (76, (.v (.i .i64 a4))), (77, (.v (.b a5)))]
  obS := fun (a0, a1, a2, a3, a4, a5) => []
  dsS := fun (a0, a1, a2, a3, a4, a5) => []
  dcE x env H ds := match x, env 0, env 1, env 4, env 6, env 7, H, ds with
    | .ret, _, _, (.v (.b a0)), _, _, [], [] => some (.inl a0)
    | .normal, (.v (.sl 37 a0)), (.v (.sl 9 a1)), _, (.v (.s a2)), (.v (.i .i64 a3)), [], [] => some (.inr (a0, a1, a2, a3))
    | _, _, _, _, _, _, _, _ => none
  exE := fun x => match x with
    | (.inl a0) => .ret
    | (.inr (a0, a1, a2, a3)) => .normal
  slE := fun x => match x with
    | (.inl a0) => [(4, (.v (.b a0)))]
    | (.inr (a0, a1, a2, a3)) => [(0, (.v (.sl 37 a0))), (1, (.v (.sl 9 a1))), (6, (.v (.s a2))), (7, (.v (.i .i64 a3)))]
  obE := fun x => match x with
    | (.inl a0) => []
    | (.inr (a0, a1, a2, a3)) => []
  dsE := fun x => match x with
    | (.inl a0) => []
    | (.inr (a0, a1, a2, a3)) => []
  goE := fun _ x k => match x with
    | (.inl a0) => k .ret [(4, (.v (.b a0)))] [] []
    | (.inr (a0, a1, a2, a3)) => k .normal [(0, (.v (.sl 37 a0))), (1, (.v (.sl 9 a1))), (6, (.v (.s a2))), (7, (.v (.i .i64 a3)))] [] []
theorem p_tollbarlaw05_LexBetween_22_ok : PieceOk p_tollbarlaw05_LexBetween_22 := by
  refine ⟨fun env H ds s h => ?_, fun x env H ds e h => ?_, fun R e k => by rcases e with e | e <;> kernel_rfl⟩
  · simp only [p_tollbarlaw05_LexBetween_22] at h ⊢; split at h <;> first | (cases h; simp only [List.forall_mem_cons]; simp_all; done) | (cases h; done)
  · simp only [p_tollbarlaw05_LexBetween_22] at h ⊢; split at h <;> first | (cases h; simp only [List.forall_mem_cons]; simp_all; done) | (cases h; done)
theorem p_tollbarlaw05_LexBetween_22_ct (κ : Nat) (m : Int) : CutOk Tryd.prog C (G m) Tryd.f5.ntmps 0 (pieceOf (.cnd 77 22) (getBody Tryd.f5)) (p_tollbarlaw05_LexBetween_22.cut (gcN 0 [0, 1, 6, 7, 76, 77]) (fun (a0, a1, a2, a3, a4, a5) => tollbarlaw05_LexBetween.v22 κ a0 a1 a2 a3 a4 a5)) :=
  Piece.join p_tollbarlaw05_LexBetween_22_ok C_ok mixed (gam42_ok κ m) gcN_ok (xN_ok gcN_ok (ex_cons gcN_ok (ex_cons gcN_ok (ex_cons gcN_ok (ex_nil)))) gcN_ok gcN_ok) (cut := (ct_tollbarlaw05_LexBetween_28 κ)) (X := (xN (gcN 0 [0, 1, 6, 7]) [(4, (gcN 0 [0, 1, 6, 7])), (1, (gcN 0 [0, 1, 6, 7])), (0, (gcN 0 [0, 6]))] (gcN 0 [4]) (gcN 0 [1000000]))) (cuts_by (l := [(pieceOf (.cnd 93 26) (getBody Tryd.f5), cc_tollbarlaw05_LexBetween_28 κ)]) (by kernel_rfl) (all_cons (cc_tollbarlaw05_LexBetween_28_ok κ m) (all_nil))) (fun s => by kernel_rfl)
def cc_tollbarlaw05_LexBetween_29 (κ : Nat) : Cut T := p_tollbarlaw05_LexBetween_22.cut (gcN 0 [0, 1, 6, 7, 76, 77]) (fun (a0, a1, a2, a3, a4, a5) => tollbarlaw05_LexBetween.v22 κ a0 a1 a2 a3 a4 a5)
end Go.Proofs.YtfoeekaanngoiaaDoor.Ev.Seat
