import Derived.Test.YtooefkbecoopdaaDoorEvKnownOne
set_option linter.unusedVariables false
set_option linter.unusedSimpArgs false
namespace Go.Proofs.YtooefkbecoopdaaDoor.Ev.Seat
open Go Ev Go.Proofs
def p_tollbarref07_class_0 : Piece T (Int × Bool × (List Tollbarref07S)) (Int × (List Tollbarref07S)) where
  dcS env H ds := match env 0, env 3, env 9, H, ds with
    | (.v (.i .i64 a0)), (.own 0), (.v (.b a1)), [(.row 35 a2 true)], [] => some (a0, a1, a2)
    | _, _, _, _, _ => none
  slS := fun (a0, a1, a2) => [(0, (.v (.i .i64 a0))), (3, (.own 0)), (9, (.v (.b a1)))]
  obS := fun (a0, a1, a2) => [(.row 35 a2 true)]
  dsS := fun (a0, a1, a2) => []
  dcE x env H ds := match x, env 0, env 3, H, ds with
    | .normal, (.v (.i .i64 a0)), (.own 0), [(.row 35 a1 true)], [] => some (a0, a1)
    | _, _, _, _, _ => none
  exE := fun (a0, a1) => .normal
  slE := fun (a0, a1) => [(0, (.v (.i .i64 a0))), (3, (.own 0))]
  obE := fun (a0, a1) => [(.row 35 a1 true)]
  dsE := fun (a0, a1) => []
  goE := fun _ (a0, a1) k => k .normal [(0, (.v (.i .i64 a0))), (3, (.own 0))] [(.row 35 a1 true)] []
theorem p_tollbarref07_class_0_ok : PieceOk p_tollbarref07_class_0 := by
  refine ⟨fun env H ds s h => ?_, fun x env H ds e h => ?_, fun R e k => by kernel_rfl⟩
  · simp only [p_tollbarref07_class_0] at h ⊢; split at h <;> first | (cases h; simp only [List.forall_mem_cons]; simp_all; done) | (cases h; done)
  · simp only [p_tollbarref07_class_0] at h ⊢; split at h <;> first | (cases h; simp only [List.forall_mem_cons]; simp_all; done) | (cases h; done)
theorem p_tollbarref07_class_0_ct (κ : Nat) (m : Int) : CutOk Tryd.prog C (G m) Tryd.f33.ntmps 0 (pieceOf (.cnd 9 4) (getBody Tryd.f33)) (p_tollbarref07_class_0.cut (gcN 0 [0, 3, 9]) (fun (a0, a1, a2) => tollbarref07_class.v0 κ a0 a1 a2)) :=
  Piece.join p_tollbarref07_class_0_ok C_ok mixed (gam33_ok κ m) gcN_ok (xN_ok gcN_ok (ex_nil) gcN_ok gcN_ok) (cut := noCut) (X := (xN (gcN 0 [0, 3]) [] (gcN 0 [2]) (gcN 0 [1000000]))) (cuts_by (l := []) (by kernel_rfl) (all_nil)) (fun s => by kernel_rfl)
def cc_tollbarref07_class_1 (κ : Nat) : Cut T := p_tollbarref07_class_0.cut (gcN 0 [0, 3, 9]) (fun (a0, a1, a2) => tollbarref07_class.v0 κ a0 a1 a2)
theorem cc_tollbarref07_class_1_ok (κ : Nat) (m : Int) : CutOk Tryd.prog C (G m) Tryd.f33.ntmps 0 (pieceOf (.cnd 9 4) (getBody Tryd.f33)) (cc_tollbarref07_class_1 κ) := p_tollbarref07_class_0_ct κ m
def ct_tollbarref07_class_1 (κ : Nat) : Key → Option (Cut T) := addCut noCut (.cnd 9 4) (cc_tollbarref07_class_1 κ)
def p_tollbarref07_class_2 : Piece T (Bool × (List Tollbarref07S)) ((List Tollbarref07S)) where
  dcS env H ds := match env 3, env 19, H, ds with
    | (.own 0), (.v (.b a0)), [(.row 35 a1 true)], [] => some (a0, a1)
    | _, _, _, _ => none
  slS := fun (a0, a1) => [(3, (.own 0)), (19, (.v (.b a0)))]
  obS := fun (a0, a1) => [(.row 35 a1 true)]
  dsS := fun (a0, a1) => []
  dcE x env H ds := match x, env 3, H, ds with
    | .normal, (.own 0), [(.row 35 a0 true)], [] => some a0
    | _, _, _, _ => none
  exE := fun a0 => .normal
  slE := fun a0 => [(3, (.own 0))]
  obE := fun a0 => [(.row 35 a0 true)]
  dsE := fun a0 => []
  goE := fun _ a0 k => k .normal [(3, (.own 0))] [(.row 35 a0 true)] []
theorem p_tollbarref07_class_2_ok : PieceOk p_tollbarref07_class_2 := by
  refine ⟨fun env H ds s h => ?_, fun x env H ds e h => ?_, fun R e k => by kernel_rfl⟩
  · simp only [p_tollbarref07_class_2] at h ⊢; split at h <;> first | (cases h; simp only [List.forall_mem_cons]; simp_all; done) | (cases h; done)
  · simp only [p_tollbarref07_class_2] at h ⊢; split at h <;> first | (cases h; simp only [List.forall_mem_cons]; simp_all; done) | (cases h; done)
theorem p_tollbarref07_class_2_ct (κ : Nat) (m : Int) : CutOk Tryd.prog C (G m) Tryd.f33.ntmps 0 (pieceOf (.cnd 19 7) (getBody Tryd.f33)) (p_tollbarref07_class_2.cut (gcN 0 [3, 19]) (fun (a0, a1) => tollbarref07_class.v2 κ a0 a1)) :=
  Piece.join p_tollbarref07_class_2_ok C_ok mixed (gam33_ok κ m) gcN_ok (xN_ok gcN_ok (ex_nil) gcN_ok gcN_ok) (cut := (ct_tollbarref07_class_1 κ)) (X := (xN (gcN 0 [3]) [] (gcN 0 [2]) (gcN 0 [1000000]))) (cuts_by (l := []) (by kernel_rfl) (all_nil)) (fun s => by kernel_rfl)
def cc_tollbarref07_class_3 (κ : Nat) : Cut T := p_tollbarref07_class_2.cut (gcN 0 [3, 19]) (fun (a0, a1) => tollbarref07_class.v2 κ a0 a1)
theorem cc_tollbarref07_class_3_ok (κ : Nat) (m : Int) : CutOk Tryd.prog C (G m) Tryd.f33.ntmps 0 (pieceOf (.cnd 19 7) (getBody Tryd.f33)) (cc_tollbarref07_class_3 κ) := p_tollbarref07_class_2_ct κ m
def ct_tollbarref07_class_3 (κ : Nat) : Key → Option (Cut T) := addCut (ct_tollbarref07_class_1 κ) (.cnd 19 7) (cc_tollbarref07_class_3 κ)
def sp_tollbarref07_class : Spec T (Int) ((List Tollbarref07S)) where
  dcI a H := match a, H with
    | [(.v (.i .i64 a0))], [] => some a0
    | _, _ => none
  ecA := fun a0 => [(.v (.i .i64 a0))]
  ecH := fun a0 => []
  dcO o := match o with
    | .ret (.own 0) [(.row 35 a0 true)] => some a0
    | _ => none
  goO := fun _ a0 k => k (.ret (.own 0) [(.row 35 a0 true)])
  ecO := fun a0 => .ret (.own 0) [(.row 35 a0 true)]
theorem sp_tollbarref07_class_ok : SpecOk sp_tollbarref07_class := by
  refine ⟨fun a H i h => ?_, fun o x h => ?_, fun R e k => by kernel_rfl⟩
  · simp only [sp_tollbarref07_class] at h ⊢; split at h <;> first | (cases h; exact ⟨rfl, rfl⟩) | (cases h; done)
  · simp only [sp_tollbarref07_class] at h ⊢; split at h <;> first | (cases h; rfl) | (cases h; done)
theorem ok_tollbarref07_class (κ : Nat) (m : Int) : EOk Tryd.prog C (G m) 33 (sp_tollbarref07_class.entry (fun a0 => tollbarref07_class κ a0)) :=
  Spec.ok sp_tollbarref07_class_ok C_ok mixed (gam33_ok κ m) (cut := (ct_tollbarref07_class_3 κ)) (NR := (gcN 0 [0])) (NP := (gcN 0 [0])) (nB := 0) Tryd.func33 (c := (getBody Tryd.f33)) (by kernel_rfl) (by kernel_rfl) (fun i => by kernel_rfl) gcN_ok gcN_ok (cuts_by (l := [(pieceOf (.cnd 9 4) (getBody Tryd.f33), cc_tollbarref07_class_1 κ), (pieceOf (.cnd 19 7) (getBody Tryd.f33), cc_tollbarref07_class_3 κ)]) (by kernel_rfl) (all_cons (cc_tollbarref07_class_1_ok κ m) (all_cons (cc_tollbarref07_class_3_ok κ m) (all_nil)))) (fun i => by kernel_rfl)
noncomputable def gam34 (κ : Nat) : Gam T := (gam33 κ).addS 33 sp_tollbarref07_class (fun a0 => tollbarref07_class κ a0)
theorem gam34_ok (κ : Nat) (m : Int) : GOk Tryd.prog C (G m) (gam34 κ) := (gam33_ok κ m).addS (ok_tollbarref07_class κ m)
def p_tollbarref07_Root_0 : Piece T (Int × ByteArray × Int × Int × Int × Int × Bool × Int) (Int × Bool × ByteArray × Int × Int × Int × Int × Bool × Int) where
  dcS env H ds := match env 0, env 2, H, ds with
    | (.v (.i .i64 a0)), (.ptr 0 0), [(.cells 35 none [(.v (.s a1)), (.v (.i .i64 a2)), (.v (.i .i64 a3)), (.v (.i .u64 a4)), (.v (.i .u64 a5)), .cap0, (.v (.b a6)), (.v (.i .i64 a7)), .cap0])], [] => some (a0, a1, a2, a3, a4, a5, a6, a7)
    | _, _, _, _ => none
  slS := fun (a0, a1, a2, a3, a4, a5, a6, a7) => [(0, (.v (.i .i64 a0))), (2, (.ptr 0 0))]
  obS := fun (a0, a1, a2, a3, a4, a5, a6, a7) => [(.cells 35 none [(.v (.s a1)), (.v (.i .i64 a2)), (.v (.i .i64 a3)), (.v (.i .u64 a4)), (.v (.i .u64 a5)), .cap0, (.v (.b a6)), (.v (.i .i64 a7)), .cap0])]
  dsS := fun (a0, a1, a2, a3, a4, a5, a6, a7) => []
  dcE x env H ds := match x, env 0, env 2, env 12, H, ds with
    | .normal, (.v (.i .i64 a0)), (.ptr 0 0), (.v (.b a1)), [(.cells 35 none [(.v (.s a2)), (.v (.i .i64 a3)), (.v (.i .i64 a4)), (.v (.i .u64 a5)), (.v (.i .u64 a6)), .cap0, (.v (.b a7)), (.v (.i .i64 a8)), .cap0])], [] => some (a0, a1, a2, a3, a4, a5, a6, a7, a8)
    | _, _, _, _, _, _ => none
  exE := fun (a0, a1, a2, a3, a4, a5, a6, a7, a8) => .normal
  slE := fun (a0, a1, a2, a3, a4, a5, a6, a7, a8) => [(0, (.v (.i .i64 a0))), (2, (.ptr 0 0)), (12, (.v (.b a1)))]
  obE := fun (a0, a1, a2, a3, a4, a5, a6, a7, a8) => [(.cells 35 none [(.v (.s a2)), (.v (.i .i64 a3)), (.v (.i .i64 a4)), (.v (.i .u64 a5)), (.v (.i .u64 a6)), .cap0, (.v (.b a7)), (.v (.i .i64 a8)), .cap0])]
  dsE := fun (a0, a1, a2, a3, a4, a5, a6, a7, a8) => []
  goE := fun _ (a0, a1, a2, a3, a4, a5, a6, a7, a8) k => k .normal [(0, (.v (.i .i64 a0))), (2, (.ptr 0 0)), (12, (.v (.b a1)))] [(.cells 35 none [(.v (.s a2)), (.v (.i .i64 a3)), (.v (.i .i64 a4)), (.v (.i .u64 a5)), (.v (.i .u64 a6)), .cap0, (.v (.b a7)), (.v (.i .i64 a8)), .cap0])] []
theorem p_tollbarref07_Root_0_ok : PieceOk p_tollbarref07_Root_0 := by
  refine ⟨fun env H ds s h => ?_, fun x env H ds e h => ?_, fun R e k => by kernel_rfl⟩
  · simp only [p_tollbarref07_Root_0] at h ⊢; split at h <;> first | (cases h; simp only [List.forall_mem_cons]; simp_all; done) | (cases h; done)
  · simp only [p_tollbarref07_Root_0] at h ⊢; split at h <;> first | (cases h; simp only [List.forall_mem_cons]; simp_all; done) | (cases h; done)
theorem p_tollbarref07_Root_0_ct (κ : Nat) (m : Int) : CutOk Tryd.prog C (G m) Tryd.f21.ntmps 0 (pieceOf (.reg 1) (getBody Tryd.f21)) (p_tollbarref07_Root_0.cut (gcN 0 [0, 2]) (fun (a0, a1, a2, a3, a4, a5, a6, a7) => tollbarref07_Root.v0 κ a0 a1 a2 a3 a4 a5 a6 a7)) :=
  Piece.join p_tollbarref07_Root_0_ok C_ok mixed (gam32_ok κ m) gcN_ok (xN_ok gcN_ok (ex_nil) gcN_ok gcN_ok) (cut := noCut) (X := (xN (gcN 0 [0, 2, 12]) [] (gcN 0 [2, 3]) (gcN 0 [1000000]))) (cuts_by (l := []) (by kernel_rfl) (all_nil)) (fun s => by kernel_rfl)
def cc_tollbarref07_Root_1 (κ : Nat) : Cut T := p_tollbarref07_Root_0.cut (gcN 0 [0, 2]) (fun (a0, a1, a2, a3, a4, a5, a6, a7) => tollbarref07_Root.v0 κ a0 a1 a2 a3 a4 a5 a6 a7)
theorem cc_tollbarref07_Root_1_ok (κ : Nat) (m : Int) : CutOk Tryd.prog C (G m) Tryd.f21.ntmps 0 (pieceOf (.reg 1) (getBody Tryd.f21)) (cc_tollbarref07_Root_1 κ) := p_tollbarref07_Root_0_ct κ m
def ct_tollbarref07_Root_1 (κ : Nat) : Key → Option (Cut T) := addCut noCut (.reg 1) (cc_tollbarref07_Root_1 κ)
def p_tollbarref07_Root_2 : Piece T (Int × Bool × ByteArray × Int × Int × Int × Int × Bool × Int × (List Tollbarref07S)) (Int × ByteArray × Int × Int × Int × Int × Bool × Int × (List Tollbarref07S)) where
  dcS env H ds := match env 0, env 2, env 5, env 27, H, ds with
    | (.v (.i .i64 a0)), (.ptr 0 0), (.own 1), (.v (.b a1)), [(.cells 35 none [(.v (.s a2)), (.v (.i .i64 a3)), (.v (.i .i64 a4)), (.v (.i .u64 a5)), (.v (.i .u64 a6)), .cap0, (.v (.b a7)), (.v (.i .i64 a8)), .cap0]), (.row 35 a9 true)], [] => some (a0, a1, a2, a3, a4, a5, a6, a7, a8, a9)
    | _, _, _, _, _, _ => none
  slS := fun (a0, a1, a2, a3, a4, a5, a6, a7, a8, a9) => [(0, (.v (.i .i64 a0))), (2, (.ptr 0 0)), (5, (.own 1)), (27, (.v (.b a1)))]
  obS := fun (a0, a1, a2, a3, a4, a5, a6, a7, a8, a9) => [(.cells 35 none [(.v (.s a2)), (.v (.i .i64 a3)), (.v (.i .i64 a4)), (.v (.i .u64 a5)), (.v (.i .u64 a6)), .cap0, (.v (.b a7)), (.v (.i .i64 a8)), .cap0]), (.row 35 a9 true)]
  dsS := fun (a0, a1, a2, a3, a4, a5, a6, a7, a8, a9) => []
  dcE x env H ds := match x, env 0, env 2, env 5, H, ds with
    | .normal, (.v (.i .i64 a0)), (.ptr 0 0), (.own 1), [(.cells 35 none [(.v (.s a1)), (.v (.i .i64 a2)), (.v (.i .i64 a3)), (.v (.i .u64 a4)), (.v (.i .u64 a5)), .cap0, (.v (.b a6)), (.v (.i .i64 a7)), .cap0]), (.row 35 a8 true)], [] => some (a0, a1, a2, a3, a4, a5, a6, a7, a8)
    | _, _, _, _, _, _ => none
  exE := fun (a0, a1, a2, a3, a4, a5, a6, a7, a8) => .normal
  slE := fun (a0, a1, a2, a3, a4, a5, a6, a7, a8) => [(0, (.v (.i .i64 a0))), (2, (.ptr 0 0)), (5, (.own 1))]
  obE := fun (a0, a1, a2, a3, a4, a5, a6, a7, a8) => [(.cells 35 none [(.v (.s a1)), (.v (.i .i64 a2)), (.v (.i .i64 a3)), (.v (.i .u64 a4)), (.v (.i .u64 a5)), .cap0, (.v (.b a6)), (.v (.i .i64 a7)), .cap0]), (.row 35 a8 true)]
  dsE := fun (a0, a1, a2, a3, a4, a5, a6, a7, a8) => []
  goE := fun _ (a0, a1, a2, a3, a4, a5, a6, a7, a8) k => k .normal [(0, (.v (.i .i64 a0))), (2, (.ptr 0 0)), (5, (.own 1))] [(.cells 35 none [(.v (.s a1)), (.v (.i .i64 a2)), (.v (.i .i64 a3)), (.v (.i .u64 a4)), (.v (.i .u64 a5)), .cap0, (.v (.b a6)), (.v (.i .i64 a7)), .cap0]), (.row 35 a8 true)] []
theorem p_tollbarref07_Root_2_ok : PieceOk p_tollbarref07_Root_2 := by
  refine ⟨fun env H ds s h => ?_, fun x env H ds e h => ?_, fun R e k => by kernel_rfl⟩
  · simp only [p_tollbarref07_Root_2] at h ⊢; split at h <;> first | (cases h; simp only [List.forall_mem_cons]; simp_all; done) | (cases h; done)
  · simp only [p_tollbarref07_Root_2] at h ⊢; split at h <;> first | (cases h; simp only [List.forall_mem_cons]; simp_all; done) | (cases h; done)
theorem p_tollbarref07_Root_2_ct (κ : Nat) (m : Int) : CutOk Tryd.prog C (G m) Tryd.f21.ntmps 0 (pieceOf (.cnd 27 7) (getBody Tryd.f21)) (p_tollbarref07_Root_2.cut (gcN 0 [0, 2, 5, 27]) (fun (a0, a1, a2, a3, a4, a5, a6, a7, a8, a9) => tollbarref07_Root.v2 κ a0 a1 a2 a3 a4 a5 a6 a7 a8 a9)) :=
  Piece.join p_tollbarref07_Root_2_ok C_ok mixed (gam34_ok κ m) gcN_ok (xN_ok gcN_ok (ex_nil) gcN_ok gcN_ok) (cut := (ct_tollbarref07_Root_1 κ)) (X := (xN (gcN 0 [0, 2, 5]) [] (gcN 0 [2, 3]) (gcN 0 [1000000]))) (cuts_by (l := []) (by kernel_rfl) (all_nil)) (fun s => by kernel_rfl)
def cc_tollbarref07_Root_3 (κ : Nat) : Cut T := p_tollbarref07_Root_2.cut (gcN 0 [0, 2, 5, 27]) (fun (a0, a1, a2, a3, a4, a5, a6, a7, a8, a9) => tollbarref07_Root.v2 κ a0 a1 a2 a3 a4 a5 a6 a7 a8 a9)
theorem cc_tollbarref07_Root_3_ok (κ : Nat) (m : Int) : CutOk Tryd.prog C (G m) Tryd.f21.ntmps 0 (pieceOf (.cnd 27 7) (getBody Tryd.f21)) (cc_tollbarref07_Root_3 κ) := p_tollbarref07_Root_2_ct κ m
def ct_tollbarref07_Root_3 (κ : Nat) : Key → Option (Cut T) := addCut (ct_tollbarref07_Root_1 κ) (.cnd 27 7) (cc_tollbarref07_Root_3 κ)
def p_tollbarref07_Root_4 : Piece T (Bool × ByteArray × Int × Int × Int × Int × Bool × Int × (List Tollbarref07S)) (ByteArray × Int × Int × Int × Int × Bool × Int × (List Tollbarref07S)) where
  dcS env H ds := match env 2, env 6, env 38, H, ds with
    | (.ptr 0 0), (.own 1), (.v (.b a0)), [(.cells 35 none [(.v (.s a1)), (.v (.i .i64 a2)), (.v (.i .i64 a3)), (.v (.i .u64 a4)), (.v (.i .u64 a5)), .cap0, (.v (.b a6)), (.v (.i .i64 a7)), .cap0]), (.row 35 a8 true)], [] => some (a0, a1, a2, a3, a4, a5, a6, a7, a8)
    | _, _, _, _, _ => none
  slS := fun (a0, a1, a2, a3, a4, a5, a6, a7, a8) => [(2, (.ptr 0 0)), (6, (.own 1)), (38, (.v (.b a0)))]
  obS := fun (a0, a1, a2, a3, a4, a5, a6, a7, a8) => [(.cells 35 none [(.v (.s a1)), (.v (.i .i64 a2)), (.v (.i .i64 a3)), (.v (.i .u64 a4)), (.v (.i .u64 a5)), .cap0, (.v (.b a6)), (.v (.i .i64 a7)), .cap0]), (.row 35 a8 true)]
  dsS := fun (a0, a1, a2, a3, a4, a5, a6, a7, a8) => []
  dcE x env H ds := match x, env 2, env 6, H, ds with
    | .normal, (.ptr 0 0), (.own 1), [(.cells 35 none [(.v (.s a0)), (.v (.i .i64 a1)), (.v (.i .i64 a2)), (.v (.i .u64 a3)), (.v (.i .u64 a4)), .cap0, (.v (.b a5)), (.v (.i .i64 a6)), .cap0]), (.row 35 a7 true)], [] => some (a0, a1, a2, a3, a4, a5, a6, a7)
    | _, _, _, _, _ => none
  exE := fun (a0, a1, a2, a3, a4, a5, a6, a7) => .normal
  slE := fun (a0, a1, a2, a3, a4, a5, a6, a7) => [(2, (.ptr 0 0)), (6, (.own 1))]
  obE := fun (a0, a1, a2, a3, a4, a5, a6, a7) => [(.cells 35 none [(.v (.s a0)), (.v (.i .i64 a1)), (.v (.i .i64 a2)), (.v (.i .u64 a3)), (.v (.i .u64 a4)), .cap0, (.v (.b a5)), (.v (.i .i64 a6)), .cap0]), (.row 35 a7 true)]
  dsE := fun (a0, a1, a2, a3, a4, a5, a6, a7) => []
  goE := fun _ (a0, a1, a2, a3, a4, a5, a6, a7) k => k .normal [(2, (.ptr 0 0)), (6, (.own 1))] [(.cells 35 none [(.v (.s a0)), (.v (.i .i64 a1)), (.v (.i .i64 a2)), (.v (.i .u64 a3)), (.v (.i .u64 a4)), .cap0, (.v (.b a5)), (.v (.i .i64 a6)), .cap0]), (.row 35 a7 true)] []
theorem p_tollbarref07_Root_4_ok : PieceOk p_tollbarref07_Root_4 := by
  refine ⟨fun env H ds s h => ?_, fun x env H ds e h => ?_, fun R e k => by kernel_rfl⟩
  · simp only [p_tollbarref07_Root_4] at h ⊢; split at h <;> first | (cases h; simp only [List.forall_mem_cons]; simp_all; done) | (cases h; done)
  · simp only [p_tollbarref07_Root_4] at h ⊢; split at h <;> first | (cases h; simp only [List.forall_mem_cons]; simp_all; done) | (cases h; done)
theorem p_tollbarref07_Root_4_ct (κ : Nat) (m : Int) : CutOk Tryd.prog C (G m) Tryd.f21.ntmps 0 (pieceOf (.cnd 38 10) (getBody Tryd.f21)) (p_tollbarref07_Root_4.cut (gcN 0 [2, 6, 38]) (fun (a0, a1, a2, a3, a4, a5, a6, a7, a8) => tollbarref07_Root.v4 κ a0 a1 a2 a3 a4 a5 a6 a7 a8)) :=
  Piece.join p_tollbarref07_Root_4_ok C_ok mixed (gam34_ok κ m) gcN_ok (xN_ok gcN_ok (ex_nil) gcN_ok gcN_ok) (cut := (ct_tollbarref07_Root_3 κ)) (X := (xN (gcN 0 [2, 6]) [] (gcN 0 [2, 3]) (gcN 0 [1000000]))) (cuts_by (l := []) (by kernel_rfl) (all_nil)) (fun s => by kernel_rfl)
def cc_tollbarref07_Root_5 (κ : Nat) : Cut T := p_tollbarref07_Root_4.cut (gcN 0 [2, 6, 38]) (fun (a0, a1, a2, a3, a4, a5, a6, a7, a8) => tollbarref07_Root.v4 κ a0 a1 a2 a3 a4 a5 a6 a7 a8)
theorem cc_tollbarref07_Root_5_ok (κ : Nat) (m : Int) : CutOk Tryd.prog C (G m) Tryd.f21.ntmps 0 (pieceOf (.cnd 38 10) (getBody Tryd.f21)) (cc_tollbarref07_Root_5 κ) := p_tollbarref07_Root_4_ct κ m
def ct_tollbarref07_Root_5 (κ : Nat) : Key → Option (Cut T) := addCut (ct_tollbarref07_Root_3 κ) (.cnd 38 10) (cc_tollbarref07_Root_5 κ)
def sp_tollbarref07_Root : Spec T (Int) (ByteArray × Int × Int × Int × Int × Bool × Int × Int × (List Tollbarref07S)) where
  dcI a H := match a, H with
    | [(.v (.i .i64 a0))], [] => some a0
    | _, _ => none
  ecA := fun a0 => [(.v (.i .i64 a0))]
  ecH := fun a0 => []
  dcO o := match o with
    | .ret (.tup [(.agg [(.v (.s a0)), (.v (.i .i64 a1)), (.v (.i .i64 a2)), (.v (.i .u64 a3)), (.v (.i .u64 a4)), .cap0, (.v (.b a5)), (.v (.i .i64 a6)), (.own 0)]), (.v (.i .i64 a7))]) [(.row 35 a8 true)] => some (a0, a1, a2, a3, a4, a5, a6, a7, a8)
    | _ => none
  goO := fun _ (a0, a1, a2, a3, a4, a5, a6, a7, a8) k => k (.ret (.tup [(.agg [(.v (.s a0)), (.v (.i .i64 a1)), (.v (.i .i64 a2)), (.v (.i .u64 a3)), (.v (.i .u64 a4)), .cap0, (.v (.b a5)), (.v (.i .i64 a6)), (.own 0)]), (.v (.i .i64 a7))]) [(.row 35 a8 true)])
  ecO := fun (a0, a1, a2, a3, a4, a5, a6, a7, a8) => .ret (.tup [(.agg [(.v (.s a0)), (.v (.i .i64 a1)), (.v (.i .i64 a2)), (.v (.i .u64 a3)), (.v (.i .u64 a4)), .cap0, (.v (.b a5)), (.v (.i .i64 a6)), (.own 0)]), (.v (.i .i64 a7))]) [(.row 35 a8 true)]
theorem sp_tollbarref07_Root_ok : SpecOk sp_tollbarref07_Root := by
  refine ⟨fun a H i h => ?_, fun o x h => ?_, fun R e k => by kernel_rfl⟩
  · simp only [sp_tollbarref07_Root] at h ⊢; split at h <;> first | (cases h; exact ⟨rfl, rfl⟩) | (cases h; done)
  · simp only [sp_tollbarref07_Root] at h ⊢; split at h <;> first | (cases h; rfl) | (cases h; done)
theorem ok_tollbarref07_Root (κ : Nat) (m : Int) : EOk Tryd.prog C (G m) 21 (sp_tollbarref07_Root.entry (fun a0 => tollbarref07_Root κ a0)) :=
  Spec.ok sp_tollbarref07_Root_ok C_ok mixed (gam34_ok κ m) (cut := (ct_tollbarref07_Root_5 κ)) (NR := (andN (promS 0 [0, 8] 35) (gcN 0 [0]))) (NP := (gcN 0 [0])) (nB := 0) Tryd.func21 (c := (getBody Tryd.f21)) (by kernel_rfl) (by kernel_rfl) (fun i => by kernel_rfl) (andN_ok promS_ok gcN_ok) gcN_ok (cuts_by (l := [(pieceOf (.reg 1) (getBody Tryd.f21), cc_tollbarref07_Root_1 κ), (pieceOf (.cnd 27 7) (getBody Tryd.f21), cc_tollbarref07_Root_3 κ), (pieceOf (.cnd 38 10) (getBody Tryd.f21), cc_tollbarref07_Root_5 κ)]) (by kernel_rfl) (all_cons (cc_tollbarref07_Root_1_ok κ m) (all_cons (cc_tollbarref07_Root_3_ok κ m) (all_cons (cc_tollbarref07_Root_5_ok κ m) (all_nil))))) (fun i => by kernel_rfl)
noncomputable def gam35 (κ : Nat) : Gam T := (gam34 κ).addS 21 sp_tollbarref07_Root (fun a0 => tollbarref07_Root κ a0)
theorem gam35_ok (κ : Nat) (m : Int) : GOk Tryd.prog C (G m) (gam35 κ) := (gam34_ok κ m).addS (ok_tollbarref07_Root κ m)
def p_tollbarref07_Find_0 : Piece T (ByteArray × Int × ByteArray × Int × Int × Int × Int × Bool × Int × (List Tollbarref07S)) ((Unit) ⊕ (Int)) where
  dcS env H ds := match env 1, env 2, env 5, H, ds with
    | (.v (.s a0)), (.ptr 0 0), (.v (.i .i64 a1)), [(.cells 35 none [(.v (.s a2)), (.v (.i .i64 a3)), (.v (.i .i64 a4)), (.v (.i .u64 a5)), (.v (.i .u64 a6)), .cap0, (.v (.b a7)), (.v (.i .i64 a8)), (.v (.sl 35 a9))])], [] => some (a0, a1, a2, a3, a4, a5, a6, a7, a8, a9)
    | _, _, _, _, _ => none
  slS := fun (a0, a1, a2, a3, a4, a5, a6, a7, a8, a9) => [(1, (.v (.s a0))), (2, (.ptr 0 0)), (5, (.v (.i .i64 a1)))]
  obS := fun (a0, a1, a2, a3, a4, a5, a6, a7, a8, a9) => [(.cells 35 none [(.v (.s a2)), (.v (.i .i64 a3)), (.v (.i .i64 a4)), (.v (.i .u64 a5)), (.v (.i .u64 a6)), .cap0, (.v (.b a7)), (.v (.i .i64 a8)), (.v (.sl 35 a9))])]
  dsS := fun (a0, a1, a2, a3, a4, a5, a6, a7, a8, a9) => []
  dcE x env H ds := match x, env 4, H, ds with
    | .normal, _, [], [] => some (.inl ())
    | .ret, (.v (.i .i64 a0)), [], [] => some (.inr a0)
    | _, _, _, _ => none
  exE := fun x => match x with
    | (.inl _) => .normal
    | (.inr a0) => .ret
  slE := fun x => match x with
    | (.inl _) => []
    | (.inr a0) => [(4, (.v (.i .i64 a0)))]
  obE := fun x => match x with
    | (.inl _) => []
    | (.inr a0) => []
  dsE := fun x => match x with
    | (.inl _) => []
    | (.inr a0) => []
  goE := fun _ x k => match x with
    | (.inl _) => k .normal [] [] []
    | (.inr a0) => k .ret [(4, (.v (.i .i64 a0)))] [] []
theorem p_tollbarref07_Find_0_ok : PieceOk p_tollbarref07_Find_0 := by
  refine ⟨fun env H ds s h => ?_, fun x env H ds e h => ?_, fun R e k => by rcases e with e | e <;> kernel_rfl⟩
  · simp only [p_tollbarref07_Find_0] at h ⊢; split at h <;> first | (cases h; simp only [List.forall_mem_cons]; simp_all; done) | (cases h; done)
  · simp only [p_tollbarref07_Find_0] at h ⊢; split at h <;> first | (cases h; simp only [List.forall_mem_cons]; simp_all; done) | (cases h; done)
theorem p_tollbarref07_Find_0_ct (κ : Nat) (m : Int) : CutOk Tryd.prog C (G m) Tryd.f22.ntmps 0 (pieceOf (.blk 0) (getBody Tryd.f22)) (p_tollbarref07_Find_0.cut (gcN 0 [1, 2, 5]) (tollbarref07_Find.l0 κ κ)) :=
  Piece.loop p_tollbarref07_Find_0_ok C_ok mixed (gam35_ok κ m) gcN_ok (xN_ok gcN_ok (ex_nil) gcN_ok gcN_ok) (cut := noCut) (X := (xN (gcN 0 []) [] (gcN 0 [4]) (gcN 0 [1000000]))) (id := 0) (body := bodyOf (pieceOf (.blk 0) (getBody Tryd.f22))) (cuts_by (l := []) (by kernel_rfl) (all_nil)) (f := tollbarref07_Find.l0 κ) (fun s => by kernel_rfl) (fun k s => by kernel_rfl) κ
def cc_tollbarref07_Find_1 (κ : Nat) : Cut T := p_tollbarref07_Find_0.cut (gcN 0 [1, 2, 5]) (tollbarref07_Find.l0 κ κ)
theorem cc_tollbarref07_Find_1_ok (κ : Nat) (m : Int) : CutOk Tryd.prog C (G m) Tryd.f22.ntmps 0 (pieceOf (.blk 0) (getBody Tryd.f22)) (cc_tollbarref07_Find_1 κ) := p_tollbarref07_Find_0_ct κ m
def ct_tollbarref07_Find_1 (κ : Nat) : Key → Option (Cut T) := addCut noCut (.blk 0) (cc_tollbarref07_Find_1 κ)
def sp_tollbarref07_Find : Spec T (ByteArray × Int × Int × Int × Int × Bool × Int × (List Tollbarref07S) × ByteArray) (Int) where
  dcI a H := match a, H with
    | [(.agg [(.v (.s a0)), (.v (.i .i64 a1)), (.v (.i .i64 a2)), (.v (.i .u64 a3)), (.v (.i .u64 a4)), .cap0, (.v (.b a5)), (.v (.i .i64 a6)), (.v (.sl 35 a7))]), (.v (.s a8))], [] => some (a0, a1, a2, a3, a4, a5, a6, a7, a8)
    | _, _ => none
  ecA := fun (a0, a1, a2, a3, a4, a5, a6, a7, a8) => [(.agg [(.v (.s a0)), (.v (.i .i64 a1)), (.v (.i .i64 a2)), (.v (.i .u64 a3)), (.v (.i .u64 a4)), .cap0, (.v (.b a5)), (.v (.i .i64 a6)), (.v (.sl 35 a7))]), (.v (.s a8))]
  ecH := fun (a0, a1, a2, a3, a4, a5, a6, a7, a8) => []
  dcO o := match o with
    | .ret (.v (.i .i64 a0)) [] => some a0
    | _ => none
  goO := fun _ a0 k => k (.ret (.v (.i .i64 a0)) [])
  ecO := fun a0 => .ret (.v (.i .i64 a0)) []
theorem sp_tollbarref07_Find_ok : SpecOk sp_tollbarref07_Find := by
  refine ⟨fun a H i h => ?_, fun o x h => ?_, fun R e k => by kernel_rfl⟩
  · simp only [sp_tollbarref07_Find] at h ⊢; split at h <;> first | (cases h; exact ⟨rfl, rfl⟩) | (cases h; done)
  · simp only [sp_tollbarref07_Find] at h ⊢; split at h <;> first | (cases h; rfl) | (cases h; done)
theorem ok_tollbarref07_Find (κ : Nat) (m : Int) : EOk Tryd.prog C (G m) 22 (sp_tollbarref07_Find.entry (fun (a0, a1, a2, a3, a4, a5, a6, a7, a8) => tollbarref07_Find κ a0 a1 a2 a3 a4 a5 a6 a7 a8)) :=
  Spec.ok sp_tollbarref07_Find_ok C_ok mixed (gam35_ok κ m) (cut := (ct_tollbarref07_Find_1 κ)) (NR := (gcN 0 [0])) (NP := (gcN 0 [0])) (nB := 0) Tryd.func22 (c := (getBody Tryd.f22)) (by kernel_rfl) (by kernel_rfl) (fun i => by kernel_rfl) gcN_ok gcN_ok (cuts_by (l := [(pieceOf (.blk 0) (getBody Tryd.f22), cc_tollbarref07_Find_1 κ)]) (by kernel_rfl) (all_cons (cc_tollbarref07_Find_1_ok κ m) (all_nil))) (fun i => by kernel_rfl)
noncomputable def gam36 (κ : Nat) : Gam T := (gam35 κ).addS 22 sp_tollbarref07_Find (fun (a0, a1, a2, a3, a4, a5, a6, a7, a8) => tollbarref07_Find κ a0 a1 a2 a3 a4 a5 a6 a7 a8)
theorem gam36_ok (κ : Nat) (m : Int) : GOk Tryd.prog C (G m) (gam36 κ) := (gam35_ok κ m).addS (ok_tollbarref07_Find κ m)
def p_tollbarref06_Ident_5 : Piece T (ByteArray × Int) (ByteArray × Int × Bool) where
  dcS env H ds := match env 0, env 3, H, ds with
    | (.v (.s a0)), (.v (.i .i64 a1)), [], [] => some (a0, a1)
    | _, _, _, _ => none
  slS := fun (a0, a1) => [(0, (.v (.s a0))), (3, (.v (.i .i64 a1)))]
  obS := fun (a0, a1) => []
  dsS := fun (a0, a1) => []
  dcE x env H ds := match x, env 0, env 3, env 4, H, ds with
    | .normal, (.v (.s a0)), (.v (.i .i64 a1)), (.v (.b a2)), [], [] => some (a0, a1, a2)
    | _, _, _, _, _, _ => none
  exE := fun (a0, a1, a2) => .normal
  slE := fun (a0, a1, a2) => [(0, (.v (.s a0))), (3, (.v (.i .i64 a1))), (4, (.v (.b a2)))]
  obE := fun (a0, a1, a2) => []
  dsE := fun (a0, a1, a2) => []
  goE := fun _ (a0, a1, a2) k => k .normal [(0, (.v (.s a0))), (3, (.v (.i .i64 a1))), (4, (.v (.b a2)))] [] []
theorem p_tollbarref06_Ident_5_ok : PieceOk p_tollbarref06_Ident_5 := by
  refine ⟨fun env H ds s h => ?_, fun x env H ds e h => ?_, fun R e k => by kernel_rfl⟩
  · simp only [p_tollbarref06_Ident_5] at h ⊢; split at h <;> first | (cases h; simp only [List.forall_mem_cons]; simp_all; done) | (cases h; done)
  · simp only [p_tollbarref06_Ident_5] at h ⊢; split at h <;> first | (cases h; simp only [List.forall_mem_cons]; simp_all; done) | (cases h; done)
theorem p_tollbarref06_Ident_5_ct (κ : Nat) (m : Int) : CutOk Tryd.prog C (G m) Tryd.f23.ntmps 0 (pieceOf (.reg 4) (getBody Tryd.f23)) (p_tollbarref06_Ident_5.cut (gcN 0 [0, 3]) (fun (a0, a1) => tollbarref06_Ident.v5 κ a0 a1)) :=
  Piece.join p_tollbarref06_Ident_5_ok C_ok mixed (gam36_ok κ m) gcN_ok (xN_ok gcN_ok (ex_cons gcN_ok (ex_cons gcN_ok (ex_nil))) gcN_ok gcN_ok) (cut := noCut) (X := (xN (gcN 0 [0, 3, 4]) [(1, (gcN 0 [0, 3])), (0, (gcN 0 [0]))] (gcN 0 [2]) (gcN 0 [1000000]))) (cuts_by (l := []) (by kernel_rfl) (all_nil)) (fun s => by kernel_rfl)
def cc_tollbarref06_Ident_6 (κ : Nat) : Cut T := p_tollbarref06_Ident_5.cut (gcN 0 [0, 3]) (fun (a0, a1) => tollbarref06_Ident.v5 κ a0 a1)
theorem cc_tollbarref06_Ident_6_ok (κ : Nat) (m : Int) : CutOk Tryd.prog C (G m) Tryd.f23.ntmps 0 (pieceOf (.reg 4) (getBody Tryd.f23)) (cc_tollbarref06_Ident_6 κ) := p_tollbarref06_Ident_5_ct κ m
def ct_tollbarref06_Ident_6 (κ : Nat) : Key → Option (Cut T) := addCut noCut (.reg 4) (cc_tollbarref06_Ident_6 κ)
def p_tollbarref06_Ident_7 : Piece T (ByteArray × Int × Bool) (ByteArray × Int × Bool) where
  dcS env H ds := match env 0, env 3, env 4, H, ds with
    | (.v (.s a0)), (.v (.i .i64 a1)), (.v (.b a2)), [], [] => some (a0, a1, a2)
    | _, _, _, _, _ => none
  slS := fun (a0, a1, a2) => [(0, (.v (.s a0))), (3, (.v (.i .i64 a1))), (4, (.v (.b a2)))]
  obS := fun (a0, a1, a2) => []
  dsS := fun (a0, a1, a2) => []
  dcE x env H ds := match x, env 0, env 3, env 44, H, ds with
    | .normal, (.v (.s a0)), (.v (.i .i64 a1)), (.v (.b a2)), [], [] => some (a0, a1, a2)
    | _, _, _, _, _, _ => none
  exE := fun (a0, a1, a2) => .normal
  slE := fun (a0, a1, a2) => [(0, (.v (.s a0))), (3, (.v (.i .i64 a1))), (44, (.v (.b a2)))]
  obE := fun (a0, a1, a2) => []
  dsE := fun (a0, a1, a2) => []
  goE := fun _ (a0, a1, a2) k => k .normal [(0, (.v (.s a0))), (3, (.v (.i .i64 a1))), (44, (.v (.b a2)))] [] []
theorem p_tollbarref06_Ident_7_ok : PieceOk p_tollbarref06_Ident_7 := by
  refine ⟨fun env H ds s h => ?_, fun x env H ds e h => ?_, fun R e k => by kernel_rfl⟩
  · simp only [p_tollbarref06_Ident_7] at h ⊢; split at h <;> first | (cases h; simp only [List.forall_mem_cons]; simp_all; done) | (cases h; done)
  · simp only [p_tollbarref06_Ident_7] at h ⊢; split at h <;> first | (cases h; simp only [List.forall_mem_cons]; simp_all; done) | (cases h; done)
theorem p_tollbarref06_Ident_7_ct (κ : Nat) (m : Int) : CutOk Tryd.prog C (G m) Tryd.f23.ntmps 0 (pieceOf (.reg 5) (getBody Tryd.f23)) (p_tollbarref06_Ident_7.cut (gcN 0 [0, 3, 4]) (fun (a0, a1, a2) => tollbarref06_Ident.v7 κ a0 a1 a2)) :=
  Piece.join p_tollbarref06_Ident_7_ok C_ok mixed (gam36_ok κ m) gcN_ok (xN_ok gcN_ok (ex_cons gcN_ok (ex_cons gcN_ok (ex_nil))) gcN_ok gcN_ok) (cut := (ct_tollbarref06_Ident_6 κ)) (X := (xN (gcN 0 [0, 3, 44]) [(1, (gcN 0 [0, 3])), (0, (gcN 0 [0]))] (gcN 0 [2]) (gcN 0 [1000000]))) (cuts_by (l := []) (by kernel_rfl) (all_nil)) (fun s => by kernel_rfl)
def cc_tollbarref06_Ident_8 (κ : Nat) : Cut T := p_tollbarref06_Ident_7.cut (gcN 0 [0, 3, 4]) (fun (a0, a1, a2) => tollbarref06_Ident.v7 κ a0 a1 a2)
theorem cc_tollbarref06_Ident_8_ok (κ : Nat) (m : Int) : CutOk Tryd.prog C (G m) Tryd.f23.ntmps 0 (pieceOf (.reg 5) (getBody Tryd.f23)) (cc_tollbarref06_Ident_8 κ) := p_tollbarref06_Ident_7_ct κ m
def ct_tollbarref06_Ident_8 (κ : Nat) : Key → Option (Cut T) := addCut (ct_tollbarref06_Ident_6 κ) (.reg 5) (cc_tollbarref06_Ident_8 κ)
def p_tollbarref06_Ident_4 : Piece T (ByteArray × Int) ((ByteArray) ⊕ (Bool)) where
  dcS env H ds := match env 0, env 3, H, ds with
    | (.v (.s a0)), (.v (.i .i64 a1)), [], [] => some (a0, a1)
    | _, _, _, _ => none
  slS := fun (a0, a1) => [(0, (.v (.s a0))), (3, (.v (.i .i64 a1)))]
  obS := fun (a0, a1) => []
  dsS := fun (a0, a1) => []
  dcE x env H ds := match x, env 0, env 2, H, ds with
    | .normal, (.v (.s a0)), _, [], [] => some (.inl a0)
    | .ret, _, (.v (.b a0)), [], [] => some (.inr a0)
    | _, _, _, _, _ => none
  exE := fun x => match x with
    | (.inl a0) => .normal
    | (.inr a0) => .ret
  slE := fun x => match x with
    | (.inl a0) => [(0, (.v (.s a0)))]
    | (.inr a0) => [(2, (.v (.b a0)))]
  obE := fun x => match x with
    | (.inl a0) => []
    | (.inr a0) => []
  dsE := fun x => match x with
    | (.inl a0) => []
    | (.inr a0) => []
  goE := fun _ x k => match x with
    | (.inl a0) => k .normal [(0, (.v (.s a0)))] [] []
    | (.inr a0) => k .ret [(2, (.v (.b a0)))] [] []
theorem p_tollbarref06_Ident_4_ok : PieceOk p_tollbarref06_Ident_4 := by
  refine ⟨fun env H ds s h => ?_, fun x env H ds e h => ?_, fun R e k => by rcases e with e | e <;> kernel_rfl⟩
  · simp only [p_tollbarref06_Ident_4] at h ⊢; split at h <;> first | (cases h; simp only [List.forall_mem_cons]; simp_all; done) | (cases h; done)
  · simp only [p_tollbarref06_Ident_4] at h ⊢; split at h <;> first | (cases h; simp only [List.forall_mem_cons]; simp_all; done) | (cases h; done)
theorem p_tollbarref06_Ident_4_ct (κ : Nat) (m : Int) : CutOk Tryd.prog C (G m) Tryd.f23.ntmps 0 (pieceOf (.blk 0) (getBody Tryd.f23)) (p_tollbarref06_Ident_4.cut (gcN 0 [0, 3]) (tollbarref06_Ident.l4 κ κ)) :=
  Piece.loop p_tollbarref06_Ident_4_ok C_ok mixed (gam36_ok κ m) gcN_ok (xN_ok gcN_ok (ex_nil) gcN_ok gcN_ok) (cut := (ct_tollbarref06_Ident_8 κ)) (X := (xN (gcN 0 [0]) [] (gcN 0 [2]) (gcN 0 [1000000]))) (id := 0) (body := bodyOf (pieceOf (.blk 0) (getBody Tryd.f23))) (cuts_by (l := [(pieceOf (.reg 4) (getBody Tryd.f23), cc_tollbarref06_Ident_6 κ), (pieceOf (.reg 5) (getBody Tryd.f23), cc_tollbarref06_Ident_8 κ)]) (by kernel_rfl) (all_cons (cc_tollbarref06_Ident_6_ok κ m) (all_cons (cc_tollbarref06_Ident_8_ok κ m) (all_nil)))) (f := tollbarref06_Ident.l4 κ) (fun s => by kernel_rfl) (fun k s => by kernel_rfl) κ
def cc_tollbarref06_Ident_9 (κ : Nat) : Cut T := p_tollbarref06_Ident_4.cut (gcN 0 [0, 3]) (tollbarref06_Ident.l4 κ κ)
theorem cc_tollbarref06_Ident_9_ok (κ : Nat) (m : Int) : CutOk Tryd.prog C (G m) Tryd.f23.ntmps 0 (pieceOf (.blk 0) (getBody Tryd.f23)) (cc_tollbarref06_Ident_9 κ) := p_tollbarref06_Ident_4_ct κ m
def ct_tollbarref06_Ident_9 (κ : Nat) : Key → Option (Cut T) := addCut noCut (.blk 0) (cc_tollbarref06_Ident_9 κ)
def p_tollbarref06_Ident_10 : Piece T (ByteArray) (Bool) where
  dcS env H ds := match env 0, H, ds with
    | (.v (.s a0)), [], [] => some a0
    | _, _, _ => none
  slS := fun a0 => [(0, (.v (.s a0)))]
  obS := fun a0 => []
  dsS := fun a0 => []
  dcE x env H ds := match x, env 2, H, ds with
    | .normal, (.v (.b a0)), [], [] => some a0
    | _, _, _, _ => none
  exE := fun a0 => .normal
  slE := fun a0 => [(2, (.v (.b a0)))]
  obE := fun a0 => []
  dsE := fun a0 => []
  goE := fun _ a0 k => k .normal [(2, (.v (.b a0)))] [] []
theorem p_tollbarref06_Ident_10_ok : PieceOk p_tollbarref06_Ident_10 := by
  refine ⟨fun env H ds s h => ?_, fun x env H ds e h => ?_, fun R e k => by kernel_rfl⟩
  · simp only [p_tollbarref06_Ident_10] at h ⊢; split at h <;> first | (cases h; simp only [List.forall_mem_cons]; simp_all; done) | (cases h; done)
  · simp only [p_tollbarref06_Ident_10] at h ⊢; split at h <;> first | (cases h; simp only [List.forall_mem_cons]; simp_all; done) | (cases h; done)
theorem p_tollbarref06_Ident_10_ct (κ : Nat) (m : Int) : CutOk Tryd.prog C (G m) Tryd.f23.ntmps 0 (pieceOf (.reg 7) (getBody Tryd.f23)) (p_tollbarref06_Ident_10.cut (gcN 0 [0]) (fun a0 => tollbarref06_Ident.v10 κ a0)) :=
  Piece.join p_tollbarref06_Ident_10_ok C_ok mixed (gam36_ok κ m) gcN_ok (xN_ok gcN_ok (ex_nil) gcN_ok gcN_ok) (cut := (ct_tollbarref06_Ident_9 κ)) (X := (xN (gcN 0 [2]) [] (gcN 0 [2]) (gcN 0 [1000000]))) (cuts_by (l := []) (by kernel_rfl) (all_nil)) (fun s => by kernel_rfl)
def cc_tollbarref06_Ident_11 (κ : Nat) : Cut T := p_tollbarref06_Ident_10.cut (gcN 0 [0]) (fun a0 => tollbarref06_Ident.v10 κ a0)
theorem cc_tollbarref06_Ident_11_ok (κ : Nat) (m : Int) : CutOk Tryd.prog C (G m) Tryd.f23.ntmps 0 (pieceOf (.reg 7) (getBody Tryd.f23)) (cc_tollbarref06_Ident_11 κ) := p_tollbarref06_Ident_10_ct κ m
def ct_tollbarref06_Ident_11 (κ : Nat) : Key → Option (Cut T) := addCut (ct_tollbarref06_Ident_9 κ) (.reg 7) (cc_tollbarref06_Ident_11 κ)
def sp_tollbarref06_Ident : Spec T (ByteArray) (Bool) where
  dcI a H := match a, H with
    | [(.v (.s a0))], [] => some a0
    | _, _ => none
  ecA := fun a0 => [(.v (.s a0))]
  ecH := fun a0 => []
  dcO o := match o with
    | .ret (.v (.b a0)) [] => some a0
    | _ => none
  goO := fun _ a0 k => k (.ret (.v (.b a0)) [])
  ecO := fun a0 => .ret (.v (.b a0)) []
theorem sp_tollbarref06_Ident_ok : SpecOk sp_tollbarref06_Ident := by
  refine ⟨fun a H i h => ?_, fun o x h => ?_, fun R e k => by kernel_rfl⟩
  · simp only [sp_tollbarref06_Ident] at h ⊢; split at h <;> first | (cases h; exact ⟨rfl, rfl⟩) | (cases h; done)
  · simp only [sp_tollbarref06_Ident] at h ⊢; split at h <;> first | (cases h; rfl) | (cases h; done)
theorem ok_tollbarref06_Ident (κ : Nat) (m : Int) : EOk Tryd.prog C (G m) 23 (sp_tollbarref06_Ident.entry (fun a0 => tollbarref06_Ident κ a0)) :=
  Spec.ok sp_tollbarref06_Ident_ok C_ok mixed (gam36_ok κ m) (cut := (ct_tollbarref06_Ident_11 κ)) (NR := (gcN 0 [0])) (NP := (gcN 0 [0])) (nB := 0) Tryd.func23 (c := (getBody Tryd.f23)) (by kernel_rfl) (by kernel_rfl) (fun i => by kernel_rfl) gcN_ok gcN_ok (cuts_by (l := [(pieceOf (.blk 0) (getBody Tryd.f23), cc_tollbarref06_Ident_9 κ), (pieceOf (.reg 7) (getBody Tryd.f23), cc_tollbarref06_Ident_11 κ)]) (by kernel_rfl) (all_cons (cc_tollbarref06_Ident_9_ok κ m) (all_cons (cc_tollbarref06_Ident_11_ok κ m) (all_nil)))) (fun i => by kernel_rfl)
noncomputable def gam37 (κ : Nat) : Gam T := (gam36 κ).addS 23 sp_tollbarref06_Ident (fun a0 => tollbarref06_Ident κ a0)
theorem gam37_ok (κ : Nat) (m : Int) : GOk Tryd.prog C (G m) (gam37 κ) := (gam36_ok κ m).addS (ok_tollbarref06_Ident κ m)
def p_tollbarref07_Find_2_0 : Piece T (ByteArray × Int × ByteArray × Int × Int × Int × Int × (List ByteArray) × Bool × Int × (List Tollbarref07S)) ((Unit) ⊕ (Int)) where
  dcS env H ds := match env 1, env 2, env 5, H, ds with
    | (.v (.s a0)), (.ptr 0 0), (.v (.i .i64 a1)), [(.cells 35 none [(.v (.s a2)), (.v (.i .i64 a3)), (.v (.i .i64 a4)), (.v (.i .u64 a5)), (.v (.i .u64 a6)), (.v (.sl 9 a7)), (.v (.b a8)), (.v (.i .i64 a9)), (.v (.sl 35 a10))])], [] => some (a0, a1, a2, a3, a4, a5, a6, a7, a8, a9, a10)
    | _, _, _, _, _ => none
  slS := fun (a0, a1, a2, a3, a4, a5, a6, a7, a8, a9, a10) => [(1, (.v (.s a0))), (2, (.ptr 0 0)), (5, (.v (.i .i64 a1)))]
  obS := fun (a0, a1, a2, a3, a4, a5, a6, a7, a8, a9, a10) => [(.cells 35 none [(.v (.s a2)), (.v (.i .i64 a3)), (.v (.i .i64 a4)), (.v (.i .u64 a5)), (.v (.i .u64 a6)), (.v (.sl 9 a7)), (.v (.b a8)), (.v (.i .i64 a9)), (.v (.sl 35 a10))])]
  dsS := fun (a0, a1, a2, a3, a4, a5, a6, a7, a8, a9, a10) => []
  dcE x env H ds := match x, env 4, H, ds with
    | .normal, _, [], [] => some (.inl ())
    | .ret, (.v (.i .i64 a0)), [], [] => some (.inr a0)
    | _, _, _, _ => none
  exE := fun x => match x with
    | (.inl _) => .normal
    | (.inr a0) => .ret
  slE := fun x => match x with
    | (.inl _) => []
    | (.inr a0) => [(4, (.v (.i .i64 a0)))]
  obE := fun x => match x with
    | (.inl _) => []
    | (.inr a0) => []
  dsE := fun x => match x with
    | (.inl _) => []
    | (.inr a0) => []
  goE := fun _ x k => match x with
    | (.inl _) => k .normal [] [] []
    | (.inr a0) => k .ret [(4, (.v (.i .i64 a0)))] [] []
theorem p_tollbarref07_Find_2_0_ok : PieceOk p_tollbarref07_Find_2_0 := by
  refine ⟨fun env H ds s h => ?_, fun x env H ds e h => ?_, fun R e k => by rcases e with e | e <;> kernel_rfl⟩
  · simp only [p_tollbarref07_Find_2_0] at h ⊢; split at h <;> first | (cases h; simp only [List.forall_mem_cons]; simp_all; done) | (cases h; done)
  · simp only [p_tollbarref07_Find_2_0] at h ⊢; split at h <;> first | (cases h; simp only [List.forall_mem_cons]; simp_all; done) | (cases h; done)
theorem p_tollbarref07_Find_2_0_ct (κ : Nat) (m : Int) : CutOk Tryd.prog C (G m) Tryd.f22.ntmps 0 (pieceOf (.blk 0) (getBody Tryd.f22)) (p_tollbarref07_Find_2_0.cut (gcN 0 [1, 2, 5]) (tollbarref07_Find_2.l0 κ κ)) :=
  Piece.loop p_tollbarref07_Find_2_0_ok C_ok mixed (gam37_ok κ m) gcN_ok (xN_ok gcN_ok (ex_nil) gcN_ok gcN_ok) (cut := noCut) (X := (xN (gcN 0 []) [] (gcN 0 [4]) (gcN 0 [1000000]))) (id := 0) (body := bodyOf (pieceOf (.blk 0) (getBody Tryd.f22))) (cuts_by (l := []) (by kernel_rfl) (all_nil)) (f := tollbarref07_Find_2.l0 κ) (fun s => by kernel_rfl) (fun k s => by kernel_rfl) κ
def cc_tollbarref07_Find_2_1 (κ : Nat) : Cut T := p_tollbarref07_Find_2_0.cut (gcN 0 [1, 2, 5]) (tollbarref07_Find_2.l0 κ κ)
theorem cc_tollbarref07_Find_2_1_ok (κ : Nat) (m : Int) : CutOk Tryd.prog C (G m) Tryd.f22.ntmps 0 (pieceOf (.blk 0) (getBody Tryd.f22)) (cc_tollbarref07_Find_2_1 κ) := p_tollbarref07_Find_2_0_ct κ m
def ct_tollbarref07_Find_2_1 (κ : Nat) : Key → Option (Cut T) := addCut noCut (.blk 0) (cc_tollbarref07_Find_2_1 κ)
def sp_tollbarref07_Find_2 : Spec T (ByteArray × Int × Int × Int × Int × (List ByteArray) × Bool × Int × (List Tollbarref07S) × ByteArray) (Int) where
  dcI a H := match a, H with
    | [(.agg [(.v (.s a0)), (.v (.i .i64 a1)), (.v (.i .i64 a2)), (.v (.i .u64 a3)), (.v (.i .u64 a4)), (.v (.sl 9 a5)), (.v (.b a6)), (.v (.i .i64 a7)), (.v (.sl 35 a8))]), (.v (.s a9))], [] => some (a0, a1, a2, a3, a4, a5, a6, a7, a8, a9)
    | _, _ => none
  ecA := fun (a0, a1, a2, a3, a4, a5, a6, a7, a8, a9) => [(.agg [(.v (.s a0)), (.v (.i .i64 a1)), (.v (.i .i64 a2)), (.v (.i .u64 a3)), (.v (.i .u64 a4)), (.v (.sl 9 a5)), (.v (.b a6)), (.v (.i .i64 a7)), (.v (.sl 35 a8))]), (.v (.s a9))]
  ecH := fun (a0, a1, a2, a3, a4, a5, a6, a7, a8, a9) => []
  dcO o := match o with
    | .ret (.v (.i .i64 a0)) [] => some a0
    | _ => none
  goO := fun _ a0 k => k (.ret (.v (.i .i64 a0)) [])
  ecO := fun a0 => .ret (.v (.i .i64 a0)) []
theorem sp_tollbarref07_Find_2_ok : SpecOk sp_tollbarref07_Find_2 := by
  refine ⟨fun a H i h => ?_, fun o x h => ?_, fun R e k => by kernel_rfl⟩
  · simp only [sp_tollbarref07_Find_2] at h ⊢; split at h <;> first | (cases h; exact ⟨rfl, rfl⟩) | (cases h; done)
  · simp only [sp_tollbarref07_Find_2] at h ⊢; split at h <;> first | (cases h; rfl) | (cases h; done)
theorem ok_tollbarref07_Find_2 (κ : Nat) (m : Int) : EOk Tryd.prog C (G m) 22 (sp_tollbarref07_Find_2.entry (fun (a0, a1, a2, a3, a4, a5, a6, a7, a8, a9) => tollbarref07_Find_2 κ a0 a1 a2 a3 a4 a5 a6 a7 a8 a9)) :=
  Spec.ok sp_tollbarref07_Find_2_ok C_ok mixed (gam37_ok κ m) (cut := (ct_tollbarref07_Find_2_1 κ)) (NR := (gcN 0 [0])) (NP := (gcN 0 [0])) (nB := 0) Tryd.func22 (c := (getBody Tryd.f22)) (by kernel_rfl) (by kernel_rfl) (fun i => by kernel_rfl) gcN_ok gcN_ok (cuts_by (l := [(pieceOf (.blk 0) (getBody Tryd.f22), cc_tollbarref07_Find_2_1 κ)]) (by kernel_rfl) (all_cons (cc_tollbarref07_Find_2_1_ok κ m) (all_nil))) (fun i => by kernel_rfl)
noncomputable def gam38 (κ : Nat) : Gam T := (gam37 κ).addS 22 sp_tollbarref07_Find_2 (fun (a0, a1, a2, a3, a4, a5, a6, a7, a8, a9) => tollbarref07_Find_2 κ a0 a1 a2 a3 a4 a5 a6 a7 a8 a9)
theorem gam38_ok (κ : Nat) (m : Int) : GOk Tryd.prog C (G m) (gam38 κ) := (gam37_ok κ m).addS (ok_tollbarref07_Find_2 κ m)
def p_tollbarref15_At_9 : Piece T ((List ApiStep) × Int × Int × ByteArray × Int × Int × Int × Int × Bool × Int × ByteArray × Int × Int × Int × Int × (List ByteArray) × Bool × Int × (List Tollbarref07S)) ((List ApiStep) × Int × Int × Bool × ByteArray × Int × Int × Int × Int × Bool × Int × ByteArray × Int × Int × Int × Int × (List ByteArray) × Bool × Int × (List Tollbarref07S)) where
  dcS env H ds := match env 1, env 4, env 6, env 7, env 8, H, ds with
    | (.v (.sl 46 a0)), (.ptr 0 0), (.ptr 1 0), (.v (.i .i64 a1)), (.v (.i .i64 a2)), [(.cells 35 none [(.v (.s a3)), (.v (.i .i64 a4)), (.v (.i .i64 a5)), (.v (.i .u64 a6)), (.v (.i .u64 a7)), .cap0, (.v (.b a8)), (.v (.i .i64 a9)), .cap0]), (.cells 35 none [(.v (.s a10)), (.v (.i .i64 a11)), (.v (.i .i64 a12)), (.v (.i .u64 a13)), (.v (.i .u64 a14)), (.v (.sl 9 a15)), (.v (.b a16)), (.v (.i .i64 a17)), (.v (.sl 35 a18))])], [] => some (a0, a1, a2, a3, a4, a5, a6, a7, a8, a9, a10, a11, a12, a13, a14, a15, a16, a17, a18)
    | _, _, _, _, _, _, _ => none
  slS := fun (a0, a1, a2, a3, a4, a5, a6, a7, a8, a9, a10, a11, a12, a13, a14, a15, a16, a17, a18) => [(1, (.v (.sl 46 a0))), (4, (.ptr 0 0)), (6, (.ptr 1 0)), (7, (.v (.i .i64 a1))), (8, (.v (.i .i64 a2)))]
  obS := fun (a0, a1, a2, a3, a4, a5, a6, a7, a8, a9, a10, a11, a12, a13, a14, a15, a16, a17, a18) => [(.cells 35 none [(.v (.s a3)), (.v (.i .i64 a4)), (.v (.i .i64 a5)), (.v (.i .u64 a6)), (.v (.i .u64 a7)), .cap0, (.v (.b a8)), (.v (.i .i64 a9)), .cap0]), (.cells 35 none [(.v (.s a10)), (.v (.i .i64 a11)), (.v (.i .i64 a12)), (.v (.i .u64 a13)), (.v (.i .u64 a14)), (.v (.sl 9 a15)), (.v (.b a16)), (.v (.i .i64 a17)), (.v (.sl 35 a18))])]
  dsS := fun (a0, a1, a2, a3, a4, a5, a6, a7, a8, a9, a10, a11, a12, a13, a14, a15, a16, a17, a18) => []
  dcE x env H ds := match x, env 1, env 4, env 6, env 7, env 8, env 23, H, ds with
    | .normal, (.v (.sl 46 a0)), (.ptr 0 0), (.ptr 1 0), (.v (.i .i64 a1)), (.v (.i .i64 a2)), (.v (.b a3)), [(.cells 35 none [(.v (.s a4)), (.v (.i .i64 a5)), (.v (.i .i64 a6)), (.v (.i .u64 a7)), (.v (.i .u64 a8)), .cap0, (.v (.b a9)), (.v (.i .i64 a10)), .cap0]), (.cells 35 none [(.v (.s a11)), (.v (.i .i64 a12)), (.v (.i .i64 a13)), (.v (.i .u64 a14)), (.v (.i .u64 a15)), (.v (.sl 9 a16)), (.v (.b a17)), (.v (.i .i64 a18)), (.v (.sl 35 a19))])], [] => some (a0, a1, a2, a3, a4, a5, a6, a7, a8, a9, a10, a11, a12, a13, a14, a15, a16, a17, a18, a19)
    | _, _, _, _, _, _, _, _, _ => none
  exE := fun (a0, a1, a2, a3, a4, a5, a6, a7, a8, a9, a10, a11, a12, a13, a14, a15, a16, a17, a18, a19) => .normal
  slE := fun (a0, a1, a2, a3, a4, a5, a6, a7, a8, a9, a10, a11, a12, a13, a14, a15, a16, a17, a18, a19) => [(1, (.v (.sl 46 a0))), (4, (.ptr 0 0)), (6, (.ptr 1 0)), (7, (.v (.i .i64 a1))), (8, (.v (.i .i64 a2))), (23, (.v (.b a3)))]
  obE := fun (a0, a1, a2, a3, a4, a5, a6, a7, a8, a9, a10, a11, a12, a13, a14, a15, a16, a17, a18, a19) => [(.cells 35 none [(.v (.s a4)), (.v (.i .i64 a5)), (.v (.i .i64 a6)), (.v (.i .u64 a7)), (.v (.i .u64 a8)), .cap0, (.v (.b a9)), (.v (.i .i64 a10)), .cap0]), (.cells 35 none [(.v (.s a11)), (.v (.i .i64 a12)), (.v (.i .i64 a13)), (.v (.i .u64 a14)), (.v (.i .u64 a15)), (.v (.sl 9 a16)), (.v (.b a17)), (.v (.i .i64 a18)), (.v (.sl 35 a19))])]
  dsE := fun (a0, a1, a2, a3, a4, a5, a6, a7, a8, a9, a10, a11, a12, a13, a14, a15, a16, a17, a18, a19) => []
  goE := fun _ (a0, a1, a2, a3, a4, a5, a6, a7, a8, a9, a10, a11, a12, a13, a14, a15, a16, a17, a18, a19) k => k .normal [(1, (.v (.sl 46 a0))), (4, (.ptr 0 0)), (6, (.ptr 1 0)), (7, (.v (.i .i64 a1))), (8, (.v (.i .i64 a2))), (23, (.v (.b a3)))] [(.cells 35 none [(.v (.s a4)), (.v (.i .i64 a5)), (.v (.i .i64 a6)), (.v (.i .u64 a7)), (.v (.i .u64 a8)), .cap0, (.v (.b a9)), (.v (.i .i64 a10)), .cap0]), (.cells 35 none [(.v (.s a11)), (.v (.i .i64 a12)), (.v (.i .i64 a13)), (.v (.i .u64 a14)), (.v (.i .u64 a15)), (.v (.sl 9 a16)), (.v (.b a17)), (.v (.i .i64 a18)), (.v (.sl 35 a19))])] []
theorem p_tollbarref15_At_9_ok : PieceOk p_tollbarref15_At_9 := by
  refine ⟨fun env H ds s h => ?_, fun x env H ds e h => ?_, fun R e k => by kernel_rfl⟩
  · simp only [p_tollbarref15_At_9] at h ⊢; split at h <;> first | (cases h; simp only [List.forall_mem_cons]; simp_all; done) | (cases h; done)
  · simp only [p_tollbarref15_At_9] at h ⊢; split at h <;> first | (cases h; simp only [List.forall_mem_cons]; simp_all; done) | (cases h; done)
theorem p_tollbarref15_At_9_ct (κ : Nat) (m : Int) : CutOk Tryd.prog C (G m) Tryd.f8.ntmps 0 (pieceOf (.reg 3) (getBody Tryd.f8)) (p_tollbarref15_At_9.cut (gcN 0 [1, 4, 6, 7, 8]) (fun (a0, a1, a2, a3, a4, a5, a6, a7, a8, a9, a10, a11, a12, a13, a14, a15, a16, a17, a18) => tollbarref15_At.v9 κ a0 a1 a2 a3 a4 a5 a6 a7 a8 a9 a10 a11 a12 a13 a14 a15 a16 a17 a18)) :=
  Piece.join p_tollbarref15_At_9_ok C_ok mixed (gam38_ok κ m) gcN_ok (xN_ok gcN_ok (ex_cons gcN_ok (ex_nil)) gcN_ok gcN_ok) (cut := noCut) (X := (xN (gcN 0 [1, 4, 6, 7, 8, 23]) [(0, (gcN 0 [4, 6, 7]))] (gcN 0 [4, 5]) (gcN 0 [1000000]))) (cuts_by (l := []) (by kernel_rfl) (all_nil)) (fun s => by kernel_rfl)
def cc_tollbarref15_At_10 (κ : Nat) : Cut T := p_tollbarref15_At_9.cut (gcN 0 [1, 4, 6, 7, 8]) (fun (a0, a1, a2, a3, a4, a5, a6, a7, a8, a9, a10, a11, a12, a13, a14, a15, a16, a17, a18) => tollbarref15_At.v9 κ a0 a1 a2 a3 a4 a5 a6 a7 a8 a9 a10 a11 a12 a13 a14 a15 a16 a17 a18)
theorem cc_tollbarref15_At_10_ok (κ : Nat) (m : Int) : CutOk Tryd.prog C (G m) Tryd.f8.ntmps 0 (pieceOf (.reg 3) (getBody Tryd.f8)) (cc_tollbarref15_At_10 κ) := p_tollbarref15_At_9_ct κ m
def ct_tollbarref15_At_10 (κ : Nat) : Key → Option (Cut T) := addCut noCut (.reg 3) (cc_tollbarref15_At_10 κ)
def p_tollbarref15_At_11 : Piece T ((List ApiStep) × Int × Int × Bool × ByteArray × Int × Int × Int × Int × Bool × Int × ByteArray × Int × Int × Int × Int × (List ByteArray) × Bool × Int × (List Tollbarref07S)) ((List ApiStep) × Int × Int × Bool × ByteArray × Int × Int × Int × Int × Bool × Int × ByteArray × Int × Int × Int × Int × (List ByteArray) × Bool × Int × (List Tollbarref07S)) where
  dcS env H ds := match env 1, env 4, env 6, env 7, env 8, env 10, H, ds with
    | (.v (.sl 46 a0)), (.ptr 0 0), (.ptr 1 0), (.v (.i .i64 a1)), (.v (.i .i64 a2)), (.v (.b a3)), [(.cells 35 none [(.v (.s a4)), (.v (.i .i64 a5)), (.v (.i .i64 a6)), (.v (.i .u64 a7)), (.v (.i .u64 a8)), .cap0, (.v (.b a9)), (.v (.i .i64 a10)), .cap0]), (.cells 35 none [(.v (.s a11)), (.v (.i .i64 a12)), (.v (.i .i64 a13)), (.v (.i .u64 a14)), (.v (.i .u64 a15)), (.v (.sl 9 a16)), (.v (.b a17)), (.v (.i .i64 a18)), (.v (.sl 35 a19))])], [] => some (a0, a1, a2, a3, a4, a5, a6, a7, a8, a9, a10, a11, a12, a13, a14, a15, a16, a17, a18, a19)
    | _, _, _, _, _, _, _, _ => none
  slS := fun (a0, a1, a2, a3, a4, a5, a6, a7, a8, a9, a10, a11, a12, a13, a14, a15, a16, a17, a18, a19) => [(1, (.v (.sl 46 a0))), (4, (.ptr 0 0)), (6, (.ptr 1 0)), (7, (.v (.i .i64 a1))), (8, (.v (.i .i64 a2))), (10, (.v (.b a3)))]
  obS := fun (a0, a1, a2, a3, a4, a5, a6, a7, a8, a9, a10, a11, a12, a13, a14, a15, a16, a17, a18, a19) => [(.cells 35 none [(.v (.s a4)), (.v (.i .i64 a5)), (.v (.i .i64 a6)), (.v (.i .u64 a7)), (.v (.i .u64 a8)), .cap0, (.v (.b a9)), (.v (.i .i64 a10)), .cap0]), (.cells 35 none [(.v (.s a11)), (.v (.i .i64 a12)), (.v (.i .i64 a13)), (.v (.i .u64 a14)), (.v (.i .u64 a15)), (.v (.sl 9 a16)), (.v (.b a17)), (.v (.i .i64 a18)), (.v (.sl 35 a19))])]
  dsS := fun (a0, a1, a2, a3, a4, a5, a6, a7, a8, a9, a10, a11, a12, a13, a14, a15, a16, a17, a18, a19) => []
  dcE x env H ds := match x, env 1, env 4, env 6, env 7, env 8, env 66, H, ds with
    | .normal, (.v (.sl 46 a0)), (.ptr 0 0), (.ptr 1 0), (.v (.i .i64 a1)), (.v (.i .i64 a2)), (.v (.b a3)), [(.cells 35 none [(.v (.s a4)), (.v (.i .i64 a5)), (.v (.i .i64 a6)), (.v (.i .u64 a7)), (.v (.i .u64 a8)), .cap0, (.v (.b a9)), (.v (.i .i64 a10)), .cap0]), (.cells 35 none [(.v (.s a11)), (.v (.i .i64 a12)), (.v (.i .i64 a13)), (.v (.i .u64 a14)), (.v (.i .u64 a15)), (.v (.sl 9 a16)), (.v (.b a17)), (.v (.i .i64 a18)), (.v (.sl 35 a19))])], [] => some (a0, a1, a2, a3, a4, a5, a6, a7, a8, a9, a10, a11, a12, a13, a14, a15, a16, a17, a18, a19)
    | _, _, _, _, _, _, _, _, _ => none
  exE := fun (a0, a1, a2, a3, a4, a5, a6, a7, a8, a9, a10, a11, a12, a13, a14, a15, a16, a17, a18, a19) => .normal
  slE := fun (a0, a1, a2, a3, a4, a5, a6, a7, a8, a9, a10, a11, a12, a13, a14, a15, a16, a17, a18, a19) => [(1, (.v (.sl 46 a0))), (4, (.ptr 0 0)), (6, (.ptr 1 0)), (7, (.v (.i .i64 a1))), (8, (.v (.i .i64 a2))), (66, (.v (.b a3)))]
  obE := fun (a0, a1, a2, a3, a4, a5, a6, a7, a8, a9, a10, a11, a12, a13, a14, a15, a16, a17, a18, a19) => [(.cells 35 none [(.v (.s a4)), (.v (.i .i64 a5)), (.v (.i .i64 a6)), (.v (.i .u64 a7)), (.v (.i .u64 a8)), .cap0, (.v (.b a9)), (.v (.i .i64 a10)), .cap0]), (.cells 35 none [(.v (.s a11)), (.v (.i .i64 a12)), (.v (.i .i64 a13)), (.v (.i .u64 a14)), (.v (.i .u64 a15)), (.v (.sl 9 a16)), (.v (.b a17)), (.v (.i .i64 a18)), (.v (.sl 35 a19))])]
  dsE := fun (a0, a1, a2, a3, a4, a5, a6, a7, a8, a9, a10, a11, a12, a13, a14, a15, a16, a17, a18, a19) => []
  goE := fun _ (a0, a1, a2, a3, a4, a5, a6, a7, a8, a9, a10, a11, a12, a13, a14, a15, a16, a17, a18, a19) k => k .normal [(1, (.v (.sl 46 a0))), (4, (.ptr 0 0)), (6, (.ptr 1 0)), (7, (.v (.i .i64 a1))), (8, (.v (.i .i64 a2))), (66, (.v (.b a3)))] [(.cells 35 none [(.v (.s a4)), (.v (.i .i64 a5)), (.v (.i .i64 a6)), (.v (.i .u64 a7)), (.v (.i .u64 a8)), .cap0, (.v (.b a9)), (.v (.i .i64 a10)), .cap0]), (.cells 35 none [(.v (.s a11)), (.v (.i .i64 a12)), (.v (.i .i64 a13)), (.v (.i .u64 a14)), (.v (.i .u64 a15)), (.v (.sl 9 a16)), (.v (.b a17)), (.v (.i .i64 a18)), (.v (.sl 35 a19))])] []
theorem p_tollbarref15_At_11_ok : PieceOk p_tollbarref15_At_11 := by
  refine ⟨fun env H ds s h => ?_, fun x env H ds e h => ?_, fun R e k => by kernel_rfl⟩
  · simp only [p_tollbarref15_At_11] at h ⊢; split at h <;> first | (cases h; simp only [List.forall_mem_cons]; simp_all; done) | (cases h; done)
  · simp only [p_tollbarref15_At_11] at h ⊢; split at h <;> first | (cases h; simp only [List.forall_mem_cons]; simp_all; done) | (cases h; done)
theorem p_tollbarref15_At_11_ct (κ : Nat) (m : Int) : CutOk Tryd.prog C (G m) Tryd.f8.ntmps 0 (pieceOf (.reg 10) (getBody Tryd.f8)) (p_tollbarref15_At_11.cut (gcN 0 [1, 4, 6, 7, 8, 10]) (fun (a0, a1, a2, a3, a4, a5, a6, a7, a8, a9, a10, a11, a12, a13, a14, a15, a16, a17, a18, a19) => tollbarref15_At.v11 κ a0 a1 a2 a3 a4 a5 a6 a7 a8 a9 a10 a11 a12 a13 a14 a15 a16 a17 a18 a19)) :=
  Piece.join p_tollbarref15_At_11_ok C_ok mixed (gam38_ok κ m) gcN_ok (xN_ok gcN_ok (ex_cons gcN_ok (ex_cons gcN_ok (ex_nil))) gcN_ok gcN_ok) (cut := (ct_tollbarref15_At_10 κ)) (X := (xN (gcN 0 [1, 4, 6, 7, 8, 66]) [(1, (gcN 0 [1, 4, 6, 7, 8])), (0, (gcN 0 [4, 6, 7]))] (gcN 0 [4, 5]) (gcN 0 [1000000]))) (cuts_by (l := []) (by kernel_rfl) (all_nil)) (fun s => by kernel_rfl)
def cc_tollbarref15_At_12 (κ : Nat) : Cut T := p_tollbarref15_At_11.cut (gcN 0 [1, 4, 6, 7, 8, 10]) (fun (a0, a1, a2, a3, a4, a5, a6, a7, a8, a9, a10, a11, a12, a13, a14, a15, a16, a17, a18, a19) => tollbarref15_At.v11 κ a0 a1 a2 a3 a4 a5 a6 a7 a8 a9 a10 a11 a12 a13 a14 a15 a16 a17 a18 a19)
theorem cc_tollbarref15_At_12_ok (κ : Nat) (m : Int) : CutOk Tryd.prog C (G m) Tryd.f8.ntmps 0 (pieceOf (.reg 10) (getBody Tryd.f8)) (cc_tollbarref15_At_12 κ) := p_tollbarref15_At_11_ct κ m
def ct_tollbarref15_At_12 (κ : Nat) : Key → Option (Cut T) := addCut (ct_tollbarref15_At_10 κ) (.reg 10) (cc_tollbarref15_At_12 κ)
def p_tollbarref15_At_8 : Piece T ((List ApiStep) × Int × Int × ByteArray × Int × Int × Int × Int × Bool × Int × ByteArray × Int × Int × Int × Int × (List ByteArray) × Bool × Int × (List Tollbarref07S)) ((Int × ByteArray × Int × Int × Int × Int × Bool × Int × ByteArray × Int × Int × Int × Int × (List ByteArray) × Bool × Int × (List Tollbarref07S)) ⊕ (Int × ByteArray × Int × Int × Int × Int × Bool × Int)) where
  dcS env H ds := match env 1, env 4, env 6, env 7, env 8, H, ds with
    | (.v (.sl 46 a0)), (.ptr 0 0), (.ptr 1 0), (.v (.i .i64 a1)), (.v (.i .i64 a2)), [(.cells 35 none [(.v (.s a3)), (.v (.i .i64 a4)), (.v (.i .i64 a5)), (.v (.i .u64 a6)), (.v (.i .u64 a7)), .cap0, (.v (.b a8)), (.v (.i .i64 a9)), .cap0]), (.cells 35 none [(.v (.s a10)), (.v (.i .i64 a11)), (.v (.i .i64 a12)), (.v (.i .u64 a13)), (.v (.i .u64 a14)), (.v (.sl 9 a15)), (.v (.b a16)), (.v (.i .i64 a17)), (.v (.sl 35 a18))])], [] => some (a0, a1, a2, a3, a4, a5, a6, a7, a8, a9, a10, a11, a12, a13, a14, a15, a16, a17, a18)
    | _, _, _, _, _, _, _ => none
  slS := fun (a0, a1, a2, a3, a4, a5, a6, a7, a8, a9, a10, a11, a12, a13, a14, a15, a16, a17, a18) => [(1, (.v (.sl 46 a0))), (4, (.ptr 0 0)), (6, (.ptr 1 0)), (7, (.v (.i .i64 a1))), (8, (.v (.i .i64 a2)))]
  obS := fun (a0, a1, a2, a3, a4, a5, a6, a7, a8, a9, a10, a11, a12, a13, a14, a15, a16, a17, a18) => [(.cells 35 none [(.v (.s a3)), (.v (.i .i64 a4)), (.v (.i .i64 a5)), (.v (.i .u64 a6)), (.v (.i .u64 a7)), .cap0, (.v (.b a8)), (.v (.i .i64 a9)), .cap0]), (.cells 35 none [(.v (.s a10)), (.v (.i .i64 a11)), (.v (.i .i64 a12)), (.v (.i .u64 a13)), (.v (.i .u64 a14)), (.v (.sl 9 a15)), (.v (.b a16)), (.v (.i .i64 a17)), (.v (.sl 35 a18))])]
  dsS := fun (a0, a1, a2, a3, a4, a5, a6, a7, a8, a9, a10, a11, a12, a13, a14, a15, a16, a17, a18) => []
  dcE x env H ds := match x, env 4, env 5, env 6, env 7, H, ds with
    | .normal, (.ptr 0 0), _, (.ptr 1 0), (.v (.i .i64 a0)), [(.cells 35 none [(.v (.s a1)), (.v (.i .i64 a2)), (.v (.i .i64 a3)), (.v (.i .u64 a4)), (.v (.i .u64 a5)), .cap0, (.v (.b a6)), (.v (.i .i64 a7)), .cap0]), (.cells 35 none [(.v (.s a8)), (.v (.i .i64 a9)), (.v (.i .i64 a10)), (.v (.i .u64 a11)), (.v (.i .u64 a12)), (.v (.sl 9 a13)), (.v (.b a14)), (.v (.i .i64 a15)), (.v (.sl 35 a16))])], [] => some (.inl (a0, a1, a2, a3, a4, a5, a6, a7, a8, a9, a10, a11, a12, a13, a14, a15, a16))
    | .ret, (.ptr 0 0), (.v (.i .i64 a0)), _, _, [(.cells 35 none [(.v (.s a1)), (.v (.i .i64 a2)), (.v (.i .i64 a3)), (.v (.i .u64 a4)), (.v (.i .u64 a5)), .cap0, (.v (.b a6)), (.v (.i .i64 a7)), .cap0])], [] => some (.inr (a0, a1, a2, a3, a4, a5, a6, a7))
    | _, _, _, _, _, _, _ => none
  exE := fun x => match x with
    | (.inl (a0, a1, a2, a3, a4, a5, a6, a7, a8, a9, a10, a11, a12, a13, a14, a15, a16)) => .normal
    | (.inr (a0, a1, a2, a3, a4, a5, a6, a7)) => .ret
  slE := fun x => match x with
    | (.inl (a0, a1, a2, a3, a4, a5, a6, a7, a8, a9, a10, a11, a12, a13, a14, a15, a16)) => [(4, (.ptr 0 0)), (6, (.ptr 1 0)), (7, (.v (.i .i64 a0)))]
    | (.inr (a0, a1, a2, a3, a4, a5, a6, a7)) => [(4, (.ptr 0 0)), (5, (.v (.i .i64 a0)))]
  obE := fun x => match x with
    | (.inl (a0, a1, a2, a3, a4, a5, a6, a7, a8, a9, a10, a11, a12, a13, a14, a15, a16)) => [(.cells 35 none [(.v (.s a1)), (.v (.i .i64 a2)), (.v (.i .i64 a3)), (.v (.i .u64 a4)), (.v (.i .u64 a5)), .cap0, (.v (.b a6)), (.v (.i .i64 a7)), .cap0]), (.cells 35 none [(.v (.s a8)), (.v (.i .i64 a9)), (.v (.i .i64 a10)), (.v (.i .u64 a11)), (.v (.i .u64 a12)), (.v (.sl 9 a13)), (.v (.b a14)), (.v (.i .i64 a15)), (.v (.sl 35 a16))])]
    | (.inr (a0, a1, a2, a3, a4, a5, a6, a7)) => [(.cells 35 none [(.v (.s a1)), (.v (.i .i64 a2)), (.v (.i .i64 a3)), (.v (.i .u64 a4)), (.v (.i .u64 a5)), .cap0, (.v (.b a6)), (.v (.i .i64 a7)), .cap0])]
  dsE := fun x => match x with
    | (.inl (a0, a1, a2, a3, a4, a5, a6, a7, a8, a9, a10, a11, a12, a13, a14, a15, a16)) => []
    | (.inr (a0, a1, a2, a3, a4, a5, a6, a7)) => []
  goE := fun _ x k => match x with
    | (.inl (a0, a1, a2, a3, a4, a5, a6, a7, a8, a9, a10, a11, a12, a13, a14, a15, a16)) => k .normal [(4, (.ptr 0 0)), (6, (.ptr 1 0)), (7, (.v (.i .i64 a0)))] [(.cells 35 none [(.v (.s a1)), (.v (.i .i64 a2)), (.v (.i .i64 a3)), (.v (.i .u64 a4)), (.v (.i .u64 a5)), .cap0, (.v (.b a6)), (.v (.i .i64 a7)), .cap0]), (.cells 35 none [(.v (.s a8)), (.v (.i .i64 a9)), (.v (.i .i64 a10)), (.v (.i .u64 a11)), (.v (.i .u64 a12)), (.v (.sl 9 a13)), (.v (.b a14)), (.v (.i .i64 a15)), (.v (.sl 35 a16))])] []
    | (.inr (a0, a1, a2, a3, a4, a5, a6, a7)) => k .ret [(4, (.ptr 0 0)), (5, (.v (.i .i64 a0)))] [(.cells 35 none [(.v (.s a1)), (.v (.i .i64 a2)), (.v (.i .i64 a3)), (.v (.i .u64 a4)), (.v (.i .u64 a5)), .cap0, (.v (.b a6)), (.v (.i .i64 a7)), .cap0])] []
theorem p_tollbarref15_At_8_ok : PieceOk p_tollbarref15_At_8 := by
  refine ⟨fun env H ds s h => ?_, fun x env H ds e h => ?_, fun R e k => by rcases e with e | e <;> kernel_rfl⟩
  · simp only [p_tollbarref15_At_8] at h ⊢; split at h <;> first | (cases h; simp only [List.forall_mem_cons]; simp_all; done) | (cases h; done)
  · simp only [p_tollbarref15_At_8] at h ⊢; split at h <;> first | (cases h; simp only [List.forall_mem_cons]; simp_all; done) | (cases h; done)
theorem p_tollbarref15_At_8_ct (κ : Nat) (m : Int) : CutOk Tryd.prog C (G m) Tryd.f8.ntmps 0 (pieceOf (.blk 0) (getBody Tryd.f8)) (p_tollbarref15_At_8.cut (andN (gcN 0 [1, 4, 6, 7, 8]) (andN (slC 1 5 [] 9) (andN (slC 1 8 [] 35) (gcN 0 [1, 4, 6, 7, 8])))) (tollbarref15_At.l8 κ κ)) :=
  Piece.loop p_tollbarref15_At_8_ok C_ok mixed (gam38_ok κ m) (andN_ok gcN_ok (andN_ok (slC_ok C_ok) (andN_ok (slC_ok C_ok) gcN_ok))) (xN_ok gcN_ok (ex_nil) gcN_ok gcN_ok) (cut := (ct_tollbarref15_At_12 κ)) (X := (xN (gcN 0 [4, 6, 7]) [] (gcN 0 [4, 5]) (gcN 0 [1000000]))) (id := 0) (body := bodyOf (pieceOf (.blk 0) (getBody Tryd.f8))) (cuts_by (l := [(pieceOf (.reg 3) (getBody Tryd.f8), cc_tollbarref15_At_10 κ), (pieceOf (.reg 10) (getBody Tryd.f8), cc_tollbarref15_At_12 κ)]) (by kernel_rfl) (all_cons (cc_tollbarref15_At_10_ok κ m) (all_cons (cc_tollbarref15_At_12_ok κ m) (all_nil)))) (f := tollbarref15_At.l8 κ) (fun s => by kernel_rfl) (fun k s => by kernel_rfl) κ
def cc_tollbarref15_At_13 (κ : Nat) : Cut T := p_tollbarref15_At_8.cut (andN (gcN 0 [1, 4, 6, 7, 8]) (andN (slC 1 5 [] 9) (andN (slC 1 8 [] 35) (gcN 0 [1, 4, 6, 7, 8])))) (tollbarref15_At.l8 κ κ)
theorem cc_tollbarref15_At_13_ok (κ : Nat) (m : Int) : CutOk Tryd.prog C (G m) Tryd.f8.ntmps 0 (pieceOf (.blk 0) (getBody Tryd.f8)) (cc_tollbarref15_At_13 κ) := p_tollbarref15_At_8_ct κ m
def ct_tollbarref15_At_13 (κ : Nat) : Key → Option (Cut T) := addCut noCut (.blk 0) (cc_tollbarref15_At_13 κ)
def sp_tollbarref15_At : Spec T (Int × (List ApiStep)) (ByteArray × Int × Int × Int × Int × (List ByteArray) × Bool × Int × (List Tollbarref07S) × Int) where
  dcI a H := match a, H with
    | [(.v (.i .i64 a0)), (.v (.sl 46 a1))], [] => some (a0, a1)
    | _, _ => none
  ecA := fun (a0, a1) => [(.v (.i .i64 a0)), (.v (.sl 46 a1))]
  ecH := fun (a0, a1) => []
  dcO o := match o with
    | .ret (.tup [(.agg [(.v (.s a0)), (.v (.i .i64 a1)), (.v (.i .i64 a2)), (.v (.i .u64 a3)), (.v (.i .u64 a4)), (.v (.sl 9 a5)), (.v (.b a6)), (.v (.i .i64 a7)), (.v (.sl 35 a8))]), (.v (.i .i64 a9))]) [] => some (a0, a1, a2, a3, a4, a5, a6, a7, a8, a9)
    | _ => none
  goO := fun _ (a0, a1, a2, a3, a4, a5, a6, a7, a8, a9) k => k (.ret (.tup [(.agg [(.v (.s a0)), (.v (.i .i64 a1)), (.v (.i .i64 a2)), (.v (.i .u64 a3)), (.v (.i .u64 a4)), (.v (.sl 9 a5)), (.v (.b a6)), (.v (.i .i64 a7)), (.v (.sl 35 a8))]), (.v (.i .i64 a9))]) [])
  ecO := fun (a0, a1, a2, a3, a4, a5, a6, a7, a8, a9) => .ret (.tup [(.agg [(.v (.s a0)), (.v (.i .i64 a1)), (.v (.i .i64 a2)), (.v (.i .u64 a3)), (.v (.i .u64 a4)), (.v (.sl 9 a5)), (.v (.b a6)), (.v (.i .i64 a7)), (.v (.sl 35 a8))]), (.v (.i .i64 a9))]) []
theorem sp_tollbarref15_At_ok : SpecOk sp_tollbarref15_At := by
  refine ⟨fun a H i h => ?_, fun o x h => ?_, fun R e k => by kernel_rfl⟩
  · simp only [sp_tollbarref15_At] at h ⊢; split at h <;> first | (cases h; exact ⟨rfl, rfl⟩) | (cases h; done)
  · simp only [sp_tollbarref15_At] at h ⊢; split at h <;> first | (cases h; rfl) | (cases h; done)
theorem ok_tollbarref15_At (κ : Nat) (m : Int) : EOk Tryd.prog C (G m) 8 (sp_tollbarref15_At.entry (fun (a0, a1) => tollbarref15_At κ a0 a1)) :=
  Spec.ok sp_tollbarref15_At_ok C_ok mixed (gam38_ok κ m) (cut := (ct_tollbarref15_At_13 κ)) (NR := (andN (slS 0 [0, 5] 9) (andN (slS 0 [0, 8] 35) (gcN 0 [0])))) (NP := (gcN 0 [0])) (nB := 0) Tryd.func8 (c := (getBody Tryd.f8)) (by kernel_rfl) (by kernel_rfl) (fun i => by kernel_rfl) (andN_ok (slS_ok C_ok) (andN_ok (slS_ok C_ok) gcN_ok)) gcN_ok (cuts_by (l := [(pieceOf (.blk 0) (getBody Tryd.f8), cc_tollbarref15_At_13 κ)]) (by kernel_rfl) (all_cons (cc_tollbarref15_At_13_ok κ m) (all_nil))) (fun i => by kernel_rfl)
noncomputable def gam39 (κ : Nat) : Gam T := (gam38 κ).addS 8 sp_tollbarref15_At (fun (a0, a1) => tollbarref15_At κ a0 a1)
theorem gam39_ok (κ : Nat) (m : Int) : GOk Tryd.prog C (G m) (gam39 κ) := (gam38_ok κ m).addS (ok_tollbarref15_At κ m)
def p_tollbarref15_Show_8 : Piece T ((List ApiStep) × ByteArray × Int × Bool × Bool) ((List ApiStep) × ByteArray × Int × Bool × Bool) where
  dcS env H ds := match env 0, env 3, env 4, env 5, env 6, H, ds with
    | (.v (.sl 46 a0)), (.v (.s a1)), (.v (.i .i64 a2)), (.v (.b a3)), (.v (.b a4)), [], [] => some (a0, a1, a2, a3, a4)
    | _, _, _, _, _, _, _ => none
  slS := fun (a0, a1, a2, a3, a4) => [(0, (.v (.sl 46 a0))), (3, (.v (.s a1))), (4, (.v (.i .i64 a2))), (5, (.v (.b a3))), (6, (.v (.b a4)))]
  obS := fun (a0, a1, a2, a3, a4) => []
  dsS := fun (a0, a1, a2, a3, a4) => []
  dcE x env H ds := match x, env 0, env 3, env 4, env 6, env 38, H, ds with
    | .normal, (.v (.sl 46 a0)), (.v (.s a1)), (.v (.i .i64 a2)), (.v (.b a3)), (.v (.b a4)), [], [] => some (a0, a1, a2, a3, a4)
    | _, _, _, _, _, _, _, _ => none
  exE := fun (a0, a1, a2, a3, a4) => .normal
  slE := fun (a0, a1, a2, a3, a4) => [(0, (.v (.sl 46 a0))), (3, (.v (.s a1))), (4, (.v (.i .i64 a2))), (6, (.v (.b a3))), (38, (.v (.b a4)))]
  obE := fun (a0, a1, a2, a3, a4) => []
  dsE := fun (a0, a1, a2, a3, a4) => []
  goE := fun _ (a0, a1, a2, a3, a4) k => k .normal [(0, (.v (.sl 46 a0))), (3, (.v (.s a1))), (4, (.v (.i .i64 a2))), (6, (.v (.b a3))), (38, (.v (.b a4)))] [] []
theorem p_tollbarref15_Show_8_ok : PieceOk p_tollbarref15_Show_8 := by
  refine ⟨fun env H ds s h => ?_, fun x env H ds e h => ?_, fun R e k => by kernel_rfl⟩
  · simp only [p_tollbarref15_Show_8] at h ⊢; split at h <;> first | (cases h; simp only [List.forall_mem_cons]; simp_all; done) | (cases h; done)
  · simp only [p_tollbarref15_Show_8] at h ⊢; split at h <;> first | (cases h; simp only [List.forall_mem_cons]; simp_all; done) | (cases h; done)
theorem p_tollbarref15_Show_8_ct (κ : Nat) (m : Int) : CutOk Tryd.prog C (G m) Tryd.f9.ntmps 0 (pieceOf (.reg 7) (getBody Tryd.f9)) (p_tollbarref15_Show_8.cut (gcN 0 [0, 3, 4, 5, 6]) (fun (a0, a1, a2, a3, a4) => tollbarref15_Show.v8 κ a0 a1 a2 a3 a4)) :=
  Piece.join p_tollbarref15_Show_8_ok C_ok mixed (gam39_ok κ m) gcN_ok (xN_ok gcN_ok (ex_cons gcN_ok (ex_cons gcN_ok (ex_nil))) gcN_ok gcN_ok) (cut := noCut) (X := (xN (gcN 0 [0, 3, 4, 6, 38]) [(1, (gcN 0 [0, 3, 4])), (0, (gcN 0 [0, 3]))] (gcN 0 [2]) (gcN 0 [1000000]))) (cuts_by (l := []) (by kernel_rfl) (all_nil)) (fun s => by kernel_rfl)
def cc_tollbarref15_Show_9 (κ : Nat) : Cut T := p_tollbarref15_Show_8.cut (gcN 0 [0, 3, 4, 5, 6]) (fun (a0, a1, a2, a3, a4) => tollbarref15_Show.v8 κ a0 a1 a2 a3 a4)
theorem cc_tollbarref15_Show_9_ok (κ : Nat) (m : Int) : CutOk Tryd.prog C (G m) Tryd.f9.ntmps 0 (pieceOf (.reg 7) (getBody Tryd.f9)) (cc_tollbarref15_Show_9 κ) := p_tollbarref15_Show_8_ct κ m
def ct_tollbarref15_Show_9 (κ : Nat) : Key → Option (Cut T) := addCut noCut (.reg 7) (cc_tollbarref15_Show_9 κ)
def p_tollbarref15_Show_10 : Piece T ((List ApiStep) × ByteArray × Int × Bool) ((List ApiStep) × ByteArray × Int) where
  dcS env H ds := match env 0, env 3, env 4, env 47, H, ds with
    | (.v (.sl 46 a0)), (.v (.s a1)), (.v (.i .i64 a2)), (.v (.b a3)), [], [] => some (a0, a1, a2, a3)
    | _, _, _, _, _, _ => none
  slS := fun (a0, a1, a2, a3) => [(0, (.v (.sl 46 a0))), (3, (.v (.s a1))), (4, (.v (.i .i64 a2))), (47, (.v (.b a3)))]
  obS := fun (a0, a1, a2, a3) => []
  dsS := fun (a0, a1, a2, a3) => []
  dcE x env H ds := match x, env 0, env 3, env 4, H, ds with
    | .normal, (.v (.sl 46 a0)), (.v (.s a1)), (.v (.i .i64 a2)), [], [] => some (a0, a1, a2)
    | _, _, _, _, _, _ => none
  exE := fun (a0, a1, a2) => .normal
  slE := fun (a0, a1, a2) => [(0, (.v (.sl 46 a0))), (3, (.v (.s a1))), (4, (.v (.i .i64 a2)))]
  obE := fun (a0, a1, a2) => []
  dsE := fun (a0, a1, a2) => []
  goE := fun _ (a0, a1, a2) k => k .normal [(0, (.v (.sl 46 a0))), (3, (.v (.s a1))), (4, (.v (.i .i64 a2)))] [] []
theorem p_tollbarref15_Show_10_ok : PieceOk p_tollbarref15_Show_10 := by
  refine ⟨fun env H ds s h => ?_, fun x env H ds e h => ?_, fun R e k => by kernel_rfl⟩
  · simp only [p_tollbarref15_Show_10] at h ⊢; split at h <;> first | (cases h; simp only [List.forall_mem_cons]; simp_all; done) | (cases h; done)
  · simp only [p_tollbarref15_Show_10] at h ⊢; split at h <;> first | (cases h; simp only [List.forall_mem_cons]; simp_all; done) | (cases h; done)
theorem p_tollbarref15_Show_10_ct (κ : Nat) (m : Int) : CutOk Tryd.prog C (G m) Tryd.f9.ntmps 0 (pieceOf (.cnd 47 12) (getBody Tryd.f9)) (p_tollbarref15_Show_10.cut (gcN 0 [0, 3, 4, 47]) (fun (a0, a1, a2, a3) => tollbarref15_Show.v10 κ a0 a1 a2 a3)) :=
  Piece.join p_tollbarref15_Show_10_ok C_ok mixed (gam39_ok κ m) gcN_ok (xN_ok gcN_ok (ex_cons gcN_ok (ex_cons gcN_ok (ex_nil))) gcN_ok gcN_ok) (cut := (ct_tollbarref15_Show_9 κ)) (X := (xN (gcN 0 [0, 3, 4]) [(1, (gcN 0 [0, 3, 4])), (0, (gcN 0 [0, 3]))] (gcN 0 [2]) (gcN 0 [1000000]))) (cuts_by (l := []) (by kernel_rfl) (all_nil)) (fun s => by kernel_rfl)
def cc_tollbarref15_Show_11 (κ : Nat) : Cut T := p_tollbarref15_Show_10.cut (gcN 0 [0, 3, 4, 47]) (fun (a0, a1, a2, a3) => tollbarref15_Show.v10 κ a0 a1 a2 a3)
theorem cc_tollbarref15_Show_11_ok (κ : Nat) (m : Int) : CutOk Tryd.prog C (G m) Tryd.f9.ntmps 0 (pieceOf (.cnd 47 12) (getBody Tryd.f9)) (cc_tollbarref15_Show_11 κ) := p_tollbarref15_Show_10_ct κ m
def ct_tollbarref15_Show_11 (κ : Nat) : Key → Option (Cut T) := addCut (ct_tollbarref15_Show_9 κ) (.cnd 47 12) (cc_tollbarref15_Show_11 κ)
def p_tollbarref15_Show_7 : Piece T ((List ApiStep) × ByteArray × Int) (((List ApiStep) × ByteArray × Int) ⊕ (ByteArray)) where
  dcS env H ds := match env 0, env 3, env 4, H, ds with
    | (.v (.sl 46 a0)), (.v (.s a1)), (.v (.i .i64 a2)), [], [] => some (a0, a1, a2)
    | _, _, _, _, _ => none
  slS := fun (a0, a1, a2) => [(0, (.v (.sl 46 a0))), (3, (.v (.s a1))), (4, (.v (.i .i64 a2)))]
  obS := fun (a0, a1, a2) => []
  dsS := fun (a0, a1, a2) => []
  dcE x env H ds := match x, env 0, env 2, env 3, env 4, H, ds with
    | .normal, (.v (.sl 46 a0)), _, (.v (.s a1)), (.v (.i .i64 a2)), [], [] => some (.inl (a0, a1, a2))
    | .ret, _, (.v (.s a0)), _, _, [], [] => some (.inr a0)
    | _, _, _, _, _, _, _ => none
  exE := fun x => match x with
    | (.inl (a0, a1, a2)) => .normal
    | (.inr a0) => .ret
  slE := fun x => match x with
    | (.inl (a0, a1, a2)) => [(0, (.v (.sl 46 a0))), (3, (.v (.s a1))), (4, (.v (.i .i64 a2)))]
    | (.inr a0) => [(2, (.v (.s a0)))]
  obE := fun x => match x with
    | (.inl (a0, a1, a2)) => []
    | (.inr a0) => []
  dsE := fun x => match x with
    | (.inl (a0, a1, a2)) => []
    | (.inr a0) => []
  goE := fun _ x k => match x with
    | (.inl (a0, a1, a2)) => k .normal [(0, (.v (.sl 46 a0))), (3, (.v (.s a1))), (4, (.v (.i .i64 a2)))] [] []
    | (.inr a0) => k .ret [(2, (.v (.s a0)))] [] []
theorem p_tollbarref15_Show_7_ok : PieceOk p_tollbarref15_Show_7 := by
  refine ⟨fun env H ds s h => ?_, fun x env H ds e h => ?_, fun R e k => by rcases e with e | e <;> kernel_rfl⟩
  · simp only [p_tollbarref15_Show_7] at h ⊢; split at h <;> first | (cases h; simp only [List.forall_mem_cons]; simp_all; done) | (cases h; done)
  · simp only [p_tollbarref15_Show_7] at h ⊢; split at h <;> first | (cases h; simp only [List.forall_mem_cons]; simp_all; done) | (cases h; done)
theorem p_tollbarref15_Show_7_ct (κ : Nat) (m : Int) : CutOk Tryd.prog C (G m) Tryd.f9.ntmps 0 (pieceOf (.blk 1) (getBody Tryd.f9)) (p_tollbarref15_Show_7.cut (gcN 0 [0, 3, 4]) (fun (a0, a1, a2) => tollbarref15_Show.v7 κ a0 a1 a2)) :=
  Piece.join p_tollbarref15_Show_7_ok C_ok mixed (gam39_ok κ m) gcN_ok (xN_ok gcN_ok (ex_cons gcN_ok (ex_nil)) gcN_ok gcN_ok) (cut := (ct_tollbarref15_Show_11 κ)) (X := (xN (gcN 0 [0, 3, 4]) [(0, (gcN 0 [0, 3]))] (gcN 0 [2]) (gcN 0 [1000000]))) (cuts_by (l := [(pieceOf (.reg 7) (getBody Tryd.f9), cc_tollbarref15_Show_9 κ), (pieceOf (.cnd 47 12) (getBody Tryd.f9), cc_tollbarref15_Show_11 κ)]) (by kernel_rfl) (all_cons (cc_tollbarref15_Show_9_ok κ m) (all_cons (cc_tollbarref15_Show_11_ok κ m) (all_nil)))) (fun s => by kernel_rfl)
def cc_tollbarref15_Show_12 (κ : Nat) : Cut T := p_tollbarref15_Show_7.cut (gcN 0 [0, 3, 4]) (fun (a0, a1, a2) => tollbarref15_Show.v7 κ a0 a1 a2)
theorem cc_tollbarref15_Show_12_ok (κ : Nat) (m : Int) : CutOk Tryd.prog C (G m) Tryd.f9.ntmps 0 (pieceOf (.blk 1) (getBody Tryd.f9)) (cc_tollbarref15_Show_12 κ) := p_tollbarref15_Show_7_ct κ m
def ct_tollbarref15_Show_12 (κ : Nat) : Key → Option (Cut T) := addCut noCut (.blk 1) (cc_tollbarref15_Show_12 κ)
def p_tollbarref15_Show_6 : Piece T ((List ApiStep) × ByteArray × Int) (((List ApiStep) × ByteArray) ⊕ (ByteArray)) where
  dcS env H ds := match env 0, env 3, env 4, H, ds with
    | (.v (.sl 46 a0)), (.v (.s a1)), (.v (.i .i64 a2)), [], [] => some (a0, a1, a2)
    | _, _, _, _, _ => none
  slS := fun (a0, a1, a2) => [(0, (.v (.sl 46 a0))), (3, (.v (.s a1))), (4, (.v (.i .i64 a2)))]
  obS := fun (a0, a1, a2) => []
  dsS := fun (a0, a1, a2) => []
  dcE x env H ds := match x, env 0, env 2, env 3, H, ds with
    | .normal, (.v (.sl 46 a0)), _, (.v (.s a1)), [], [] => some (.inl (a0, a1))
    | .ret, _, (.v (.s a0)), _, [], [] => some (.inr a0)
    | _, _, _, _, _, _ => none
  exE := fun x => match x with
    | (.inl (a0, a1)) => .normal
    | (.inr a0) => .ret
  slE := fun x => match x with
    | (.inl (a0, a1)) => [(0, (.v (.sl 46 a0))), (3, (.v (.s a1)))]
    | (.inr a0) => [(2, (.v (.s a0)))]
  obE := fun x => match x with
    | (.inl (a0, a1)) => []
    | (.inr a0) => []
  dsE := fun x => match x with
    | (.inl (a0, a1)) => []
    | (.inr a0) => []
  goE := fun _ x k => match x with
    | (.inl (a0, a1)) => k .normal [(0, (.v (.sl 46 a0))), (3, (.v (.s a1)))] [] []
    | (.inr a0) => k .ret [(2, (.v (.s a0)))] [] []
theorem p_tollbarref15_Show_6_ok : PieceOk p_tollbarref15_Show_6 := by
  refine ⟨fun env H ds s h => ?_, fun x env H ds e h => ?_, fun R e k => by rcases e with e | e <;> kernel_rfl⟩
  · simp only [p_tollbarref15_Show_6] at h ⊢; split at h <;> first | (cases h; simp only [List.forall_mem_cons]; simp_all; done) | (cases h; done)
  · simp only [p_tollbarref15_Show_6] at h ⊢; split at h <;> first | (cases h; simp only [List.forall_mem_cons]; simp_all; done) | (cases h; done)
theorem p_tollbarref15_Show_6_ct (κ : Nat) (m : Int) : CutOk Tryd.prog C (G m) Tryd.f9.ntmps 0 (pieceOf (.blk 0) (getBody Tryd.f9)) (p_tollbarref15_Show_6.cut (gcN 0 [0, 3, 4]) (tollbarref15_Show.l6 κ κ)) :=
  Piece.loop p_tollbarref15_Show_6_ok C_ok mixed (gam39_ok κ m) gcN_ok (xN_ok gcN_ok (ex_nil) gcN_ok gcN_ok) (cut := (ct_tollbarref15_Show_12 κ)) (X := (xN (gcN 0 [0, 3]) [] (gcN 0 [2]) (gcN 0 [1000000]))) (id := 0) (body := bodyOf (pieceOf (.blk 0) (getBody Tryd.f9))) (cuts_by (l := [(pieceOf (.blk 1) (getBody Tryd.f9), cc_tollbarref15_Show_12 κ)]) (by kernel_rfl) (all_cons (cc_tollbarref15_Show_12_ok κ m) (all_nil))) (f := tollbarref15_Show.l6 κ) (fun s => by kernel_rfl) (fun k s => by kernel_rfl) κ
def cc_tollbarref15_Show_13 (κ : Nat) : Cut T := p_tollbarref15_Show_6.cut (gcN 0 [0, 3, 4]) (tollbarref15_Show.l6 κ κ)
theorem cc_tollbarref15_Show_13_ok (κ : Nat) (m : Int) : CutOk Tryd.prog C (G m) Tryd.f9.ntmps 0 (pieceOf (.blk 0) (getBody Tryd.f9)) (cc_tollbarref15_Show_13 κ) := p_tollbarref15_Show_6_ct κ m
def ct_tollbarref15_Show_13 (κ : Nat) : Key → Option (Cut T) := addCut noCut (.blk 0) (cc_tollbarref15_Show_13 κ)
def sp_tollbarref15_Show : Spec T ((List ApiStep)) (ByteArray) where
  dcI a H := match a, H with
    | [(.v (.sl 46 a0))], [] => some a0
    | _, _ => none
  ecA := fun a0 => [(.v (.sl 46 a0))]
  ecH := fun a0 => []
  dcO o := match o with
    | .ret (.v (.s a0)) [] => some a0
    | _ => none
  goO := fun _ a0 k => k (.ret (.v (.s a0)) [])
  ecO := fun a0 => .ret (.v (.s a0)) []
theorem sp_tollbarref15_Show_ok : SpecOk sp_tollbarref15_Show := by
  refine ⟨fun a H i h => ?_, fun o x h => ?_, fun R e k => by kernel_rfl⟩
  · simp only [sp_tollbarref15_Show] at h ⊢; split at h <;> first | (cases h; exact ⟨rfl, rfl⟩) | (cases h; done)
  · simp only [sp_tollbarref15_Show] at h ⊢; split at h <;> first | (cases h; rfl) | (cases h; done)
theorem ok_tollbarref15_Show (κ : Nat) (m : Int) : EOk Tryd.prog C (G m) 9 (sp_tollbarref15_Show.entry (fun a0 => tollbarref15_Show κ a0)) :=
  Spec.ok sp_tollbarref15_Show_ok C_ok mixed (gam39_ok κ m) (cut := (ct_tollbarref15_Show_13 κ)) (NR := (gcN 0 [0])) (NP := (gcN 0 [0])) (nB := 0) Tryd.func9 (c := (getBody Tryd.f9)) (by kernel_rfl) (by kernel_rfl) (fun i => by kernel_rfl) gcN_ok gcN_ok (cuts_by (l := [(pieceOf (.blk 0) (getBody Tryd.f9), cc_tollbarref15_Show_13 κ)]) (by kernel_rfl) (all_cons (cc_tollbarref15_Show_13_ok κ m) (all_nil))) (fun i => by kernel_rfl)
noncomputable def gam40 (κ : Nat) : Gam T := (gam39 κ).addS 9 sp_tollbarref15_Show (fun a0 => tollbarref15_Show κ a0)
theorem gam40_ok (κ : Nat) (m : Int) : GOk Tryd.prog C (G m) (gam40 κ) := (gam39_ok κ m).addS (ok_tollbarref15_Show κ m)
def p_tollbarref15_Under_3 : Piece T ((List ApiStep) × (List ApiStep) × Int) ((List ApiStep) × (List ApiStep) × Int × Bool) where
  dcS env H ds := match env 0, env 1, env 5, H, ds with
    | (.v (.sl 46 a0)), (.v (.sl 46 a1)), (.v (.i .i64 a2)), [], [] => some (a0, a1, a2)
    | _, _, _, _, _ => none
  slS := fun (a0, a1, a2) => [(0, (.v (.sl 46 a0))), (1, (.v (.sl 46 a1))), (5, (.v (.i .i64 a2)))]
  obS := fun (a0, a1, a2) => []
  dsS := fun (a0, a1, a2) => []
  dcE x env H ds := match x, env 0, env 1, env 5, env 26, H, ds with
    | .normal, (.v (.sl 46 a0)), (.v (.sl 46 a1)), (.v (.i .i64 a2)), (.v (.b a3)), [], [] => some (a0, a1, a2, a3)
    | _, _, _, _, _, _, _ => none
  exE := fun (a0, a1, a2, a3) => .normal
  slE := fun (a0, a1, a2, a3) => [(0, (.v (.sl 46 a0))), (1, (.v (.sl 46 a1))), (5, (.v (.i .i64 a2))), (26, (.v (.b a3)))]
  obE := fun (a0, a1, a2, a3) => []
  dsE := fun (a0, a1, a2, a3) => []
  goE := fun _ (a0, a1, a2, a3) k => k .normal [(0, (.v (.sl 46 a0))), (1, (.v (.sl 46 a1))), (5, (.v (.i .i64 a2))), (26, (.v (.b a3)))] [] []
theorem p_tollbarref15_Under_3_ok : PieceOk p_tollbarref15_Under_3 := by
  refine ⟨fun env H ds s h => ?_, fun x env H ds e h => ?_, fun R e k => by kernel_rfl⟩
  · simp only [p_tollbarref15_Under_3] at h ⊢; split at h <;> first | (cases h; simp only [List.forall_mem_cons]; simp_all; done) | (cases h; done)
  · simp only [p_tollbarref15_Under_3] at h ⊢; split at h <;> first | (cases h; simp only [List.forall_mem_cons]; simp_all; done) | (cases h; done)
theorem p_tollbarref15_Under_3_ct (κ : Nat) (m : Int) : CutOk Tryd.prog C (G m) Tryd.f13.ntmps 0 (pieceOf (.reg 4) (getBody Tryd.f13)) (p_tollbarref15_Under_3.cut (gcN 0 [0, 1, 5]) (fun (a0, a1, a2) => tollbarref15_Under.v3 κ a0 a1 a2)) :=
  Piece.join p_tollbarref15_Under_3_ok C_ok mixed (gam40_ok κ m) gcN_ok (xN_ok gcN_ok (ex_cons gcN_ok (ex_cons gcN_ok (ex_nil))) gcN_ok gcN_ok) (cut := noCut) (X := (xN (gcN 0 [0, 1, 5, 26]) [(1, (gcN 0 [0, 1, 5])), (0, (gcN 0 []))] (gcN 0 [4]) (gcN 0 [1000000]))) (cuts_by (l := []) (by kernel_rfl) (all_nil)) (fun s => by kernel_rfl)
def cc_tollbarref15_Under_4 (κ : Nat) : Cut T := p_tollbarref15_Under_3.cut (gcN 0 [0, 1, 5]) (fun (a0, a1, a2) => tollbarref15_Under.v3 κ a0 a1 a2)
theorem cc_tollbarref15_Under_4_ok (κ : Nat) (m : Int) : CutOk Tryd.prog C (G m) Tryd.f13.ntmps 0 (pieceOf (.reg 4) (getBody Tryd.f13)) (cc_tollbarref15_Under_4 κ) := p_tollbarref15_Under_3_ct κ m
def ct_tollbarref15_Under_4 (κ : Nat) : Key → Option (Cut T) := addCut noCut (.reg 4) (cc_tollbarref15_Under_4 κ)
def p_tollbarref15_Under_2 : Piece T ((List ApiStep) × (List ApiStep) × Int) ((Unit) ⊕ (Bool)) where
  dcS env H ds := match env 0, env 1, env 5, H, ds with
    | (.v (.sl 46 a0)), (.v (.sl 46 a1)), (.v (.i .i64 a2)), [], [] => some (a0, a1, a2)
    | _, _, _, _, _ => none
  slS := fun (a0, a1, a2) => [(0, (.v (.sl 46 a0))), (1, (.v (.sl 46 a1))), (5, (.v (.i .i64 a2)))]
  obS := fun (a0, a1, a2) => []
  dsS := fun (a0, a1, a2) => []
  dcE x env H ds := match x, env 4, H, ds with
    | .normal, _, [], [] => some (.inl ())
    | .ret, (.v (.b a0)), [], [] => some (.inr a0)
    | _, _, _, _ => none
  exE := fun x => match x with
    | (.inl _) => .normal
    | (.inr a0) => .ret
  slE := fun x => match x with
    | (.inl _) => []
    | (.inr a0) => [(4, (.v (.b a0)))]
  obE := fun x => match x with
    | (.inl _) => []
    | (.inr a0) => []
  dsE := fun x => match x with
    | (.inl _) => []
    | (.inr a0) => []
  goE := fun _ x k => match x with
    | (.inl _) => k .normal [] [] []
    | (.inr a0) => k .ret [(4, (.v (.b a0)))] [] []
theorem p_tollbarref15_Under_2_ok : PieceOk p_tollbarref15_Under_2 := by
  refine ⟨fun env H ds s h => ?_, fun x env H ds e h => ?_, fun R e k => by rcases e with e | e <;> kernel_rfl⟩
  · simp only [p_tollbarref15_Under_2] at h ⊢; split at h <;> first | (cases h; simp only [List.forall_mem_cons]; simp_all; done) | (cases h; done)
  · simp only [p_tollbarref15_Under_2] at h ⊢; split at h <;> first | (cases h; simp only [List.forall_mem_cons]; simp_all; done) | (cases h; done)
theorem p_tollbarref15_Under_2_ct (κ : Nat) (m : Int) : CutOk Tryd.prog C (G m) Tryd.f13.ntmps 0 (pieceOf (.blk 0) (getBody Tryd.f13)) (p_tollbarref15_Under_2.cut (gcN 0 [0, 1, 5]) (tollbarref15_Under.l2 κ κ)) :=
  Piece.loop p_tollbarref15_Under_2_ok C_ok mixed (gam40_ok κ m) gcN_ok (xN_ok gcN_ok (ex_nil) gcN_ok gcN_ok) (cut := (ct_tollbarref15_Under_4 κ)) (X := (xN (gcN 0 []) [] (gcN 0 [4]) (gcN 0 [1000000]))) (id := 0) (body := bodyOf (pieceOf (.blk 0) (getBody Tryd.f13))) (cuts_by (l := [(pieceOf (.reg 4) (getBody Tryd.f13), cc_tollbarref15_Under_4 κ)]) (by kernel_rfl) (all_cons (cc_tollbarref15_Under_4_ok κ m) (all_nil))) (f := tollbarref15_Under.l2 κ) (fun s => by kernel_rfl) (fun k s => by kernel_rfl) κ
def cc_tollbarref15_Under_5 (κ : Nat) : Cut T := p_tollbarref15_Under_2.cut (gcN 0 [0, 1, 5]) (tollbarref15_Under.l2 κ κ)
theorem cc_tollbarref15_Under_5_ok (κ : Nat) (m : Int) : CutOk Tryd.prog C (G m) Tryd.f13.ntmps 0 (pieceOf (.blk 0) (getBody Tryd.f13)) (cc_tollbarref15_Under_5 κ) := p_tollbarref15_Under_2_ct κ m
def ct_tollbarref15_Under_5 (κ : Nat) : Key → Option (Cut T) := addCut noCut (.blk 0) (cc_tollbarref15_Under_5 κ)
def sp_tollbarref15_Under : Spec T ((List ApiStep) × (List ApiStep)) (Bool) where
  dcI a H := match a, H with
    | [(.v (.sl 46 a0)), (.v (.sl 46 a1))], [] => some (a0, a1)
    | _, _ => none
  ecA := fun (a0, a1) => [(.v (.sl 46 a0)), (.v (.sl 46 a1))]
  ecH := fun (a0, a1) => []
  dcO o := match o with
    | .ret (.v (.b a0)) [] => some a0
    | _ => none
  goO := fun _ a0 k => k (.ret (.v (.b a0)) [])
  ecO := fun a0 => .ret (.v (.b a0)) []
theorem sp_tollbarref15_Under_ok : SpecOk sp_tollbarref15_Under := by
  refine ⟨fun a H i h => ?_, fun o x h => ?_, fun R e k => by kernel_rfl⟩
  · simp only [sp_tollbarref15_Under] at h ⊢; split at h <;> first | (cases h; exact ⟨rfl, rfl⟩) | (cases h; done)
  · simp only [sp_tollbarref15_Under] at h ⊢; split at h <;> first | (cases h; rfl) | (cases h; done)
theorem ok_tollbarref15_Under (κ : Nat) (m : Int) : EOk Tryd.prog C (G m) 13 (sp_tollbarref15_Under.entry (fun (a0, a1) => tollbarref15_Under κ a0 a1)) :=
  Spec.ok sp_tollbarref15_Under_ok C_ok mixed (gam40_ok κ m) (cut := (ct_tollbarref15_Under_5 κ)) (NR := (gcN 0 [0])) (NP := (gcN 0 [0])) (nB := 0) Tryd.func13 (c := (getBody Tryd.f13)) (by kernel_rfl) (by kernel_rfl) (fun i => by kernel_rfl) gcN_ok gcN_ok (cuts_by (l := [(pieceOf (.blk 0) (getBody Tryd.f13), cc_tollbarref15_Under_5 κ)]) (by kernel_rfl) (all_cons (cc_tollbarref15_Under_5_ok κ m) (all_nil))) (fun i => by kernel_rfl)
noncomputable def gam41 (κ : Nat) : Gam T := (gam40 κ).addS 13 sp_tollbarref15_Under (fun (a0, a1) => tollbarref15_Under κ a0 a1)
theorem gam41_ok (κ : Nat) (m : Int) : GOk Tryd.prog C (G m) (gam41 κ) := (gam40_ok κ m).addS (ok_tollbarref15_Under κ m)
def p_tollbarref10_Steps_0 : Piece T ((List ApiStep) × (List ApiStep) × Int) ((Unit) ⊕ (Bool)) where
  dcS env H ds := match env 0, env 1, env 5, H, ds with
    | (.v (.sl 46 a0)), (.v (.sl 46 a1)), (.v (.i .i64 a2)), [], [] => some (a0, a1, a2)
    | _, _, _, _, _ => none
  slS := fun (a0, a1, a2) => [(0, (.v (.sl 46 a0))), (1, (.v (.sl 46 a1))), (5, (.v (.i .i64 a2)))]
  obS := fun (a0, a1, a2) => []
  dsS := fun (a0, a1, a2) => []
  dcE x env H ds := match x, env 4, H, ds with
    | .normal, _, [], [] => some (.inl ())
    | .ret, (.v (.b a0)), [], [] => some (.inr a0)
    | _, _, _, _ => none
  exE := fun x => match x with
    | (.inl _) => .normal
    | (.inr a0) => .ret
  slE := fun x => match x with
    | (.inl _) => []
    | (.inr a0) => [(4, (.v (.b a0)))]
  obE := fun x => match x with
    | (.inl _) => []
    | (.inr a0) => []
  dsE := fun x => match x with
    | (.inl _) => []
    | (.inr a0) => []
  goE := fun _ x k => match x with
    | (.inl _) => k .normal [] [] []
    | (.inr a0) => k .ret [(4, (.v (.b a0)))] [] []
theorem p_tollbarref10_Steps_0_ok : PieceOk p_tollbarref10_Steps_0 := by
  refine ⟨fun env H ds s h => ?_, fun x env H ds e h => ?_, fun R e k => by rcases e with e | e <;> kernel_rfl⟩
  · simp only [p_tollbarref10_Steps_0] at h ⊢; split at h <;> first | (cases h; simp only [List.forall_mem_cons]; simp_all; done) | (cases h; done)
  · simp only [p_tollbarref10_Steps_0] at h ⊢; split at h <;> first | (cases h; simp only [List.forall_mem_cons]; simp_all; done) | (cases h; done)
theorem p_tollbarref10_Steps_0_ct (κ : Nat) (m : Int) : CutOk Tryd.prog C (G m) Tryd.f15.ntmps 0 (pieceOf (.blk 0) (getBody Tryd.f15)) (p_tollbarref10_Steps_0.cut (gcN 0 [0, 1, 5]) (tollbarref10_Steps.l0 κ κ)) :=
  Piece.loop p_tollbarref10_Steps_0_ok C_ok mixed (gam41_ok κ m) gcN_ok (xN_ok gcN_ok (ex_nil) gcN_ok gcN_ok) (cut := noCut) (X := (xN (gcN 0 []) [] (gcN 0 [4]) (gcN 0 [1000000]))) (id := 0) (body := bodyOf (pieceOf (.blk 0) (getBody Tryd.f15))) (cuts_by (l := []) (by kernel_rfl) (all_nil)) (f := tollbarref10_Steps.l0 κ) (fun s => by kernel_rfl) (fun k s => by kernel_rfl) κ
def cc_tollbarref10_Steps_1 (κ : Nat) : Cut T := p_tollbarref10_Steps_0.cut (gcN 0 [0, 1, 5]) (tollbarref10_Steps.l0 κ κ)
theorem cc_tollbarref10_Steps_1_ok (κ : Nat) (m : Int) : CutOk Tryd.prog C (G m) Tryd.f15.ntmps 0 (pieceOf (.blk 0) (getBody Tryd.f15)) (cc_tollbarref10_Steps_1 κ) := p_tollbarref10_Steps_0_ct κ m
def ct_tollbarref10_Steps_1 (κ : Nat) : Key → Option (Cut T) := addCut noCut (.blk 0) (cc_tollbarref10_Steps_1 κ)
def sp_tollbarref10_Steps : Spec T ((List ApiStep) × (List ApiStep)) (Bool) where
  dcI a H := match a, H with
    | [(.v (.sl 46 a0)), (.v (.sl 46 a1))], [] => some (a0, a1)
    | _, _ => none
  ecA := fun (a0, a1) => [(.v (.sl 46 a0)), (.v (.sl 46 a1))]
  ecH := fun (a0, a1) => []
  dcO o := match o with
    | .ret (.v (.b a0)) [] => some a0
    | _ => none
  goO := fun _ a0 k => k (.ret (.v (.b a0)) [])
  ecO := fun a0 => .ret (.v (.b a0)) []
theorem sp_tollbarref10_Steps_ok : SpecOk sp_tollbarref10_Steps := by
  refine ⟨fun a H i h => ?_, fun o x h => ?_, fun R e k => by kernel_rfl⟩
  · simp only [sp_tollbarref10_Steps] at h ⊢; split at h <;> first | (cases h; exact ⟨rfl, rfl⟩) | (cases h; done)
  · simp only [sp_tollbarref10_Steps] at h ⊢; split at h <;> first | (cases h; rfl) | (cases h; done)
theorem ok_tollbarref10_Steps (κ : Nat) (m : Int) : EOk Tryd.prog C (G m) 15 (sp_tollbarref10_Steps.entry (fun (a0, a1) => tollbarref10_Steps κ a0 a1)) :=
  Spec.ok sp_tollbarref10_Steps_ok C_ok mixed (gam41_ok κ m) (cut := (ct_tollbarref10_Steps_1 κ)) (NR := (gcN 0 [0])) (NP := (gcN 0 [0])) (nB := 0) Tryd.func15 (c := (getBody Tryd.f15)) (by kernel_rfl) (by kernel_rfl) (fun i => by kernel_rfl) gcN_ok gcN_ok (cuts_by (l := [(pieceOf (.blk 0) (getBody Tryd.f15), cc_tollbarref10_Steps_1 κ)]) (by kernel_rfl) (all_cons (cc_tollbarref10_Steps_1_ok κ m) (all_nil))) (fun i => by kernel_rfl)
noncomputable def gam42 (κ : Nat) : Gam T := (gam41 κ).addS 15 sp_tollbarref10_Steps (fun (a0, a1) => tollbarref10_Steps κ a0 a1)
theorem gam42_ok (κ : Nat) (m : Int) : GOk Tryd.prog C (G m) (gam42 κ) := (gam41_ok κ m).addS (ok_tollbarref10_Steps κ m)
def p_tollbarlaw15_PathShows_0 : Piece T (Int × (List ApiStep) × (List ApiStep)) (Int × (List ApiStep) × (List ApiStep) × Bool) where
  dcS env H ds := match env 0, env 1, env 2, H, ds with
    | (.v (.i .i64 a0)), (.v (.sl 46 a1)), (.v (.sl 46 a2)), [], [] => some (a0, a1, a2)
    | _, _, _, _, _ => none
  slS := fun (a0, a1, a2) => [(0, (.v (.i .i64 a0))), (1, (.v (.sl 46 a1))), (2, (.v (.sl 46 a2)))]
  obS := fun (a0, a1, a2) => []
  dsS := fun (a0, a1, a2) => []
  dcE x env H ds := match x, env 0, env 1, env 2, env 26, H, ds with
    | .normal, (.v (.i .i64 a0)), (.v (.sl 46 a1)), (.v (.sl 46 a2)), (.v (.b a3)), [], [] => some (a0, a1, a2, a3)
    | _, _, _, _, _, _, _ => none
  exE := fun (a0, a1, a2, a3) => .normal
  slE := fun (a0, a1, a2, a3) => [(0, (.v (.i .i64 a0))), (1, (.v (.sl 46 a1))), (2, (.v (.sl 46 a2))), (26, (.v (.b a3)))]
  obE := fun (a0, a1, a2, a3) => []
  dsE := fun (a0, a1, a2, a3) => []
  goE := fun _ (a0, a1, a2, a3) k => k .normal [(0, (.v (.i .i64 a0))), (1, (.v (.sl 46 a1))), (2, (.v (.sl 46 a2))), (26, (.v (.b a3)))] [] []
theorem p_tollbarlaw15_PathShows_0_ok : PieceOk p_tollbarlaw15_PathShows_0 := by
  refine ⟨fun env H ds s h => ?_, fun x env H ds e h => ?_, fun R e k => by kernel_rfl⟩
  · simp only [p_tollbarlaw15_PathShows_0] at h ⊢; split at h <;> first | (cases h; simp only [List.forall_mem_cons]; simp_all; done) | (cases h; done)
  · simp only [p_tollbarlaw15_PathShows_0] at h ⊢; split at h <;> first | (cases h; simp only [List.forall_mem_cons]; simp_all; done) | (cases h; done)
theorem p_tollbarlaw15_PathShows_0_ct (κ : Nat) (m : Int) : CutOk Tryd.prog C (G m) Tryd.f3.ntmps 0 (pieceOf (.reg 4) (getBody Tryd.f3)) (p_tollbarlaw15_PathShows_0.cut (gcN 0 [0, 1, 2]) (fun (a0, a1, a2) => tollbarlaw15_PathShows.v0 κ a0 a1 a2)) :=
  Piece.join p_tollbarlaw15_PathShows_0_ok C_ok mixed (gam32_ok κ m) gcN_ok (xN_ok gcN_ok (ex_nil) gcN_ok gcN_ok) (cut := noCut) (X := (xN (gcN 0 [0, 1, 2, 26]) [] (gcN 0 [6]) (gcN 0 [1000000]))) (cuts_by (l := []) (by kernel_rfl) (all_nil)) (fun s => by kernel_rfl)
def cc_tollbarlaw15_PathShows_1 (κ : Nat) : Cut T := p_tollbarlaw15_PathShows_0.cut (gcN 0 [0, 1, 2]) (fun (a0, a1, a2) => tollbarlaw15_PathShows.v0 κ a0 a1 a2)
theorem cc_tollbarlaw15_PathShows_1_ok (κ : Nat) (m : Int) : CutOk Tryd.prog C (G m) Tryd.f3.ntmps 0 (pieceOf (.reg 4) (getBody Tryd.f3)) (cc_tollbarlaw15_PathShows_1 κ) := p_tollbarlaw15_PathShows_0_ct κ m
def ct_tollbarlaw15_PathShows_1 (κ : Nat) : Key → Option (Cut T) := addCut noCut (.reg 4) (cc_tollbarlaw15_PathShows_1 κ)
def p_tollbarlaw15_PathShows_2 : Piece T ((List ApiStep) × (List ApiStep) × ByteArray × Int × Int × ByteArray × Int × Int × Int × Int × (List ByteArray) × Bool × Int × (List SpecSpec) × ByteArray × Int × Int × Int × Int × (List ByteArray) × Bool × Int × (List Tollbarref07S)) ((List ApiStep) × ByteArray × Bool) where
  dcS env H ds := match env 1, env 2, env 8, env 9, env 10, env 11, env 12, H, ds with
    | (.v (.sl 46 a0)), (.v (.sl 46 a1)), (.v (.s a2)), (.ptr 0 0), (.v (.i .i64 a3)), (.ptr 1 0), (.v (.i .i64 a4)), [(.cells 29 none [(.v (.s a5)), (.v (.i .i64 a6)), (.v (.i .i64 a7)), (.v (.i .u64 a8)), (.v (.i .u64 a9)), (.v (.sl 9 a10)), (.v (.b a11)), (.v (.i .i64 a12)), (.v (.sl 29 a13))]), (.cells 35 none [(.v (.s a14)), (.v (.i .i64 a15)), (.v (.i .i64 a16)), (.v (.i .u64 a17)), (.v (.i .u64 a18)), (.v (.sl 9 a19)), (.v (.b a20)), (.v (.i .i64 a21)), (.v (.sl 35 a22))])], [] => some (a0, a1, a2, a3, a4, a5, a6, a7, a8, a9, a10, a11, a12, a13, a14, a15, a16, a17, a18, a19, a20, a21, a22)
    | _, _, _, _, _, _, _, _, _ => none
  slS := fun (a0, a1, a2, a3, a4, a5, a6, a7, a8, a9, a10, a11, a12, a13, a14, a15, a16, a17, a18, a19, a20, a21, a22) => [(1, (.v (.sl 46 a0))), (2, (.v (.sl 46 a1))), (8, (.v (.s a2))), (9, (.ptr 0 0)), (10, (.v (.i .i64 a3))), (11, (.ptr 1 0)), (12, (.v (.i .i64 a4)))]
  obS := fun (a0, a1, a2, a3, a4, a5, a6, a7, a8, a9, a10, a11, a12, a13, a14, a15, a16, a17, a18, a19, a20, a21, a22) => [(.cells 29 none [(.v (.s a5)), (.v (.i .i64 a6)), (.v (.i .i64 a7)), (.v (.i .u64 a8)), (.v (.i .u64 a9)), (.v (.sl 9 a10)), (.v (.b a11)), (.v (.i .i64 a12)), (.v (.sl 29 a13))]), (.cells 35 none [(.v (.s a14)), (.v (.i .i64 a15)), (.v (.i .i64 a16)), (.v (.i .u64 a17)), (.v (.i .u64 a18)), (.v (.sl 9 a19)), (.v (.b a20)), (.v (.i .i64 a21)), (.v (.sl 35 a22))])]
  dsS := fun (a0, a1, a2, a3, a4, a5, a6, a7, a8, a9, a10, a11, a12, a13, a14, a15, a16, a17, a18, a19, a20, a21, a22) => []
  dcE x env H ds := match x, env 1, env 8, env 65, H, ds with
    | .normal, (.v (.sl 46 a0)), (.v (.s a1)), (.v (.b a2)), [], [] => some (a0, a1, a2)
    | _, _, _, _, _, _ => none
  exE := fun (a0, a1, a2) => .normal
  slE := fun (a0, a1, a2) => [(1, (.v (.sl 46 a0))), (8, (.v (.s a1))), (65, (.v (.b a2)))]
  obE := fun (a0, a1, a2) => []
  dsE := fun (a0, a1, a2) => []
  goE := fun _ (a0, a1, a2) k => k .normal [(1, (.v (.sl 46 a0))), (8, (.v (.s a1))), (65, (.v (.b a2)))] [] []
theorem p_tollbarlaw15_PathShows_2_ok : PieceOk p_tollbarlaw15_PathShows_2 := by
  refine ⟨fun env H ds s h => ?_, fun x env H ds e h => ?_, fun R e k => by kernel_rfl⟩
  · simp only [p_tollbarlaw15_PathShows_2] at h ⊢; split at h <;> first | (cases h; simp only [List.forall_mem_cons]; simp_all; done) | (cases h; done)
  · simp only [p_tollbarlaw15_PathShows_2] at h ⊢; split at h <;> first | (cases h; simp only [List.forall_mem_cons]; simp_all; done) | (cases h; done)
theorem p_tollbarlaw15_PathShows_2_ct (κ : Nat) (m : Int) : CutOk Tryd.prog C (G m) Tryd.f3.ntmps 0 (pieceOf (.reg 9) (getBody Tryd.f3)) (p_tollbarlaw15_PathShows_2.cut (gcN 0 [1, 2, 8, 9, 10, 11, 12]) (fun (a0, a1, a2, a3, a4, a5, a6, a7, a8, a9, a10, a11, a12, a13, a14, a15, a16, a17, a18, a19, a20, a21, a22) => tollbarlaw15_PathShows.v2 κ a0 a1 a2 a3 a4 a5 a6 a7 a8 a9 a10 a11 a12 a13 a14 a15 a16 a17 a18 a19 a20 a21 a22)) :=
  Piece.join p_tollbarlaw15_PathShows_2_ok C_ok mixed (gam41_ok κ m) gcN_ok (xN_ok gcN_ok (ex_nil) gcN_ok gcN_ok) (cut := (ct_tollbarlaw15_PathShows_1 κ)) (X := (xN (gcN 0 [1, 8, 65]) [] (gcN 0 [6]) (gcN 0 [1000000]))) (cuts_by (l := []) (by kernel_rfl) (all_nil)) (fun s => by kernel_rfl)
def cc_tollbarlaw15_PathShows_3 (κ : Nat) : Cut T := p_tollbarlaw15_PathShows_2.cut (gcN 0 [1, 2, 8, 9, 10, 11, 12]) (fun (a0, a1, a2, a3, a4, a5, a6, a7, a8, a9, a10, a11, a12, a13, a14, a15, a16, a17, a18, a19, a20, a21, a22) => tollbarlaw15_PathShows.v2 κ a0 a1 a2 a3 a4 a5 a6 a7 a8 a9 a10 a11 a12 a13 a14 a15 a16 a17 a18 a19 a20 a21 a22)
theorem cc_tollbarlaw15_PathShows_3_ok (κ : Nat) (m : Int) : CutOk Tryd.prog C (G m) Tryd.f3.ntmps 0 (pieceOf (.reg 9) (getBody Tryd.f3)) (cc_tollbarlaw15_PathShows_3 κ) := p_tollbarlaw15_PathShows_2_ct κ m
def ct_tollbarlaw15_PathShows_3 (κ : Nat) : Key → Option (Cut T) := addCut (ct_tollbarlaw15_PathShows_1 κ) (.reg 9) (cc_tollbarlaw15_PathShows_3 κ)
def p_tollbarlaw15_PathShows_4 : Piece T ((List ApiStep) × ByteArray × Int × Int × (List ApiStep)) (Bool) where
  dcS env H ds := match env 1, env 8, env 13, env 14, env 15, H, ds with
    | (.v (.sl 46 a0)), (.v (.s a1)), (.own 0), (.v (.i .i64 a2)), (.v (.i .i64 a3)), [(.row 46 a4 true)], [] => some (a0, a1, a2, a3, a4)
    | _, _, _, _, _, _, _ => none
  slS := fun (a0, a1, a2, a3, a4) => [(1, (.v (.sl 46 a0))), (8, (.v (.s a1))), (13, (.own 0)), (14, (.v (.i .i64 a2))), (15, (.v (.i .i64 a3)))]
  obS := fun (a0, a1, a2, a3, a4) => [(.row 46 a4 true)]
  dsS := fun (a0, a1, a2, a3, a4) => []
  dcE x env H ds := match x, env 6, H, ds with
    | .normal, (.v (.b a0)), [], [] => some a0
    | _, _, _, _ => none
  exE := fun a0 => .normal
  slE := fun a0 => [(6, (.v (.b a0)))]
  obE := fun a0 => []
  dsE := fun a0 => []
  goE := fun _ a0 k => k .normal [(6, (.v (.b a0)))] [] []
theorem p_tollbarlaw15_PathShows_4_ok : PieceOk p_tollbarlaw15_PathShows_4 := by
  refine ⟨fun env H ds s h => ?_, fun x env H ds e h => ?_, fun R e k => by kernel_rfl⟩
  · simp only [p_tollbarlaw15_PathShows_4] at h ⊢; split at h <;> first | (cases h; simp only [List.forall_mem_cons]; simp_all; done) | (cases h; done)
  · simp only [p_tollbarlaw15_PathShows_4] at h ⊢; split at h <;> first | (cases h; simp only [List.forall_mem_cons]; simp_all; done) | (cases h; done)
theorem p_tollbarlaw15_PathShows_4_ct (κ : Nat) (m : Int) : CutOk Tryd.prog C (G m) Tryd.f3.ntmps 0 (pieceOf (.reg 12) (getBody Tryd.f3)) (p_tollbarlaw15_PathShows_4.cut (gcN 0 [1, 8, 13, 14, 15]) (fun (a0, a1, a2, a3, a4) => tollbarlaw15_PathShows.v4 κ a0 a1 a2 a3 a4)) :=
  Piece.join p_tollbarlaw15_PathShows_4_ok C_ok mixed (gam42_ok κ m) gcN_ok (xN_ok gcN_ok (ex_nil) gcN_ok gcN_ok) (cut := (ct_tollbarlaw15_PathShows_3 κ)) (X := (xN (gcN 0 [6]) [] (gcN 0 [6]) (gcN 0 [1000000]))) (cuts_by (l := []) (by kernel_rfl) (all_nil)) (fun s => by kernel_rfl)
def cc_tollbarlaw15_PathShows_5 (κ : Nat) : Cut T := p_tollbarlaw15_PathShows_4.cut (gcN 0 [1, 8, 13, 14, 15]) (fun (a0, a1, a2, a3, a4) => tollbarlaw15_PathShows.v4 κ a0 a1 a2 a3 a4)
theorem cc_tollbarlaw15_PathShows_5_ok (κ : Nat) (m : Int) : CutOk Tryd.prog C (G m) Tryd.f3.ntmps 0 (pieceOf (.reg 12) (getBody Tryd.f3)) (cc_tollbarlaw15_PathShows_5 κ) := p_tollbarlaw15_PathShows_4_ct κ m
def ct_tollbarlaw15_PathShows_5 (κ : Nat) : Key → Option (Cut T) := addCut (ct_tollbarlaw15_PathShows_3 κ) (.reg 12) (cc_tollbarlaw15_PathShows_5 κ)
def sp_tollbarlaw15_PathShows : Spec T (Int × (List ApiStep) × (List ApiStep)) (Bool) where
  dcI a H := match a, H with
    | [(.v (.i .i64 a0)), (.v (.sl 46 a1)), (.v (.sl 46 a2))], [] => some (a0, a1, a2)
    | _, _ => none
  ecA := fun (a0, a1, a2) => [(.v (.i .i64 a0)), (.v (.sl 46 a1)), (.v (.sl 46 a2))]
  ecH := fun (a0, a1, a2) => []
  dcO o := match o with
    | .ret (.v (.b a0)) [] => some a0
    | _ => none
  goO := fun _ a0 k => k (.ret (.v (.b a0)) [])
  ecO := fun a0 => .ret (.v (.b a0)) []
theorem sp_tollbarlaw15_PathShows_ok : SpecOk sp_tollbarlaw15_PathShows := by
  refine ⟨fun a H i h => ?_, fun o x h => ?_, fun R e k => by kernel_rfl⟩
  · simp only [sp_tollbarlaw15_PathShows] at h ⊢; split at h <;> first | (cases h; exact ⟨rfl, rfl⟩) | (cases h; done)
  · simp only [sp_tollbarlaw15_PathShows] at h ⊢; split at h <;> first | (cases h; rfl) | (cases h; done)
theorem ok_tollbarlaw15_PathShows (κ : Nat) (m : Int) : EOk Tryd.prog C (G m) 3 (sp_tollbarlaw15_PathShows.entry (fun (a0, a1, a2) => tollbarlaw15_PathShows κ a0 a1 a2)) :=
  Spec.ok sp_tollbarlaw15_PathShows_ok C_ok mixed (gam42_ok κ m) (cut := (ct_tollbarlaw15_PathShows_5 κ)) (NR := (gcN 0 [0])) (NP := (gcN 0 [0])) (nB := 0) Tryd.func3 (c := (getBody Tryd.f3)) (by kernel_rfl) (by kernel_rfl) (fun i => by kernel_rfl) gcN_ok gcN_ok (cuts_by (l := [(pieceOf (.reg 4) (getBody Tryd.f3), cc_tollbarlaw15_PathShows_1 κ), (pieceOf (.reg 9) (getBody Tryd.f3), cc_tollbarlaw15_PathShows_3 κ), (pieceOf (.reg 12) (getBody Tryd.f3), cc_tollbarlaw15_PathShows_5 κ)]) (by kernel_rfl) (all_cons (cc_tollbarlaw15_PathShows_1_ok κ m) (all_cons (cc_tollbarlaw15_PathShows_3_ok κ m) (all_cons (cc_tollbarlaw15_PathShows_5_ok κ m) (all_nil))))) (fun i => by kernel_rfl)
noncomputable def gam43 (κ : Nat) : Gam T := (gam42 κ).addS 3 sp_tollbarlaw15_PathShows (fun (a0, a1, a2) => tollbarlaw15_PathShows κ a0 a1 a2)
theorem gam43_ok (κ : Nat) (m : Int) : GOk Tryd.prog C (G m) (gam43 κ) := (gam42_ok κ m).addS (ok_tollbarlaw15_PathShows κ m)
end Go.Proofs.YtooefkbecoopdaaDoor.Ev.Seat
