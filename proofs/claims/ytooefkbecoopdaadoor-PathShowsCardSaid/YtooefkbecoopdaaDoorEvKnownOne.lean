import Derived.Test.YtooefkbecoopdaaDoorEvPlain
set_option linter.unusedVariables false
set_option linter.unusedSimpArgs false
namespace Go.Proofs.YtooefkbecoopdaaDoor.Ev.Seat
open Go Ev Go.Proofs
noncomputable def gamB (κ : Nat) : Gam T := ((gamLib gam0 κ).addS 20 sp_spec_Root spec_Root).give []
theorem gamB_ok (κ : Nat) (m : Int) : GOk Tryd.prog C (G m) (gamB κ) := ((gamLib_ok κ m gam0_ok).addS (ok_spec_Root m)).give
def p_internal_stringslite_HasPrefix_0 : Piece T (ByteArray × ByteArray) (Bool) where
  dcS env H ds := match env 0, env 1, H, ds with
    | (.v (.s a0)), (.v (.s a1)), [], [] => some (a0, a1)
    | _, _, _, _ => none
  slS := fun (a0, a1) => [(0, (.v (.s a0))), (1, (.v (.s a1)))]
  obS := fun (a0, a1) => []
  dsS := fun (a0, a1) => []
  dcE x env H ds := match x, env 4, H, ds with
    | .normal, (.v (.b a0)), [], [] => some a0
    | _, _, _, _ => none
  exE := fun a0 => .normal
  slE := fun a0 => [(4, (.v (.b a0)))]
  obE := fun a0 => []
  dsE := fun a0 => []
  goE := fun _ a0 k => k .normal [(4, (.v (.b a0)))] [] []
theorem p_internal_stringslite_HasPrefix_0_ok : PieceOk p_internal_stringslite_HasPrefix_0 := by
  refine ⟨fun env H ds s h => ?_, fun x env H ds e h => ?_, fun R e k => by kernel_rfl⟩
  · simp only [p_internal_stringslite_HasPrefix_0] at h ⊢; split at h <;> first | (cases h; simp only [List.forall_mem_cons]; simp_all; done) | (cases h; done)
  · simp only [p_internal_stringslite_HasPrefix_0] at h ⊢; split at h <;> first | (cases h; simp only [List.forall_mem_cons]; simp_all; done) | (cases h; done)
theorem p_internal_stringslite_HasPrefix_0_ct (κ : Nat) (m : Int) : CutOk Tryd.prog C (G m) Tryd.f56.ntmps 0 (pieceOf (.reg 1) (getBody Tryd.f56)) (p_internal_stringslite_HasPrefix_0.cut (gcN 0 [0, 1]) (fun (a0, a1) => internal_stringslite_HasPrefix.v0 κ a0 a1)) :=
  Piece.join p_internal_stringslite_HasPrefix_0_ok C_ok mixed (gamB_ok κ m) gcN_ok (xN_ok gcN_ok (ex_nil) gcN_ok gcN_ok) (cut := noCut) (X := (xN (gcN 0 [4]) [] (gcN 0 [4]) (gcN 0 [1000000]))) (cuts_by (l := []) (by kernel_rfl) (all_nil)) (fun s => by kernel_rfl)
def cc_internal_stringslite_HasPrefix_1 (κ : Nat) : Cut T := p_internal_stringslite_HasPrefix_0.cut (gcN 0 [0, 1]) (fun (a0, a1) => internal_stringslite_HasPrefix.v0 κ a0 a1)
theorem cc_internal_stringslite_HasPrefix_1_ok (κ : Nat) (m : Int) : CutOk Tryd.prog C (G m) Tryd.f56.ntmps 0 (pieceOf (.reg 1) (getBody Tryd.f56)) (cc_internal_stringslite_HasPrefix_1 κ) := p_internal_stringslite_HasPrefix_0_ct κ m
def ct_internal_stringslite_HasPrefix_1 (κ : Nat) : Key → Option (Cut T) := addCut noCut (.reg 1) (cc_internal_stringslite_HasPrefix_1 κ)
def sp_internal_stringslite_HasPrefix : Spec T (ByteArray × ByteArray) (Bool) where
  dcI a H := match a, H with
    | [(.v (.s a0)), (.v (.s a1))], [] => some (a0, a1)
    | _, _ => none
  ecA := fun (a0, a1) => [(.v (.s a0)), (.v (.s a1))]
  ecH := fun (a0, a1) => []
  dcO o := match o with
    | .ret (.v (.b a0)) [] => some a0
    | _ => none
  goO := fun _ a0 k => k (.ret (.v (.b a0)) [])
  ecO := fun a0 => .ret (.v (.b a0)) []
theorem sp_internal_stringslite_HasPrefix_ok : SpecOk sp_internal_stringslite_HasPrefix := by
  refine ⟨fun a H i h => ?_, fun o x h => ?_, fun R e k => by kernel_rfl⟩
  · simp only [sp_internal_stringslite_HasPrefix] at h ⊢; split at h <;> first | (cases h; exact ⟨rfl, rfl⟩) | (cases h; done)
  · simp only [sp_internal_stringslite_HasPrefix] at h ⊢; split at h <;> first | (cases h; rfl) | (cases h; done)
theorem ok_internal_stringslite_HasPrefix (κ : Nat) (m : Int) : EOk Tryd.prog C (G m) 56 (sp_internal_stringslite_HasPrefix.entry (fun (a0, a1) => internal_stringslite_HasPrefix κ a0 a1)) :=
  Spec.ok sp_internal_stringslite_HasPrefix_ok C_ok mixed (gamB_ok κ m) (cut := (ct_internal_stringslite_HasPrefix_1 κ)) (NR := (gcN 0 [0])) (NP := (gcN 0 [0])) (nB := 0) Tryd.func56 (c := (getBody Tryd.f56)) (by kernel_rfl) (by kernel_rfl) (fun i => by kernel_rfl) gcN_ok gcN_ok (cuts_by (l := [(pieceOf (.reg 1) (getBody Tryd.f56), cc_internal_stringslite_HasPrefix_1 κ)]) (by kernel_rfl) (all_cons (cc_internal_stringslite_HasPrefix_1_ok κ m) (all_nil))) (fun i => by kernel_rfl)
noncomputable def gam1 (κ : Nat) : Gam T := (gamB κ).addS 56 sp_internal_stringslite_HasPrefix (fun (a0, a1) => internal_stringslite_HasPrefix κ a0 a1)
theorem gam1_ok (κ : Nat) (m : Int) : GOk Tryd.prog C (G m) (gam1 κ) := (gamB_ok κ m).addS (ok_internal_stringslite_HasPrefix κ m)
def sp_strings_HasPrefix : Spec T (ByteArray × ByteArray) (Bool) where
  dcI a H := match a, H with
    | [(.v (.s a0)), (.v (.s a1))], [] => some (a0, a1)
    | _, _ => none
  ecA := fun (a0, a1) => [(.v (.s a0)), (.v (.s a1))]
  ecH := fun (a0, a1) => []
  dcO o := match o with
    | .ret (.v (.b a0)) [] => some a0
    | _ => none
  goO := fun _ a0 k => k (.ret (.v (.b a0)) [])
  ecO := fun a0 => .ret (.v (.b a0)) []
theorem sp_strings_HasPrefix_ok : SpecOk sp_strings_HasPrefix := by
  refine ⟨fun a H i h => ?_, fun o x h => ?_, fun R e k => by kernel_rfl⟩
  · simp only [sp_strings_HasPrefix] at h ⊢; split at h <;> first | (cases h; exact ⟨rfl, rfl⟩) | (cases h; done)
  · simp only [sp_strings_HasPrefix] at h ⊢; split at h <;> first | (cases h; rfl) | (cases h; done)
theorem ok_strings_HasPrefix (κ : Nat) (m : Int) : EOk Tryd.prog C (G m) 34 (sp_strings_HasPrefix.entry (fun (a0, a1) => strings_HasPrefix κ a0 a1)) :=
  Spec.ok sp_strings_HasPrefix_ok C_ok mixed (gam1_ok κ m) (cut := noCut) (NR := (gcN 0 [0])) (NP := (gcN 0 [0])) (nB := 0) Tryd.func34 (c := (getBody Tryd.f34)) (by kernel_rfl) (by kernel_rfl) (fun i => by kernel_rfl) gcN_ok gcN_ok (cuts_by (l := []) (by kernel_rfl) (all_nil)) (fun i => by kernel_rfl)
noncomputable def gam2 (κ : Nat) : Gam T := (gam1 κ).addS 34 sp_strings_HasPrefix (fun (a0, a1) => strings_HasPrefix κ a0 a1)
theorem gam2_ok (κ : Nat) (m : Int) : GOk Tryd.prog C (G m) (gam2 κ) := (gam1_ok κ m).addS (ok_strings_HasPrefix κ m)
def p_path_reader_fail_0 : Piece T (Int × Bool × ByteArray × Int × Int × Int) (ByteArray × Int × Int × Int) where
  dcS env H ds := match env 0, env 1, env 8, H, ds with
    | (.ptr 0 0), (.v (.i .i64 a0)), (.v (.b a1)), [(.cells 63 none [(.v (.s a2)), (.v (.i .i64 a3)), (.v (.i .i64 a4)), (.v (.i .i64 a5))])], [] => some (a0, a1, a2, a3, a4, a5)
    | _, _, _, _, _ => none
  slS := fun (a0, a1, a2, a3, a4, a5) => [(0, (.ptr 0 0)), (1, (.v (.i .i64 a0))), (8, (.v (.b a1)))]
  obS := fun (a0, a1, a2, a3, a4, a5) => [(.cells 63 none [(.v (.s a2)), (.v (.i .i64 a3)), (.v (.i .i64 a4)), (.v (.i .i64 a5))])]
  dsS := fun (a0, a1, a2, a3, a4, a5) => []
  dcE x env H ds := match x, H, ds with
    | .normal, [(.cells 63 none [(.v (.s a0)), (.v (.i .i64 a1)), (.v (.i .i64 a2)), (.v (.i .i64 a3))])], [] => some (a0, a1, a2, a3)
    | _, _, _ => none
  exE := fun (a0, a1, a2, a3) => .normal
  slE := fun (a0, a1, a2, a3) => []
  obE := fun (a0, a1, a2, a3) => [(.cells 63 none [(.v (.s a0)), (.v (.i .i64 a1)), (.v (.i .i64 a2)), (.v (.i .i64 a3))])]
  dsE := fun (a0, a1, a2, a3) => []
  goE := fun _ (a0, a1, a2, a3) k => k .normal [] [(.cells 63 none [(.v (.s a0)), (.v (.i .i64 a1)), (.v (.i .i64 a2)), (.v (.i .i64 a3))])] []
theorem p_path_reader_fail_0_ok : PieceOk p_path_reader_fail_0 := by
  refine ⟨fun env H ds s h => ?_, fun x env H ds e h => ?_, fun R e k => by kernel_rfl⟩
  · simp only [p_path_reader_fail_0] at h ⊢; split at h <;> first | (cases h; simp only [List.forall_mem_cons]; simp_all; done) | (cases h; done)
  · simp only [p_path_reader_fail_0] at h ⊢; split at h <;> first | (cases h; simp only [List.forall_mem_cons]; simp_all; done) | (cases h; done)
theorem p_path_reader_fail_0_ct (κ : Nat) (m : Int) : CutOk Tryd.prog C (G m) Tryd.f35.ntmps 1 (pieceOf (.cnd 8 2) (getBody Tryd.f35)) (p_path_reader_fail_0.cut (gcN 1 [0, 1, 8]) (fun (a0, a1, a2, a3, a4, a5) => path_reader_fail.v0 κ a0 a1 a2 a3 a4 a5)) :=
  Piece.join p_path_reader_fail_0_ok C_ok mixed (gam2_ok κ m) gcN_ok (xN_ok gcN_ok (ex_nil) gcN_ok gcN_ok) (cut := noCut) (X := (xN (gcN 1 []) [] (gcN 1 []) (gcN 1 [1000000]))) (cuts_by (l := []) (by kernel_rfl) (all_nil)) (fun s => by kernel_rfl)
def cc_path_reader_fail_1 (κ : Nat) : Cut T := p_path_reader_fail_0.cut (gcN 1 [0, 1, 8]) (fun (a0, a1, a2, a3, a4, a5) => path_reader_fail.v0 κ a0 a1 a2 a3 a4 a5)
theorem cc_path_reader_fail_1_ok (κ : Nat) (m : Int) : CutOk Tryd.prog C (G m) Tryd.f35.ntmps 1 (pieceOf (.cnd 8 2) (getBody Tryd.f35)) (cc_path_reader_fail_1 κ) := p_path_reader_fail_0_ct κ m
def ct_path_reader_fail_1 (κ : Nat) : Key → Option (Cut T) := addCut noCut (.cnd 8 2) (cc_path_reader_fail_1 κ)
def sp_path_reader_fail : Spec T (Int × ByteArray × Int × Int × Int) (ByteArray × Int × Int × Int) where
  dcI a H := match a, H with
    | [(.ptr 0 0), (.v (.i .i64 a0))], [(.cells 63 none [(.v (.s a1)), (.v (.i .i64 a2)), (.v (.i .i64 a3)), (.v (.i .i64 a4))])] => some (a0, a1, a2, a3, a4)
    | _, _ => none
  ecA := fun (a0, a1, a2, a3, a4) => [(.ptr 0 0), (.v (.i .i64 a0))]
  ecH := fun (a0, a1, a2, a3, a4) => [(.cells 63 none [(.v (.s a1)), (.v (.i .i64 a2)), (.v (.i .i64 a3)), (.v (.i .i64 a4))])]
  dcO o := match o with
    | .ret (.tup []) [(.cells 63 none [(.v (.s a0)), (.v (.i .i64 a1)), (.v (.i .i64 a2)), (.v (.i .i64 a3))])] => some (a0, a1, a2, a3)
    | _ => none
  goO := fun _ (a0, a1, a2, a3) k => k (.ret (.tup []) [(.cells 63 none [(.v (.s a0)), (.v (.i .i64 a1)), (.v (.i .i64 a2)), (.v (.i .i64 a3))])])
  ecO := fun (a0, a1, a2, a3) => .ret (.tup []) [(.cells 63 none [(.v (.s a0)), (.v (.i .i64 a1)), (.v (.i .i64 a2)), (.v (.i .i64 a3))])]
theorem sp_path_reader_fail_ok : SpecOk sp_path_reader_fail := by
  refine ⟨fun a H i h => ?_, fun o x h => ?_, fun R e k => by kernel_rfl⟩
  · simp only [sp_path_reader_fail] at h ⊢; split at h <;> first | (cases h; exact ⟨rfl, rfl⟩) | (cases h; done)
  · simp only [sp_path_reader_fail] at h ⊢; split at h <;> first | (cases h; rfl) | (cases h; done)
theorem ok_path_reader_fail (κ : Nat) (m : Int) : EOk Tryd.prog C (G m) 35 (sp_path_reader_fail.entry (fun (a0, a1, a2, a3, a4) => path_reader_fail κ a0 a1 a2 a3 a4)) :=
  Spec.ok sp_path_reader_fail_ok C_ok mixed (gam2_ok κ m) (cut := (ct_path_reader_fail_1 κ)) (NR := (gcN 1 [0])) (NP := (gcN 1 [0])) (nB := 1) Tryd.func35 (c := (getBody Tryd.f35)) (by kernel_rfl) (by kernel_rfl) (fun i => by kernel_rfl) gcN_ok gcN_ok (cuts_by (l := [(pieceOf (.cnd 8 2) (getBody Tryd.f35), cc_path_reader_fail_1 κ)]) (by kernel_rfl) (all_cons (cc_path_reader_fail_1_ok κ m) (all_nil))) (fun i => by kernel_rfl)
noncomputable def gam3 (κ : Nat) : Gam T := (gam2 κ).addS 35 sp_path_reader_fail (fun (a0, a1, a2, a3, a4) => path_reader_fail κ a0 a1 a2 a3 a4)
theorem gam3_ok (κ : Nat) (m : Int) : GOk Tryd.prog C (G m) (gam3 κ) := (gam2_ok κ m).addS (ok_path_reader_fail κ m)
def sp_internal_stringslite_CutPrefix : Spec T (ByteArray × ByteArray) (ByteArray × Bool) where
  dcI a H := match a, H with
    | [(.v (.s a0)), (.v (.s a1))], [] => some (a0, a1)
    | _, _ => none
  ecA := fun (a0, a1) => [(.v (.s a0)), (.v (.s a1))]
  ecH := fun (a0, a1) => []
  dcO o := match o with
    | .ret (.tup [(.v (.s a0)), (.v (.b a1))]) [] => some (a0, a1)
    | _ => none
  goO := fun _ (a0, a1) k => k (.ret (.tup [(.v (.s a0)), (.v (.b a1))]) [])
  ecO := fun (a0, a1) => .ret (.tup [(.v (.s a0)), (.v (.b a1))]) []
theorem sp_internal_stringslite_CutPrefix_ok : SpecOk sp_internal_stringslite_CutPrefix := by
  refine ⟨fun a H i h => ?_, fun o x h => ?_, fun R e k => by kernel_rfl⟩
  · simp only [sp_internal_stringslite_CutPrefix] at h ⊢; split at h <;> first | (cases h; exact ⟨rfl, rfl⟩) | (cases h; done)
  · simp only [sp_internal_stringslite_CutPrefix] at h ⊢; split at h <;> first | (cases h; rfl) | (cases h; done)
theorem ok_internal_stringslite_CutPrefix (κ : Nat) (m : Int) : EOk Tryd.prog C (G m) 66 (sp_internal_stringslite_CutPrefix.entry (fun (a0, a1) => internal_stringslite_CutPrefix κ a0 a1)) :=
  Spec.ok sp_internal_stringslite_CutPrefix_ok C_ok mixed (gam3_ok κ m) (cut := noCut) (NR := (gcN 0 [0])) (NP := (gcN 0 [0])) (nB := 0) Tryd.func66 (c := (getBody Tryd.f66)) (by kernel_rfl) (by kernel_rfl) (fun i => by kernel_rfl) gcN_ok gcN_ok (cuts_by (l := []) (by kernel_rfl) (all_nil)) (fun i => by kernel_rfl)
noncomputable def gam4 (κ : Nat) : Gam T := (gam3 κ).addS 66 sp_internal_stringslite_CutPrefix (fun (a0, a1) => internal_stringslite_CutPrefix κ a0 a1)
theorem gam4_ok (κ : Nat) (m : Int) : GOk Tryd.prog C (G m) (gam4 κ) := (gam3_ok κ m).addS (ok_internal_stringslite_CutPrefix κ m)
def sp_strings_CutPrefix : Spec T (ByteArray × ByteArray) (ByteArray × Bool) where
  dcI a H := match a, H with
    | [(.v (.s a0)), (.v (.s a1))], [] => some (a0, a1)
    | _, _ => none
  ecA := fun (a0, a1) => [(.v (.s a0)), (.v (.s a1))]
  ecH := fun (a0, a1) => []
  dcO o := match o with
    | .ret (.tup [(.v (.s a0)), (.v (.b a1))]) [] => some (a0, a1)
    | _ => none
  goO := fun _ (a0, a1) k => k (.ret (.tup [(.v (.s a0)), (.v (.b a1))]) [])
  ecO := fun (a0, a1) => .ret (.tup [(.v (.s a0)), (.v (.b a1))]) []
theorem sp_strings_CutPrefix_ok : SpecOk sp_strings_CutPrefix := by
  refine ⟨fun a H i h => ?_, fun o x h => ?_, fun R e k => by kernel_rfl⟩
  · simp only [sp_strings_CutPrefix] at h ⊢; split at h <;> first | (cases h; exact ⟨rfl, rfl⟩) | (cases h; done)
  · simp only [sp_strings_CutPrefix] at h ⊢; split at h <;> first | (cases h; rfl) | (cases h; done)
theorem ok_strings_CutPrefix (κ : Nat) (m : Int) : EOk Tryd.prog C (G m) 57 (sp_strings_CutPrefix.entry (fun (a0, a1) => strings_CutPrefix κ a0 a1)) :=
  Spec.ok sp_strings_CutPrefix_ok C_ok mixed (gam4_ok κ m) (cut := noCut) (NR := (gcN 0 [0])) (NP := (gcN 0 [0])) (nB := 0) Tryd.func57 (c := (getBody Tryd.f57)) (by kernel_rfl) (by kernel_rfl) (fun i => by kernel_rfl) gcN_ok gcN_ok (cuts_by (l := []) (by kernel_rfl) (all_nil)) (fun i => by kernel_rfl)
noncomputable def gam5 (κ : Nat) : Gam T := (gam4 κ).addS 57 sp_strings_CutPrefix (fun (a0, a1) => strings_CutPrefix κ a0 a1)
theorem gam5_ok (κ : Nat) (m : Int) : GOk Tryd.prog C (G m) (gam5 κ) := (gam4_ok κ m).addS (ok_strings_CutPrefix κ m)
def sp_path_reader_sign : Spec T (ByteArray × ByteArray × Int × Int × Int) (ByteArray × Int × Int × Int) where
  dcI a H := match a, H with
    | [(.ptr 0 0), (.v (.s a0))], [(.cells 63 none [(.v (.s a1)), (.v (.i .i64 a2)), (.v (.i .i64 a3)), (.v (.i .i64 a4))])] => some (a0, a1, a2, a3, a4)
    | _, _ => none
  ecA := fun (a0, a1, a2, a3, a4) => [(.ptr 0 0), (.v (.s a0))]
  ecH := fun (a0, a1, a2, a3, a4) => [(.cells 63 none [(.v (.s a1)), (.v (.i .i64 a2)), (.v (.i .i64 a3)), (.v (.i .i64 a4))])]
  dcO o := match o with
    | .ret (.tup []) [(.cells 63 none [(.v (.s a0)), (.v (.i .i64 a1)), (.v (.i .i64 a2)), (.v (.i .i64 a3))])] => some (a0, a1, a2, a3)
    | _ => none
  goO := fun _ (a0, a1, a2, a3) k => k (.ret (.tup []) [(.cells 63 none [(.v (.s a0)), (.v (.i .i64 a1)), (.v (.i .i64 a2)), (.v (.i .i64 a3))])])
  ecO := fun (a0, a1, a2, a3) => .ret (.tup []) [(.cells 63 none [(.v (.s a0)), (.v (.i .i64 a1)), (.v (.i .i64 a2)), (.v (.i .i64 a3))])]
theorem sp_path_reader_sign_ok : SpecOk sp_path_reader_sign := by
  refine ⟨fun a H i h => ?_, fun o x h => ?_, fun R e k => by kernel_rfl⟩
  · simp only [sp_path_reader_sign] at h ⊢; split at h <;> first | (cases h; exact ⟨rfl, rfl⟩) | (cases h; done)
  · simp only [sp_path_reader_sign] at h ⊢; split at h <;> first | (cases h; rfl) | (cases h; done)
theorem ok_path_reader_sign (κ : Nat) (m : Int) : EOk Tryd.prog C (G m) 36 (sp_path_reader_sign.entry (fun (a0, a1, a2, a3, a4) => path_reader_sign κ a0 a1 a2 a3 a4)) :=
  Spec.ok sp_path_reader_sign_ok C_ok mixed (gam5_ok κ m) (cut := noCut) (NR := (gcN 1 [0])) (NP := (gcN 1 [0])) (nB := 1) Tryd.func36 (c := (getBody Tryd.f36)) (by kernel_rfl) (by kernel_rfl) (fun i => by kernel_rfl) gcN_ok gcN_ok (cuts_by (l := []) (by kernel_rfl) (all_nil)) (fun i => by kernel_rfl)
noncomputable def gam6 (κ : Nat) : Gam T := (gam5 κ).addS 36 sp_path_reader_sign (fun (a0, a1, a2, a3, a4) => path_reader_sign κ a0 a1 a2 a3 a4)
theorem gam6_ok (κ : Nat) (m : Int) : GOk Tryd.prog C (G m) (gam6 κ) := (gam5_ok κ m).addS (ok_path_reader_sign κ m)
def p_scalar_Ident_0 : Piece T (ByteArray) (Bool) where
  dcS env H ds := match env 0, H, ds with
    | (.v (.s a0)), [], [] => some a0
    | _, _, _ => none
  slS := fun a0 => [(0, (.v (.s a0)))]
  obS := fun a0 => []
  dsS := fun a0 => []
  dcE x env H ds := match x, env 2, H, ds with
    | .normal, (.v (.b a0)), [], [] => some a0
    | _, _, _, _ => none
  exE := fun a0 => .normal
  slE := fun a0 => [(2, (.v (.b a0)))]
  obE := fun a0 => []
  dsE := fun a0 => []
  goE := fun _ a0 k => k .normal [(2, (.v (.b a0)))] [] []
theorem p_scalar_Ident_0_ok : PieceOk p_scalar_Ident_0 := by
  refine ⟨fun env H ds s h => ?_, fun x env H ds e h => ?_, fun R e k => by kernel_rfl⟩
  · simp only [p_scalar_Ident_0] at h ⊢; split at h <;> first | (cases h; simp only [List.forall_mem_cons]; simp_all; done) | (cases h; done)
  · simp only [p_scalar_Ident_0] at h ⊢; split at h <;> first | (cases h; simp only [List.forall_mem_cons]; simp_all; done) | (cases h; done)
theorem p_scalar_Ident_0_ct (κ : Nat) (m : Int) : CutOk Tryd.prog C (G m) Tryd.f17.ntmps 0 (pieceOf (.reg 1) (getBody Tryd.f17)) (p_scalar_Ident_0.cut (gcN 0 [0]) (fun a0 => scalar_Ident.v0 κ a0)) :=
  Piece.join p_scalar_Ident_0_ok C_ok mixed (gam6_ok κ m) gcN_ok (xN_ok gcN_ok (ex_nil) gcN_ok gcN_ok) (cut := noCut) (X := (xN (gcN 0 [2]) [] (gcN 0 [2]) (gcN 0 [1000000]))) (cuts_by (l := []) (by kernel_rfl) (all_nil)) (fun s => by kernel_rfl)
def cc_scalar_Ident_1 (κ : Nat) : Cut T := p_scalar_Ident_0.cut (gcN 0 [0]) (fun a0 => scalar_Ident.v0 κ a0)
theorem cc_scalar_Ident_1_ok (κ : Nat) (m : Int) : CutOk Tryd.prog C (G m) Tryd.f17.ntmps 0 (pieceOf (.reg 1) (getBody Tryd.f17)) (cc_scalar_Ident_1 κ) := p_scalar_Ident_0_ct κ m
def ct_scalar_Ident_1 (κ : Nat) : Key → Option (Cut T) := addCut noCut (.reg 1) (cc_scalar_Ident_1 κ)
def sp_scalar_Ident : Spec T (ByteArray) (Bool) where
  dcI a H := match a, H with
    | [(.v (.s a0))], [] => some a0
    | _, _ => none
  ecA := fun a0 => [(.v (.s a0))]
  ecH := fun a0 => []
  dcO o := match o with
    | .ret (.v (.b a0)) [] => some a0
    | _ => none
  goO := fun _ a0 k => k (.ret (.v (.b a0)) [])
  ecO := fun a0 => .ret (.v (.b a0)) []
theorem sp_scalar_Ident_ok : SpecOk sp_scalar_Ident := by
  refine ⟨fun a H i h => ?_, fun o x h => ?_, fun R e k => by kernel_rfl⟩
  · simp only [sp_scalar_Ident] at h ⊢; split at h <;> first | (cases h; exact ⟨rfl, rfl⟩) | (cases h; done)
  · simp only [sp_scalar_Ident] at h ⊢; split at h <;> first | (cases h; rfl) | (cases h; done)
theorem ok_scalar_Ident (κ : Nat) (m : Int) : EOk Tryd.prog C (G m) 17 (sp_scalar_Ident.entry (fun a0 => scalar_Ident κ a0)) :=
  Spec.ok sp_scalar_Ident_ok C_ok mixed (gam6_ok κ m) (cut := (ct_scalar_Ident_1 κ)) (NR := (gcN 0 [0])) (NP := (gcN 0 [0])) (nB := 0) Tryd.func17 (c := (getBody Tryd.f17)) (by kernel_rfl) (by kernel_rfl) (fun i => by kernel_rfl) gcN_ok gcN_ok (cuts_by (l := [(pieceOf (.reg 1) (getBody Tryd.f17), cc_scalar_Ident_1 κ)]) (by kernel_rfl) (all_cons (cc_scalar_Ident_1_ok κ m) (all_nil))) (fun i => by kernel_rfl)
noncomputable def gam7 (κ : Nat) : Gam T := (gam6 κ).addS 17 sp_scalar_Ident (fun a0 => scalar_Ident κ a0)
theorem gam7_ok (κ : Nat) (m : Int) : GOk Tryd.prog C (G m) (gam7 κ) := (gam6_ok κ m).addS (ok_scalar_Ident κ m)
def p_path_reader_name_0 : Piece T (ByteArray × ByteArray × Bool × ByteArray × Int × Int × Int) (ByteArray × ByteArray × ByteArray × Int × Int × Int) where
  dcS env H ds := match env 0, env 3, env 4, env 25, H, ds with
    | (.ptr 0 0), (.v (.s a0)), (.v (.s a1)), (.v (.b a2)), [(.cells 63 none [(.v (.s a3)), (.v (.i .i64 a4)), (.v (.i .i64 a5)), (.v (.i .i64 a6))])], [] => some (a0, a1, a2, a3, a4, a5, a6)
    | _, _, _, _, _, _ => none
  slS := fun (a0, a1, a2, a3, a4, a5, a6) => [(0, (.ptr 0 0)), (3, (.v (.s a0))), (4, (.v (.s a1))), (25, (.v (.b a2)))]
  obS := fun (a0, a1, a2, a3, a4, a5, a6) => [(.cells 63 none [(.v (.s a3)), (.v (.i .i64 a4)), (.v (.i .i64 a5)), (.v (.i .i64 a6))])]
  dsS := fun (a0, a1, a2, a3, a4, a5, a6) => []
  dcE x env H ds := match x, env 0, env 3, env 4, H, ds with
    | .normal, (.ptr 0 0), (.v (.s a0)), (.v (.s a1)), [(.cells 63 none [(.v (.s a2)), (.v (.i .i64 a3)), (.v (.i .i64 a4)), (.v (.i .i64 a5))])], [] => some (a0, a1, a2, a3, a4, a5)
    | _, _, _, _, _, _ => none
  exE := fun (a0, a1, a2, a3, a4, a5) => .normal
  slE := fun (a0, a1, a2, a3, a4, a5) => [(0, (.ptr 0 0)), (3, (.v (.s a0))), (4, (.v (.s a1)))]
  obE := fun (a0, a1, a2, a3, a4, a5) => [(.cells 63 none [(.v (.s a2)), (.v (.i .i64 a3)), (.v (.i .i64 a4)), (.v (.i .i64 a5))])]
  dsE := fun (a0, a1, a2, a3, a4, a5) => []
  goE := fun _ (a0, a1, a2, a3, a4, a5) k => k .normal [(0, (.ptr 0 0)), (3, (.v (.s a0))), (4, (.v (.s a1)))] [(.cells 63 none [(.v (.s a2)), (.v (.i .i64 a3)), (.v (.i .i64 a4)), (.v (.i .i64 a5))])] []
theorem p_path_reader_name_0_ok : PieceOk p_path_reader_name_0 := by
  refine ⟨fun env H ds s h => ?_, fun x env H ds e h => ?_, fun R e k => by kernel_rfl⟩
  · simp only [p_path_reader_name_0] at h ⊢; split at h <;> first | (cases h; simp only [List.forall_mem_cons]; simp_all; done) | (cases h; done)
  · simp only [p_path_reader_name_0] at h ⊢; split at h <;> first | (cases h; simp only [List.forall_mem_cons]; simp_all; done) | (cases h; done)
theorem p_path_reader_name_0_ct (κ : Nat) (m : Int) : CutOk Tryd.prog C (G m) Tryd.f37.ntmps 1 (pieceOf (.cnd 25 5) (getBody Tryd.f37)) (p_path_reader_name_0.cut (gcN 1 [0, 3, 4, 25]) (fun (a0, a1, a2, a3, a4, a5, a6) => path_reader_name.v0 κ a0 a1 a2 a3 a4 a5 a6)) :=
  Piece.join p_path_reader_name_0_ok C_ok mixed (gam7_ok κ m) gcN_ok (xN_ok gcN_ok (ex_nil) gcN_ok gcN_ok) (cut := noCut) (X := (xN (gcN 1 [0, 3, 4]) [] (gcN 1 [2]) (gcN 1 [1000000]))) (cuts_by (l := []) (by kernel_rfl) (all_nil)) (fun s => by kernel_rfl)
def cc_path_reader_name_1 (κ : Nat) : Cut T := p_path_reader_name_0.cut (gcN 1 [0, 3, 4, 25]) (fun (a0, a1, a2, a3, a4, a5, a6) => path_reader_name.v0 κ a0 a1 a2 a3 a4 a5 a6)
theorem cc_path_reader_name_1_ok (κ : Nat) (m : Int) : CutOk Tryd.prog C (G m) Tryd.f37.ntmps 1 (pieceOf (.cnd 25 5) (getBody Tryd.f37)) (cc_path_reader_name_1 κ) := p_path_reader_name_0_ct κ m
def ct_path_reader_name_1 (κ : Nat) : Key → Option (Cut T) := addCut noCut (.cnd 25 5) (cc_path_reader_name_1 κ)
def sp_path_reader_name : Spec T (ByteArray × Int × Int × Int) (ByteArray × ByteArray × Int × Int × Int) where
  dcI a H := match a, H with
    | [(.ptr 0 0)], [(.cells 63 none [(.v (.s a0)), (.v (.i .i64 a1)), (.v (.i .i64 a2)), (.v (.i .i64 a3))])] => some (a0, a1, a2, a3)
    | _, _ => none
  ecA := fun (a0, a1, a2, a3) => [(.ptr 0 0)]
  ecH := fun (a0, a1, a2, a3) => [(.cells 63 none [(.v (.s a0)), (.v (.i .i64 a1)), (.v (.i .i64 a2)), (.v (.i .i64 a3))])]
  dcO o := match o with
    | .ret (.v (.s a0)) [(.cells 63 none [(.v (.s a1)), (.v (.i .i64 a2)), (.v (.i .i64 a3)), (.v (.i .i64 a4))])] => some (a0, a1, a2, a3, a4)
    | _ => none
  goO := fun _ (a0, a1, a2, a3, a4) k => k (.ret (.v (.s a0)) [(.cells 63 none [(.v (.s a1)), (.v (.i .i64 a2)), (.v (.i .i64 a3)), (.v (.i .i64 a4))])])
  ecO := fun (a0, a1, a2, a3, a4) => .ret (.v (.s a0)) [(.cells 63 none [(.v (.s a1)), (.v (.i .i64 a2)), (.v (.i .i64 a3)), (.v (.i .i64 a4))])]
theorem sp_path_reader_name_ok : SpecOk sp_path_reader_name := by
  refine ⟨fun a H i h => ?_, fun o x h => ?_, fun R e k => by kernel_rfl⟩
  · simp only [sp_path_reader_name] at h ⊢; split at h <;> first | (cases h; exact ⟨rfl, rfl⟩) | (cases h; done)
  · simp only [sp_path_reader_name] at h ⊢; split at h <;> first | (cases h; rfl) | (cases h; done)
theorem ok_path_reader_name (κ : Nat) (m : Int) : EOk Tryd.prog C (G m) 37 (sp_path_reader_name.entry (fun (a0, a1, a2, a3) => path_reader_name κ a0 a1 a2 a3)) :=
  Spec.ok sp_path_reader_name_ok C_ok mixed (gam7_ok κ m) (cut := (ct_path_reader_name_1 κ)) (NR := (gcN 1 [0])) (NP := (gcN 1 [0])) (nB := 1) Tryd.func37 (c := (getBody Tryd.f37)) (by kernel_rfl) (by kernel_rfl) (fun i => by kernel_rfl) gcN_ok gcN_ok (cuts_by (l := [(pieceOf (.cnd 25 5) (getBody Tryd.f37), cc_path_reader_name_1 κ)]) (by kernel_rfl) (all_cons (cc_path_reader_name_1_ok κ m) (all_nil))) (fun i => by kernel_rfl)
noncomputable def gam8 (κ : Nat) : Gam T := (gam7 κ).addS 37 sp_path_reader_name (fun (a0, a1, a2, a3) => path_reader_name κ a0 a1 a2 a3)
theorem gam8_ok (κ : Nat) (m : Int) : GOk Tryd.prog C (G m) (gam8 κ) := (gam7_ok κ m).addS (ok_path_reader_name κ m)
def p_path_reader_step_0 : Piece T (Int × ByteArray × Int × Int × Int × ByteArray × ByteArray) (Bool × ByteArray × Int × Int × Int × ByteArray × ByteArray) where
  dcS env H ds := match env 0, env 1, env 4, H, ds with
    | (.ptr 0 0), (.v (.i .i64 a0)), (.ptr 1 0), [(.cells 63 none [(.v (.s a1)), (.v (.i .i64 a2)), (.v (.i .i64 a3)), (.v (.i .i64 a4))]), (.cells 46 none [(.v (.s a5)), (.v (.s a6))])], [] => some (a0, a1, a2, a3, a4, a5, a6)
    | _, _, _, _, _ => none
  slS := fun (a0, a1, a2, a3, a4, a5, a6) => [(0, (.ptr 0 0)), (1, (.v (.i .i64 a0))), (4, (.ptr 1 0))]
  obS := fun (a0, a1, a2, a3, a4, a5, a6) => [(.cells 63 none [(.v (.s a1)), (.v (.i .i64 a2)), (.v (.i .i64 a3)), (.v (.i .i64 a4))]), (.cells 46 none [(.v (.s a5)), (.v (.s a6))])]
  dsS := fun (a0, a1, a2, a3, a4, a5, a6) => []
  dcE x env H ds := match x, env 0, env 4, env 14, H, ds with
    | .normal, (.ptr 0 0), (.ptr 1 0), (.v (.b a0)), [(.cells 63 none [(.v (.s a1)), (.v (.i .i64 a2)), (.v (.i .i64 a3)), (.v (.i .i64 a4))]), (.cells 46 none [(.v (.s a5)), (.v (.s a6))])], [] => some (a0, a1, a2, a3, a4, a5, a6)
    | _, _, _, _, _, _ => none
  exE := fun (a0, a1, a2, a3, a4, a5, a6) => .normal
  slE := fun (a0, a1, a2, a3, a4, a5, a6) => [(0, (.ptr 0 0)), (4, (.ptr 1 0)), (14, (.v (.b a0)))]
  obE := fun (a0, a1, a2, a3, a4, a5, a6) => [(.cells 63 none [(.v (.s a1)), (.v (.i .i64 a2)), (.v (.i .i64 a3)), (.v (.i .i64 a4))]), (.cells 46 none [(.v (.s a5)), (.v (.s a6))])]
  dsE := fun (a0, a1, a2, a3, a4, a5, a6) => []
  goE := fun _ (a0, a1, a2, a3, a4, a5, a6) k => k .normal [(0, (.ptr 0 0)), (4, (.ptr 1 0)), (14, (.v (.b a0)))] [(.cells 63 none [(.v (.s a1)), (.v (.i .i64 a2)), (.v (.i .i64 a3)), (.v (.i .i64 a4))]), (.cells 46 none [(.v (.s a5)), (.v (.s a6))])] []
theorem p_path_reader_step_0_ok : PieceOk p_path_reader_step_0 := by
  refine ⟨fun env H ds s h => ?_, fun x env H ds e h => ?_, fun R e k => by kernel_rfl⟩
  · simp only [p_path_reader_step_0] at h ⊢; split at h <;> first | (cases h; simp only [List.forall_mem_cons]; simp_all; done) | (cases h; done)
  · simp only [p_path_reader_step_0] at h ⊢; split at h <;> first | (cases h; simp only [List.forall_mem_cons]; simp_all; done) | (cases h; done)
theorem p_path_reader_step_0_ct (κ : Nat) (m : Int) : CutOk Tryd.prog C (G m) Tryd.f24.ntmps 1 (pieceOf (.reg 1) (getBody Tryd.f24)) (p_path_reader_step_0.cut (gcN 1 [0, 1, 4]) (fun (a0, a1, a2, a3, a4, a5, a6) => path_reader_step.v0 κ a0 a1 a2 a3 a4 a5 a6)) :=
  Piece.join p_path_reader_step_0_ok C_ok mixed (gam2_ok κ m) gcN_ok (xN_ok gcN_ok (ex_nil) gcN_ok gcN_ok) (cut := noCut) (X := (xN (gcN 1 [0, 4, 14]) [] (gcN 1 [4]) (gcN 1 [1000000]))) (cuts_by (l := []) (by kernel_rfl) (all_nil)) (fun s => by kernel_rfl)
def cc_path_reader_step_1 (κ : Nat) : Cut T := p_path_reader_step_0.cut (gcN 1 [0, 1, 4]) (fun (a0, a1, a2, a3, a4, a5, a6) => path_reader_step.v0 κ a0 a1 a2 a3 a4 a5 a6)
theorem cc_path_reader_step_1_ok (κ : Nat) (m : Int) : CutOk Tryd.prog C (G m) Tryd.f24.ntmps 1 (pieceOf (.reg 1) (getBody Tryd.f24)) (cc_path_reader_step_1 κ) := p_path_reader_step_0_ct κ m
def ct_path_reader_step_1 (κ : Nat) : Key → Option (Cut T) := addCut noCut (.reg 1) (cc_path_reader_step_1 κ)
def p_path_reader_step_2 : Piece T (Bool × ByteArray × Int × Int × Int × ByteArray × ByteArray) (ByteArray × Int × Int × Int × ByteArray × ByteArray) where
  dcS env H ds := match env 0, env 4, env 14, H, ds with
    | (.ptr 0 0), (.ptr 1 0), (.v (.b a0)), [(.cells 63 none [(.v (.s a1)), (.v (.i .i64 a2)), (.v (.i .i64 a3)), (.v (.i .i64 a4))]), (.cells 46 none [(.v (.s a5)), (.v (.s a6))])], [] => some (a0, a1, a2, a3, a4, a5, a6)
    | _, _, _, _, _ => none
  slS := fun (a0, a1, a2, a3, a4, a5, a6) => [(0, (.ptr 0 0)), (4, (.ptr 1 0)), (14, (.v (.b a0)))]
  obS := fun (a0, a1, a2, a3, a4, a5, a6) => [(.cells 63 none [(.v (.s a1)), (.v (.i .i64 a2)), (.v (.i .i64 a3)), (.v (.i .i64 a4))]), (.cells 46 none [(.v (.s a5)), (.v (.s a6))])]
  dsS := fun (a0, a1, a2, a3, a4, a5, a6) => []
  dcE x env H ds := match x, env 0, env 4, H, ds with
    | .normal, (.ptr 0 0), (.ptr 1 0), [(.cells 63 none [(.v (.s a0)), (.v (.i .i64 a1)), (.v (.i .i64 a2)), (.v (.i .i64 a3))]), (.cells 46 none [(.v (.s a4)), (.v (.s a5))])], [] => some (a0, a1, a2, a3, a4, a5)
    | _, _, _, _, _ => none
  exE := fun (a0, a1, a2, a3, a4, a5) => .normal
  slE := fun (a0, a1, a2, a3, a4, a5) => [(0, (.ptr 0 0)), (4, (.ptr 1 0))]
  obE := fun (a0, a1, a2, a3, a4, a5) => [(.cells 63 none [(.v (.s a0)), (.v (.i .i64 a1)), (.v (.i .i64 a2)), (.v (.i .i64 a3))]), (.cells 46 none [(.v (.s a4)), (.v (.s a5))])]
  dsE := fun (a0, a1, a2, a3, a4, a5) => []
  goE := fun _ (a0, a1, a2, a3, a4, a5) k => k .normal [(0, (.ptr 0 0)), (4, (.ptr 1 0))] [(.cells 63 none [(.v (.s a0)), (.v (.i .i64 a1)), (.v (.i .i64 a2)), (.v (.i .i64 a3))]), (.cells 46 none [(.v (.s a4)), (.v (.s a5))])] []
theorem p_path_reader_step_2_ok : PieceOk p_path_reader_step_2 := by
  refine ⟨fun env H ds s h => ?_, fun x env H ds e h => ?_, fun R e k => by kernel_rfl⟩
  · simp only [p_path_reader_step_2] at h ⊢; split at h <;> first | (cases h; simp only [List.forall_mem_cons]; simp_all; done) | (cases h; done)
  · simp only [p_path_reader_step_2] at h ⊢; split at h <;> first | (cases h; simp only [List.forall_mem_cons]; simp_all; done) | (cases h; done)
theorem p_path_reader_step_2_ct (κ : Nat) (m : Int) : CutOk Tryd.prog C (G m) Tryd.f24.ntmps 1 (pieceOf (.cnd 14 3) (getBody Tryd.f24)) (p_path_reader_step_2.cut (gcN 1 [0, 4, 14]) (fun (a0, a1, a2, a3, a4, a5, a6) => path_reader_step.v2 κ a0 a1 a2 a3 a4 a5 a6)) :=
  Piece.join p_path_reader_step_2_ok C_ok mixed (gam3_ok κ m) gcN_ok (xN_ok gcN_ok (ex_nil) gcN_ok gcN_ok) (cut := (ct_path_reader_step_1 κ)) (X := (xN (gcN 1 [0, 4]) [] (gcN 1 [4]) (gcN 1 [1000000]))) (cuts_by (l := []) (by kernel_rfl) (all_nil)) (fun s => by kernel_rfl)
def cc_path_reader_step_3 (κ : Nat) : Cut T := p_path_reader_step_2.cut (gcN 1 [0, 4, 14]) (fun (a0, a1, a2, a3, a4, a5, a6) => path_reader_step.v2 κ a0 a1 a2 a3 a4 a5 a6)
theorem cc_path_reader_step_3_ok (κ : Nat) (m : Int) : CutOk Tryd.prog C (G m) Tryd.f24.ntmps 1 (pieceOf (.cnd 14 3) (getBody Tryd.f24)) (cc_path_reader_step_3 κ) := p_path_reader_step_2_ct κ m
def ct_path_reader_step_3 (κ : Nat) : Key → Option (Cut T) := addCut (ct_path_reader_step_1 κ) (.cnd 14 3) (cc_path_reader_step_3 κ)
def p_path_reader_step_4 : Piece T (Bool × ByteArray × Int × Int × Int × ByteArray × ByteArray × ByteArray × ByteArray) (ByteArray × Int × Int × Int × ByteArray × ByteArray × ByteArray × ByteArray) where
  dcS env H ds := match env 0, env 4, env 5, env 26, H, ds with
    | (.ptr 0 0), (.ptr 1 0), (.ptr 2 0), (.v (.b a0)), [(.cells 63 none [(.v (.s a1)), (.v (.i .i64 a2)), (.v (.i .i64 a3)), (.v (.i .i64 a4))]), (.cells 46 none [(.v (.s a5)), (.v (.s a6))]), (.cells 46 none [(.v (.s a7)), (.v (.s a8))])], [] => some (a0, a1, a2, a3, a4, a5, a6, a7, a8)
    | _, _, _, _, _, _ => none
  slS := fun (a0, a1, a2, a3, a4, a5, a6, a7, a8) => [(0, (.ptr 0 0)), (4, (.ptr 1 0)), (5, (.ptr 2 0)), (26, (.v (.b a0)))]
  obS := fun (a0, a1, a2, a3, a4, a5, a6, a7, a8) => [(.cells 63 none [(.v (.s a1)), (.v (.i .i64 a2)), (.v (.i .i64 a3)), (.v (.i .i64 a4))]), (.cells 46 none [(.v (.s a5)), (.v (.s a6))]), (.cells 46 none [(.v (.s a7)), (.v (.s a8))])]
  dsS := fun (a0, a1, a2, a3, a4, a5, a6, a7, a8) => []
  dcE x env H ds := match x, env 4, env 5, H, ds with
    | .normal, (.ptr 1 0), (.ptr 2 0), [(.cells 63 none [(.v (.s a0)), (.v (.i .i64 a1)), (.v (.i .i64 a2)), (.v (.i .i64 a3))]), (.cells 46 none [(.v (.s a4)), (.v (.s a5))]), (.cells 46 none [(.v (.s a6)), (.v (.s a7))])], [] => some (a0, a1, a2, a3, a4, a5, a6, a7)
    | _, _, _, _, _ => none
  exE := fun (a0, a1, a2, a3, a4, a5, a6, a7) => .normal
  slE := fun (a0, a1, a2, a3, a4, a5, a6, a7) => [(4, (.ptr 1 0)), (5, (.ptr 2 0))]
  obE := fun (a0, a1, a2, a3, a4, a5, a6, a7) => [(.cells 63 none [(.v (.s a0)), (.v (.i .i64 a1)), (.v (.i .i64 a2)), (.v (.i .i64 a3))]), (.cells 46 none [(.v (.s a4)), (.v (.s a5))]), (.cells 46 none [(.v (.s a6)), (.v (.s a7))])]
  dsE := fun (a0, a1, a2, a3, a4, a5, a6, a7) => []
  goE := fun _ (a0, a1, a2, a3, a4, a5, a6, a7) k => k .normal [(4, (.ptr 1 0)), (5, (.ptr 2 0))] [(.cells 63 none [(.v (.s a0)), (.v (.i .i64 a1)), (.v (.i .i64 a2)), (.v (.i .i64 a3))]), (.cells 46 none [(.v (.s a4)), (.v (.s a5))]), (.cells 46 none [(.v (.s a6)), (.v (.s a7))])] []
theorem p_path_reader_step_4_ok : PieceOk p_path_reader_step_4 := by
  refine ⟨fun env H ds s h => ?_, fun x env H ds e h => ?_, fun R e k => by kernel_rfl⟩
  · simp only [p_path_reader_step_4] at h ⊢; split at h <;> first | (cases h; simp only [List.forall_mem_cons]; simp_all; done) | (cases h; done)
  · simp only [p_path_reader_step_4] at h ⊢; split at h <;> first | (cases h; simp only [List.forall_mem_cons]; simp_all; done) | (cases h; done)
theorem p_path_reader_step_4_ct (κ : Nat) (m : Int) : CutOk Tryd.prog C (G m) Tryd.f24.ntmps 1 (pieceOf (.cnd 26 7) (getBody Tryd.f24)) (p_path_reader_step_4.cut (gcN 1 [0, 4, 5, 26]) (fun (a0, a1, a2, a3, a4, a5, a6, a7, a8) => path_reader_step.v4 κ a0 a1 a2 a3 a4 a5 a6 a7 a8)) :=
  Piece.join p_path_reader_step_4_ok C_ok mixed (gam8_ok κ m) gcN_ok (xN_ok gcN_ok (ex_nil) gcN_ok gcN_ok) (cut := (ct_path_reader_step_3 κ)) (X := (xN (gcN 1 [4, 5]) [] (gcN 1 [4]) (gcN 1 [1000000]))) (cuts_by (l := []) (by kernel_rfl) (all_nil)) (fun s => by kernel_rfl)
def cc_path_reader_step_5 (κ : Nat) : Cut T := p_path_reader_step_4.cut (gcN 1 [0, 4, 5, 26]) (fun (a0, a1, a2, a3, a4, a5, a6, a7, a8) => path_reader_step.v4 κ a0 a1 a2 a3 a4 a5 a6 a7 a8)
theorem cc_path_reader_step_5_ok (κ : Nat) (m : Int) : CutOk Tryd.prog C (G m) Tryd.f24.ntmps 1 (pieceOf (.cnd 26 7) (getBody Tryd.f24)) (cc_path_reader_step_5 κ) := p_path_reader_step_4_ct κ m
def ct_path_reader_step_5 (κ : Nat) : Key → Option (Cut T) := addCut (ct_path_reader_step_3 κ) (.cnd 26 7) (cc_path_reader_step_5 κ)
def sp_path_reader_step : Spec T (Int × ByteArray × Int × Int × Int) (ByteArray × ByteArray × ByteArray × Int × Int × Int) where
  dcI a H := match a, H with
    | [(.ptr 0 0), (.v (.i .i64 a0))], [(.cells 63 none [(.v (.s a1)), (.v (.i .i64 a2)), (.v (.i .i64 a3)), (.v (.i .i64 a4))])] => some (a0, a1, a2, a3, a4)
    | _, _ => none
  ecA := fun (a0, a1, a2, a3, a4) => [(.ptr 0 0), (.v (.i .i64 a0))]
  ecH := fun (a0, a1, a2, a3, a4) => [(.cells 63 none [(.v (.s a1)), (.v (.i .i64 a2)), (.v (.i .i64 a3)), (.v (.i .i64 a4))])]
  dcO o := match o with
    | .ret (.agg [(.v (.s a0)), (.v (.s a1))]) [(.cells 63 none [(.v (.s a2)), (.v (.i .i64 a3)), (.v (.i .i64 a4)), (.v (.i .i64 a5))])] => some (a0, a1, a2, a3, a4, a5)
    | _ => none
  goO := fun _ (a0, a1, a2, a3, a4, a5) k => k (.ret (.agg [(.v (.s a0)), (.v (.s a1))]) [(.cells 63 none [(.v (.s a2)), (.v (.i .i64 a3)), (.v (.i .i64 a4)), (.v (.i .i64 a5))])])
  ecO := fun (a0, a1, a2, a3, a4, a5) => .ret (.agg [(.v (.s a0)), (.v (.s a1))]) [(.cells 63 none [(.v (.s a2)), (.v (.i .i64 a3)), (.v (.i .i64 a4)), (.v (.i .i64 a5))])]
theorem sp_path_reader_step_ok : SpecOk sp_path_reader_step := by
  refine ⟨fun a H i h => ?_, fun o x h => ?_, fun R e k => by kernel_rfl⟩
  · simp only [sp_path_reader_step] at h ⊢; split at h <;> first | (cases h; exact ⟨rfl, rfl⟩) | (cases h; done)
  · simp only [sp_path_reader_step] at h ⊢; split at h <;> first | (cases h; rfl) | (cases h; done)
theorem ok_path_reader_step (κ : Nat) (m : Int) : EOk Tryd.prog C (G m) 24 (sp_path_reader_step.entry (fun (a0, a1, a2, a3, a4) => path_reader_step κ a0 a1 a2 a3 a4)) :=
  Spec.ok sp_path_reader_step_ok C_ok mixed (gam8_ok κ m) (cut := (ct_path_reader_step_5 κ)) (NR := (gcN 1 [0])) (NP := (gcN 1 [0])) (nB := 1) Tryd.func24 (c := (getBody Tryd.f24)) (by kernel_rfl) (by kernel_rfl) (fun i => by kernel_rfl) gcN_ok gcN_ok (cuts_by (l := [(pieceOf (.reg 1) (getBody Tryd.f24), cc_path_reader_step_1 κ), (pieceOf (.cnd 14 3) (getBody Tryd.f24), cc_path_reader_step_3 κ), (pieceOf (.cnd 26 7) (getBody Tryd.f24), cc_path_reader_step_5 κ)]) (by kernel_rfl) (all_cons (cc_path_reader_step_1_ok κ m) (all_cons (cc_path_reader_step_3_ok κ m) (all_cons (cc_path_reader_step_5_ok κ m) (all_nil))))) (fun i => by kernel_rfl)
noncomputable def gam9 (κ : Nat) : Gam T := (gam8 κ).addS 24 sp_path_reader_step (fun (a0, a1, a2, a3, a4) => path_reader_step κ a0 a1 a2 a3 a4)
theorem gam9_ok (κ : Nat) (m : Int) : GOk Tryd.prog C (G m) (gam9 κ) := (gam8_ok κ m).addS (ok_path_reader_step κ m)
def p_path_Parse_3 : Piece T (ByteArray × Int × Int × Int × (List ApiStep)) (Bool × ByteArray × Int × Int × Int × (List ApiStep)) where
  dcS env H ds := match env 5, env 6, H, ds with
    | (.ptr 0 0), (.own 1), [(.cells 63 none [(.v (.s a0)), (.v (.i .i64 a1)), (.v (.i .i64 a2)), (.v (.i .i64 a3))]), (.row 46 a4 true)], [] => some (a0, a1, a2, a3, a4)
    | _, _, _, _ => none
  slS := fun (a0, a1, a2, a3, a4) => [(5, (.ptr 0 0)), (6, (.own 1))]
  obS := fun (a0, a1, a2, a3, a4) => [(.cells 63 none [(.v (.s a0)), (.v (.i .i64 a1)), (.v (.i .i64 a2)), (.v (.i .i64 a3))]), (.row 46 a4 true)]
  dsS := fun (a0, a1, a2, a3, a4) => []
  dcE x env H ds := match x, env 5, env 6, env 28, H, ds with
    | .normal, (.ptr 0 0), (.own 1), (.v (.b a0)), [(.cells 63 none [(.v (.s a1)), (.v (.i .i64 a2)), (.v (.i .i64 a3)), (.v (.i .i64 a4))]), (.row 46 a5 true)], [] => some (a0, a1, a2, a3, a4, a5)
    | _, _, _, _, _, _ => none
  exE := fun (a0, a1, a2, a3, a4, a5) => .normal
  slE := fun (a0, a1, a2, a3, a4, a5) => [(5, (.ptr 0 0)), (6, (.own 1)), (28, (.v (.b a0)))]
  obE := fun (a0, a1, a2, a3, a4, a5) => [(.cells 63 none [(.v (.s a1)), (.v (.i .i64 a2)), (.v (.i .i64 a3)), (.v (.i .i64 a4))]), (.row 46 a5 true)]
  dsE := fun (a0, a1, a2, a3, a4, a5) => []
  goE := fun _ (a0, a1, a2, a3, a4, a5) k => k .normal [(5, (.ptr 0 0)), (6, (.own 1)), (28, (.v (.b a0)))] [(.cells 63 none [(.v (.s a1)), (.v (.i .i64 a2)), (.v (.i .i64 a3)), (.v (.i .i64 a4))]), (.row 46 a5 true)] []
theorem p_path_Parse_3_ok : PieceOk p_path_Parse_3 := by
  refine ⟨fun env H ds s h => ?_, fun x env H ds e h => ?_, fun R e k => by kernel_rfl⟩
  · simp only [p_path_Parse_3] at h ⊢; split at h <;> first | (cases h; simp only [List.forall_mem_cons]; simp_all; done) | (cases h; done)
  · simp only [p_path_Parse_3] at h ⊢; split at h <;> first | (cases h; simp only [List.forall_mem_cons]; simp_all; done) | (cases h; done)
theorem p_path_Parse_3_ct (κ : Nat) (m : Int) : CutOk Tryd.prog C (G m) Tryd.f14.ntmps 0 (pieceOf (.reg 5) (getBody Tryd.f14)) (p_path_Parse_3.cut (gcN 0 [5, 6]) (fun (a0, a1, a2, a3, a4) => path_Parse.v3 κ a0 a1 a2 a3 a4)) :=
  Piece.join p_path_Parse_3_ok C_ok mixed (gam9_ok κ m) gcN_ok (xN_ok gcN_ok (ex_cons gcN_ok (ex_nil)) gcN_ok gcN_ok) (cut := noCut) (X := (xN (gcN 0 [5, 6, 28]) [(0, (gcN 0 [5, 6]))] (gcN 0 [2, 3, 4]) (gcN 0 [1000000]))) (cuts_by (l := []) (by kernel_rfl) (all_nil)) (fun s => by kernel_rfl)
def cc_path_Parse_4 (κ : Nat) : Cut T := p_path_Parse_3.cut (gcN 0 [5, 6]) (fun (a0, a1, a2, a3, a4) => path_Parse.v3 κ a0 a1 a2 a3 a4)
theorem cc_path_Parse_4_ok (κ : Nat) (m : Int) : CutOk Tryd.prog C (G m) Tryd.f14.ntmps 0 (pieceOf (.reg 5) (getBody Tryd.f14)) (cc_path_Parse_4 κ) := p_path_Parse_3_ct κ m
def ct_path_Parse_4 (κ : Nat) : Key → Option (Cut T) := addCut noCut (.reg 5) (cc_path_Parse_4 κ)
def p_path_Parse_2 : Piece T (ByteArray × Int × Int × Int × (List ApiStep)) (ByteArray × Int × Int × Int × (List ApiStep)) where
  dcS env H ds := match env 5, env 6, H, ds with
    | (.ptr 0 0), (.own 1), [(.cells 63 none [(.v (.s a0)), (.v (.i .i64 a1)), (.v (.i .i64 a2)), (.v (.i .i64 a3))]), (.row 46 a4 true)], [] => some (a0, a1, a2, a3, a4)
    | _, _, _, _ => none
  slS := fun (a0, a1, a2, a3, a4) => [(5, (.ptr 0 0)), (6, (.own 1))]
  obS := fun (a0, a1, a2, a3, a4) => [(.cells 63 none [(.v (.s a0)), (.v (.i .i64 a1)), (.v (.i .i64 a2)), (.v (.i .i64 a3))]), (.row 46 a4 true)]
  dsS := fun (a0, a1, a2, a3, a4) => []
  dcE x env H ds := match x, env 5, env 6, H, ds with
    | .normal, (.ptr 0 0), (.own 1), [(.cells 63 none [(.v (.s a0)), (.v (.i .i64 a1)), (.v (.i .i64 a2)), (.v (.i .i64 a3))]), (.row 46 a4 true)], [] => some (a0, a1, a2, a3, a4)
    | _, _, _, _, _ => none
  exE := fun (a0, a1, a2, a3, a4) => .normal
  slE := fun (a0, a1, a2, a3, a4) => [(5, (.ptr 0 0)), (6, (.own 1))]
  obE := fun (a0, a1, a2, a3, a4) => [(.cells 63 none [(.v (.s a0)), (.v (.i .i64 a1)), (.v (.i .i64 a2)), (.v (.i .i64 a3))]), (.row 46 a4 true)]
  dsE := fun (a0, a1, a2, a3, a4) => []
  goE := fun _ (a0, a1, a2, a3, a4) k => k .normal [(5, (.ptr 0 0)), (6, (.own 1))] [(.cells 63 none [(.v (.s a0)), (.v (.i .i64 a1)), (.v (.i .i64 a2)), (.v (.i .i64 a3))]), (.row 46 a4 true)] []
theorem p_path_Parse_2_ok : PieceOk p_path_Parse_2 := by
  refine ⟨fun env H ds s h => ?_, fun x env H ds e h => ?_, fun R e k => by kernel_rfl⟩
  · simp only [p_path_Parse_2] at h ⊢; split at h <;> first | (cases h; simp only [List.forall_mem_cons]; simp_all; done) | (cases h; done)
  · simp only [p_path_Parse_2] at h ⊢; split at h <;> first | (cases h; simp only [List.forall_mem_cons]; simp_all; done) | (cases h; done)
theorem p_path_Parse_2_ct (κ : Nat) (m : Int) : CutOk Tryd.prog C (G m) Tryd.f14.ntmps 0 (pieceOf (.blk 0) (getBody Tryd.f14)) (p_path_Parse_2.cut (gcN 0 [5, 6]) (path_Parse.l2 κ κ)) :=
  Piece.loop p_path_Parse_2_ok C_ok mixed (gam9_ok κ m) gcN_ok (xN_ok gcN_ok (ex_nil) gcN_ok gcN_ok) (cut := (ct_path_Parse_4 κ)) (X := (xN (gcN 0 [5, 6]) [] (gcN 0 [2, 3, 4]) (gcN 0 [1000000]))) (id := 0) (body := bodyOf (pieceOf (.blk 0) (getBody Tryd.f14))) (cuts_by (l := [(pieceOf (.reg 5) (getBody Tryd.f14), cc_path_Parse_4 κ)]) (by kernel_rfl) (all_cons (cc_path_Parse_4_ok κ m) (all_nil))) (f := path_Parse.l2 κ) (fun s => by kernel_rfl) (fun k s => by kernel_rfl) κ
def cc_path_Parse_5 (κ : Nat) : Cut T := p_path_Parse_2.cut (gcN 0 [5, 6]) (path_Parse.l2 κ κ)
theorem cc_path_Parse_5_ok (κ : Nat) (m : Int) : CutOk Tryd.prog C (G m) Tryd.f14.ntmps 0 (pieceOf (.blk 0) (getBody Tryd.f14)) (cc_path_Parse_5 κ) := p_path_Parse_2_ct κ m
def ct_path_Parse_5 (κ : Nat) : Key → Option (Cut T) := addCut noCut (.blk 0) (cc_path_Parse_5 κ)
def sp_path_Parse : Spec T (ByteArray) (Int × Int × (List ApiStep)) where
  dcI a H := match a, H with
    | [(.v (.s a0))], [] => some a0
    | _, _ => none
  ecA := fun a0 => [(.v (.s a0))]
  ecH := fun a0 => []
  dcO o := match o with
    | .ret (.tup [(.own 0), (.v (.i .i64 a0)), (.v (.i .i64 a1))]) [(.row 46 a2 true)] => some (a0, a1, a2)
    | _ => none
  goO := fun _ (a0, a1, a2) k => k (.ret (.tup [(.own 0), (.v (.i .i64 a0)), (.v (.i .i64 a1))]) [(.row 46 a2 true)])
  ecO := fun (a0, a1, a2) => .ret (.tup [(.own 0), (.v (.i .i64 a0)), (.v (.i .i64 a1))]) [(.row 46 a2 true)]
theorem sp_path_Parse_ok : SpecOk sp_path_Parse := by
  refine ⟨fun a H i h => ?_, fun o x h => ?_, fun R e k => by kernel_rfl⟩
  · simp only [sp_path_Parse] at h ⊢; split at h <;> first | (cases h; exact ⟨rfl, rfl⟩) | (cases h; done)
  · simp only [sp_path_Parse] at h ⊢; split at h <;> first | (cases h; rfl) | (cases h; done)
theorem ok_path_Parse (κ : Nat) (m : Int) : EOk Tryd.prog C (G m) 14 (sp_path_Parse.entry (fun a0 => path_Parse κ a0)) :=
  Spec.ok sp_path_Parse_ok C_ok mixed (gam9_ok κ m) (cut := (ct_path_Parse_5 κ)) (NR := (andN (promS 0 [0] 46) (gcN 0 [0]))) (NP := (gcN 0 [0])) (nB := 0) Tryd.func14 (c := (getBody Tryd.f14)) (by kernel_rfl) (by kernel_rfl) (fun i => by kernel_rfl) (andN_ok promS_ok gcN_ok) gcN_ok (cuts_by (l := [(pieceOf (.blk 0) (getBody Tryd.f14), cc_path_Parse_5 κ)]) (by kernel_rfl) (all_cons (cc_path_Parse_5_ok κ m) (all_nil))) (fun i => by kernel_rfl)
noncomputable def gam10 (κ : Nat) : Gam T := (gam9 κ).addS 14 sp_path_Parse (fun a0 => path_Parse κ a0)
theorem gam10_ok (κ : Nat) (m : Int) : GOk Tryd.prog C (G m) (gam10 κ) := (gam9_ok κ m).addS (ok_path_Parse κ m)
def sp_spec_Find_1 : Spec T (ByteArray × Int × Int × Int × Int × (List ByteArray) × Bool × Int × (List SpecSpec) × ByteArray) (Bool × ByteArray) where
  dcI a H := match a, H with
    | [(.agg [(.v (.s a0)), (.v (.i .i64 a1)), (.v (.i .i64 a2)), (.v (.i .u64 a3)), (.v (.i .u64 a4)), (.v (.sl 9 a5)), (.v (.b a6)), (.v (.i .i64 a7)), (.v (.sl 29 a8))]), (.ptr 0 0)], [(.cells 9 none [(.v (.s a9))])] => some (a0, a1, a2, a3, a4, a5, a6, a7, a8, a9)
    | _, _ => none
  ecA := fun (a0, a1, a2, a3, a4, a5, a6, a7, a8, a9) => [(.agg [(.v (.s a0)), (.v (.i .i64 a1)), (.v (.i .i64 a2)), (.v (.i .u64 a3)), (.v (.i .u64 a4)), (.v (.sl 9 a5)), (.v (.b a6)), (.v (.i .i64 a7)), (.v (.sl 29 a8))]), (.ptr 0 0)]
  ecH := fun (a0, a1, a2, a3, a4, a5, a6, a7, a8, a9) => [(.cells 9 none [(.v (.s a9))])]
  dcO o := match o with
    | .ret (.v (.b a0)) [(.cells 9 none [(.v (.s a1))])] => some (a0, a1)
    | _ => none
  goO := fun _ (a0, a1) k => k (.ret (.v (.b a0)) [(.cells 9 none [(.v (.s a1))])])
  ecO := fun (a0, a1) => .ret (.v (.b a0)) [(.cells 9 none [(.v (.s a1))])]
theorem sp_spec_Find_1_ok : SpecOk sp_spec_Find_1 := by
  refine ⟨fun a H i h => ?_, fun o x h => ?_, fun R e k => by kernel_rfl⟩
  · simp only [sp_spec_Find_1] at h ⊢; split at h <;> first | (cases h; exact ⟨rfl, rfl⟩) | (cases h; done)
  · simp only [sp_spec_Find_1] at h ⊢; split at h <;> first | (cases h; rfl) | (cases h; done)
theorem ok_spec_Find_1 (κ : Nat) (m : Int) : EOk Tryd.prog C (G m) 26 (sp_spec_Find_1.entry (fun (a0, a1, a2, a3, a4, a5, a6, a7, a8, a9) => spec_Find_1 κ a0 a1 a2 a3 a4 a5 a6 a7 a8 a9)) :=
  Spec.ok sp_spec_Find_1_ok C_ok mixed (gam10_ok κ m) (cut := noCut) (NR := (gcN 1 [0])) (NP := (gcN 1 [0])) (nB := 1) Tryd.func26 (c := (getBody Tryd.f26)) (by kernel_rfl) (by kernel_rfl) (fun i => by kernel_rfl) gcN_ok gcN_ok (cuts_by (l := []) (by kernel_rfl) (all_nil)) (fun i => by kernel_rfl)
noncomputable def gam11 (κ : Nat) : Gam T := (gam10 κ).addS 26 sp_spec_Find_1 (fun (a0, a1, a2, a3, a4, a5, a6, a7, a8, a9) => spec_Find_1 κ a0 a1 a2 a3 a4 a5 a6 a7 a8 a9)
theorem gam11_ok (κ : Nat) (m : Int) : GOk Tryd.prog C (G m) (gam11 κ) := (gam10_ok κ m).addS (ok_spec_Find_1 κ m)
def p_slices_IndexFunc_0 : Piece T ((List SpecSpec) × Int × Int × ByteArray) ((ByteArray) ⊕ (Int × ByteArray)) where
  dcS env H ds := match env 0, env 1, env 7, env 8, H, ds with
    | (.v (.sl 29 a0)), (.fn (.func 26) [] [(.ptr 0 0)]), (.v (.i .i64 a1)), (.v (.i .i64 a2)), [(.cells 9 none [(.v (.s a3))])], [] => some (a0, a1, a2, a3)
    | _, _, _, _, _, _ => none
  slS := fun (a0, a1, a2, a3) => [(0, (.v (.sl 29 a0))), (1, (.fn (.func 26) [] [(.ptr 0 0)])), (7, (.v (.i .i64 a1))), (8, (.v (.i .i64 a2)))]
  obS := fun (a0, a1, a2, a3) => [(.cells 9 none [(.v (.s a3))])]
  dsS := fun (a0, a1, a2, a3) => []
  dcE x env H ds := match x, env 4, H, ds with
    | .normal, _, [(.cells 9 none [(.v (.s a0))])], [] => some (.inl a0)
    | .ret, (.v (.i .i64 a0)), [(.cells 9 none [(.v (.s a1))])], [] => some (.inr (a0, a1))
    | _, _, _, _ => none
  exE := fun x => match x with
    | (.inl a0) => .normal
    | (.inr (a0, a1)) => .ret
  slE := fun x => match x with
    | (.inl a0) => []
    | (.inr (a0, a1)) => [(4, (.v (.i .i64 a0)))]
  obE := fun x => match x with
    | (.inl a0) => [(.cells 9 none [(.v (.s a0))])]
    | (.inr (a0, a1)) => [(.cells 9 none [(.v (.s a1))])]
  dsE := fun x => match x with
    | (.inl a0) => []
    | (.inr (a0, a1)) => []
  goE := fun _ x k => match x with
    | (.inl a0) => k .normal [] [(.cells 9 none [(.v (.s a0))])] []
    | (.inr (a0, a1)) => k .ret [(4, (.v (.i .i64 a0)))] [(.cells 9 none [(.v (.s a1))])] []
theorem p_slices_IndexFunc_0_ok : PieceOk p_slices_IndexFunc_0 := by
  refine ⟨fun env H ds s h => ?_, fun x env H ds e h => ?_, fun R e k => by rcases e with e | e <;> kernel_rfl⟩
  · simp only [p_slices_IndexFunc_0] at h ⊢; split at h <;> first | (cases h; simp only [List.forall_mem_cons]; simp_all; done) | (cases h; done)
  · simp only [p_slices_IndexFunc_0] at h ⊢; split at h <;> first | (cases h; simp only [List.forall_mem_cons]; simp_all; done) | (cases h; done)
theorem p_slices_IndexFunc_0_ct (κ : Nat) (m : Int) : CutOk Tryd.prog C (G m) Tryd.f25.ntmps 1 (pieceOf (.blk 0) (getBody Tryd.f25)) (p_slices_IndexFunc_0.cut (gcN 1 [0, 1, 7, 8]) (slices_IndexFunc.l0 κ κ)) :=
  Piece.loop p_slices_IndexFunc_0_ok C_ok mixed (gam11_ok κ m) gcN_ok (xN_ok gcN_ok (ex_nil) gcN_ok gcN_ok) (cut := noCut) (X := (xN (gcN 1 []) [] (gcN 1 [4]) (gcN 1 [1000000]))) (id := 0) (body := bodyOf (pieceOf (.blk 0) (getBody Tryd.f25))) (cuts_by (l := []) (by kernel_rfl) (all_nil)) (f := slices_IndexFunc.l0 κ) (fun s => by kernel_rfl) (fun k s => by kernel_rfl) κ
def cc_slices_IndexFunc_1 (κ : Nat) : Cut T := p_slices_IndexFunc_0.cut (gcN 1 [0, 1, 7, 8]) (slices_IndexFunc.l0 κ κ)
theorem cc_slices_IndexFunc_1_ok (κ : Nat) (m : Int) : CutOk Tryd.prog C (G m) Tryd.f25.ntmps 1 (pieceOf (.blk 0) (getBody Tryd.f25)) (cc_slices_IndexFunc_1 κ) := p_slices_IndexFunc_0_ct κ m
def ct_slices_IndexFunc_1 (κ : Nat) : Key → Option (Cut T) := addCut noCut (.blk 0) (cc_slices_IndexFunc_1 κ)
def sp_slices_IndexFunc : Spec T ((List SpecSpec) × ByteArray) (Int × ByteArray) where
  dcI a H := match a, H with
    | [(.v (.sl 29 a0)), (.fn (.func 26) [] [(.ptr 0 0)])], [(.cells 9 none [(.v (.s a1))])] => some (a0, a1)
    | _, _ => none
  ecA := fun (a0, a1) => [(.v (.sl 29 a0)), (.fn (.func 26) [] [(.ptr 0 0)])]
  ecH := fun (a0, a1) => [(.cells 9 none [(.v (.s a1))])]
  dcO o := match o with
    | .ret (.v (.i .i64 a0)) [(.cells 9 none [(.v (.s a1))])] => some (a0, a1)
    | _ => none
  goO := fun _ (a0, a1) k => k (.ret (.v (.i .i64 a0)) [(.cells 9 none [(.v (.s a1))])])
  ecO := fun (a0, a1) => .ret (.v (.i .i64 a0)) [(.cells 9 none [(.v (.s a1))])]
theorem sp_slices_IndexFunc_ok : SpecOk sp_slices_IndexFunc := by
  refine ⟨fun a H i h => ?_, fun o x h => ?_, fun R e k => by kernel_rfl⟩
  · simp only [sp_slices_IndexFunc] at h ⊢; split at h <;> first | (cases h; exact ⟨rfl, rfl⟩) | (cases h; done)
  · simp only [sp_slices_IndexFunc] at h ⊢; split at h <;> first | (cases h; rfl) | (cases h; done)
theorem ok_slices_IndexFunc (κ : Nat) (m : Int) : EOk Tryd.prog C (G m) 25 (sp_slices_IndexFunc.entry (fun (a0, a1) => slices_IndexFunc κ a0 a1)) :=
  Spec.ok sp_slices_IndexFunc_ok C_ok mixed (gam11_ok κ m) (cut := (ct_slices_IndexFunc_1 κ)) (NR := (gcN 1 [0])) (NP := (gcN 1 [0])) (nB := 1) Tryd.func25 (c := (getBody Tryd.f25)) (by kernel_rfl) (by kernel_rfl) (fun i => by kernel_rfl) gcN_ok gcN_ok (cuts_by (l := [(pieceOf (.blk 0) (getBody Tryd.f25), cc_slices_IndexFunc_1 κ)]) (by kernel_rfl) (all_cons (cc_slices_IndexFunc_1_ok κ m) (all_nil))) (fun i => by kernel_rfl)
noncomputable def gam12 (κ : Nat) : Gam T := (gam11 κ).addS 25 sp_slices_IndexFunc (fun (a0, a1) => slices_IndexFunc κ a0 a1)
theorem gam12_ok (κ : Nat) (m : Int) : GOk Tryd.prog C (G m) (gam12 κ) := (gam11_ok κ m).addS (ok_slices_IndexFunc κ m)
def sp_spec_Find : Spec T (ByteArray × Int × Int × Int × Int × (List ByteArray) × Bool × Int × (List SpecSpec) × ByteArray) (Int) where
  dcI a H := match a, H with
    | [(.agg [(.v (.s a0)), (.v (.i .i64 a1)), (.v (.i .i64 a2)), (.v (.i .u64 a3)), (.v (.i .u64 a4)), (.v (.sl 9 a5)), (.v (.b a6)), (.v (.i .i64 a7)), (.v (.sl 29 a8))]), (.v (.s a9))], [] => some (a0, a1, a2, a3, a4, a5, a6, a7, a8, a9)
    | _, _ => none
  ecA := fun (a0, a1, a2, a3, a4, a5, a6, a7, a8, a9) => [(.agg [(.v (.s a0)), (.v (.i .i64 a1)), (.v (.i .i64 a2)), (.v (.i .u64 a3)), (.v (.i .u64 a4)), (.v (.sl 9 a5)), (.v (.b a6)), (.v (.i .i64 a7)), (.v (.sl 29 a8))]), (.v (.s a9))]
  ecH := fun (a0, a1, a2, a3, a4, a5, a6, a7, a8, a9) => []
  dcO o := match o with
    | .ret (.v (.i .i64 a0)) [] => some a0
    | _ => none
  goO := fun _ a0 k => k (.ret (.v (.i .i64 a0)) [])
  ecO := fun a0 => .ret (.v (.i .i64 a0)) []
theorem sp_spec_Find_ok : SpecOk sp_spec_Find := by
  refine ⟨fun a H i h => ?_, fun o x h => ?_, fun R e k => by kernel_rfl⟩
  · simp only [sp_spec_Find] at h ⊢; split at h <;> first | (cases h; exact ⟨rfl, rfl⟩) | (cases h; done)
  · simp only [sp_spec_Find] at h ⊢; split at h <;> first | (cases h; rfl) | (cases h; done)
theorem ok_spec_Find (κ : Nat) (m : Int) : EOk Tryd.prog C (G m) 16 (sp_spec_Find.entry (fun (a0, a1, a2, a3, a4, a5, a6, a7, a8, a9) => spec_Find κ a0 a1 a2 a3 a4 a5 a6 a7 a8 a9)) :=
  Spec.ok sp_spec_Find_ok C_ok mixed (gam12_ok κ m) (cut := noCut) (NR := (gcN 0 [0])) (NP := (gcN 0 [0])) (nB := 0) Tryd.func16 (c := (getBody Tryd.f16)) (by kernel_rfl) (by kernel_rfl) (fun i => by kernel_rfl) gcN_ok gcN_ok (cuts_by (l := []) (by kernel_rfl) (all_nil)) (fun i => by kernel_rfl)
noncomputable def gam13 (κ : Nat) : Gam T := (gam12 κ).addS 16 sp_spec_Find (fun (a0, a1, a2, a3, a4, a5, a6, a7, a8, a9) => spec_Find κ a0 a1 a2 a3 a4 a5 a6 a7 a8 a9)
theorem gam13_ok (κ : Nat) (m : Int) : GOk Tryd.prog C (G m) (gam13 κ) := (gam12_ok κ m).addS (ok_spec_Find κ m)
def p_path_At_3 : Piece T (Bool × (List ApiStep) × Int × Int × ByteArray × Int × Int × Int × Int × Bool × Int × ByteArray × Int × Int × Int × Int × (List ByteArray) × Bool × Int × (List SpecSpec) × ByteArray × ByteArray) ((List ApiStep) × Int × Int × Bool × ByteArray × Int × Int × Int × Int × Bool × Int × ByteArray × Int × Int × Int × Int × (List ByteArray) × Bool × Int × (List SpecSpec)) where
  dcS env H ds := match env 4, env 6, env 9, env 11, env 21, env 22, env 23, H, ds with
    | (.ptr 0 0), (.ptr 1 0), (.ptr 2 0), (.v (.b a0)), (.v (.sl 46 a1)), (.v (.i .i64 a2)), (.v (.i .i64 a3)), [(.cells 29 none [(.v (.s a4)), (.v (.i .i64 a5)), (.v (.i .i64 a6)), (.v (.i .u64 a7)), (.v (.i .u64 a8)), .cap0, (.v (.b a9)), (.v (.i .i64 a10)), .cap0]), (.cells 29 none [(.v (.s a11)), (.v (.i .i64 a12)), (.v (.i .i64 a13)), (.v (.i .u64 a14)), (.v (.i .u64 a15)), (.v (.sl 9 a16)), (.v (.b a17)), (.v (.i .i64 a18)), (.v (.sl 29 a19))]), (.cells 46 none [(.v (.s a20)), (.v (.s a21))])], [] => some (a0, a1, a2, a3, a4, a5, a6, a7, a8, a9, a10, a11, a12, a13, a14, a15, a16, a17, a18, a19, a20, a21)
    | _, _, _, _, _, _, _, _, _ => none
  slS := fun (a0, a1, a2, a3, a4, a5, a6, a7, a8, a9, a10, a11, a12, a13, a14, a15, a16, a17, a18, a19, a20, a21) => [(4, (.ptr 0 0)), (6, (.ptr 1 0)), (9, (.ptr 2 0)), (11, (.v (.b a0))), (21, (.v (.sl 46 a1))), (22, (.v (.i .i64 a2))), (23, (.v (.i .i64 a3)))]
  obS := fun (a0, a1, a2, a3, a4, a5, a6, a7, a8, a9, a10, a11, a12, a13, a14, a15, a16, a17, a18, a19, a20, a21) => [(.cells 29 none [(.v (.s a4)), (.v (.i .i64 a5)), (.v (.i .i64 a6)), (.v (.i .u64 a7)), (.v (.i .u64 a8)), .cap0, (.v (.b a9)), (.v (.i .i64 a10)), .cap0]), (.cells 29 none [(.v (.s a11)), (.v (.i .i64 a12)), (.v (.i .i64 a13)), (.v (.i .u64 a14)), (.v (.i .u64 a15)), (.v (.sl 9 a16)), (.v (.b a17)), (.v (.i .i64 a18)), (.v (.sl 29 a19))]), (.cells 46 none [(.v (.s a20)), (.v (.s a21))])]
  dsS := fun (a0, a1, a2, a3, a4, a5, a6, a7, a8, a9, a10, a11, a12, a13, a14, a15, a16, a17, a18, a19, a20, a21) => []
  dcE x env H ds := match x, env 4, env 6, env 21, env 22, env 23, env 57, H, ds with
    | .normal, (.ptr 0 0), (.ptr 1 0), (.v (.sl 46 a0)), (.v (.i .i64 a1)), (.v (.i .i64 a2)), (.v (.b a3)), [(.cells 29 none [(.v (.s a4)), (.v (.i .i64 a5)), (.v (.i .i64 a6)), (.v (.i .u64 a7)), (.v (.i .u64 a8)), .cap0, (.v (.b a9)), (.v (.i .i64 a10)), .cap0]), (.cells 29 none [(.v (.s a11)), (.v (.i .i64 a12)), (.v (.i .i64 a13)), (.v (.i .u64 a14)), (.v (.i .u64 a15)), (.v (.sl 9 a16)), (.v (.b a17)), (.v (.i .i64 a18)), (.v (.sl 29 a19))])], [] => some (a0, a1, a2, a3, a4, a5, a6, a7, a8, a9, a10, a11, a12, a13, a14, a15, a16, a17, a18, a19)
    | _, _, _, _, _, _, _, _, _ => none
  exE := fun (a0, a1, a2, a3, a4, a5, a6, a7, a8, a9, a10, a11, a12, a13, a14, a15, a16, a17, a18, a19) => .normal
  slE := fun (a0, a1, a2, a3, a4, a5, a6, a7, a8, a9, a10, a11, a12, a13, a14, a15, a16, a17, a18, a19) => [(4, (.ptr 0 0)), (6, (.ptr 1 0)), (21, (.v (.sl 46 a0))), (22, (.v (.i .i64 a1))), (23, (.v (.i .i64 a2))), (57, (.v (.b a3)))]
  obE := fun (a0, a1, a2, a3, a4, a5, a6, a7, a8, a9, a10, a11, a12, a13, a14, a15, a16, a17, a18, a19) => [(.cells 29 none [(.v (.s a4)), (.v (.i .i64 a5)), (.v (.i .i64 a6)), (.v (.i .u64 a7)), (.v (.i .u64 a8)), .cap0, (.v (.b a9)), (.v (.i .i64 a10)), .cap0]), (.cells 29 none [(.v (.s a11)), (.v (.i .i64 a12)), (.v (.i .i64 a13)), (.v (.i .u64 a14)), (.v (.i .u64 a15)), (.v (.sl 9 a16)), (.v (.b a17)), (.v (.i .i64 a18)), (.v (.sl 29 a19))])]
  dsE := fun (a0, a1, a2, a3, a4, a5, a6, a7, a8, a9, a10, a11, a12, a13, a14, a15, a16, a17, a18, a19) => []
  goE := fun _ (a0, a1, a2, a3, a4, a5, a6, a7, a8, a9, a10, a11, a12, a13, a14, a15, a16, a17, a18, a19) k => k .normal [(4, (.ptr 0 0)), (6, (.ptr 1 0)), (21, (.v (.sl 46 a0))), (22, (.v (.i .i64 a1))), (23, (.v (.i .i64 a2))), (57, (.v (.b a3)))] [(.cells 29 none [(.v (.s a4)), (.v (.i .i64 a5)), (.v (.i .i64 a6)), (.v (.i .u64 a7)), (.v (.i .u64 a8)), .cap0, (.v (.b a9)), (.v (.i .i64 a10)), .cap0]), (.cells 29 none [(.v (.s a11)), (.v (.i .i64 a12)), (.v (.i .i64 a13)), (.v (.i .u64 a14)), (.v (.i .u64 a15)), (.v (.sl 9 a16)), (.v (.b a17)), (.v (.i .i64 a18)), (.v (.sl 29 a19))])] []
theorem p_path_At_3_ok : PieceOk p_path_At_3 := by
  refine ⟨fun env H ds s h => ?_, fun x env H ds e h => ?_, fun R e k => by kernel_rfl⟩
  · simp only [p_path_At_3] at h ⊢; split at h <;> first | (cases h; simp only [List.forall_mem_cons]; simp_all; done) | (cases h; done)
  · simp only [p_path_At_3] at h ⊢; split at h <;> first | (cases h; simp only [List.forall_mem_cons]; simp_all; done) | (cases h; done)
theorem p_path_At_3_ct (κ : Nat) (m : Int) : CutOk Tryd.prog C (G m) Tryd.f7.ntmps 0 (pieceOf (.reg 12) (getBody Tryd.f7)) (p_path_At_3.cut (gcN 0 [4, 6, 9, 11, 21, 22, 23]) (fun (a0, a1, a2, a3, a4, a5, a6, a7, a8, a9, a10, a11, a12, a13, a14, a15, a16, a17, a18, a19, a20, a21) => path_At.v3 κ a0 a1 a2 a3 a4 a5 a6 a7 a8 a9 a10 a11 a12 a13 a14 a15 a16 a17 a18 a19 a20 a21)) :=
  Piece.join p_path_At_3_ok C_ok mixed (gam13_ok κ m) gcN_ok (xN_ok gcN_ok (ex_cons gcN_ok (ex_cons gcN_ok (ex_nil))) gcN_ok gcN_ok) (cut := noCut) (X := (xN (gcN 0 [4, 6, 21, 22, 23, 57]) [(1, (gcN 0 [4, 6, 21, 22, 23])), (0, (gcN 0 [4, 6]))] (gcN 0 [4, 5]) (gcN 0 [1000000]))) (cuts_by (l := []) (by kernel_rfl) (all_nil)) (fun s => by kernel_rfl)
def cc_path_At_4 (κ : Nat) : Cut T := p_path_At_3.cut (gcN 0 [4, 6, 9, 11, 21, 22, 23]) (fun (a0, a1, a2, a3, a4, a5, a6, a7, a8, a9, a10, a11, a12, a13, a14, a15, a16, a17, a18, a19, a20, a21) => path_At.v3 κ a0 a1 a2 a3 a4 a5 a6 a7 a8 a9 a10 a11 a12 a13 a14 a15 a16 a17 a18 a19 a20 a21)
theorem cc_path_At_4_ok (κ : Nat) (m : Int) : CutOk Tryd.prog C (G m) Tryd.f7.ntmps 0 (pieceOf (.reg 12) (getBody Tryd.f7)) (cc_path_At_4 κ) := p_path_At_3_ct κ m
def ct_path_At_4 (κ : Nat) : Key → Option (Cut T) := addCut noCut (.reg 12) (cc_path_At_4 κ)
def p_path_At_2 : Piece T ((List ApiStep) × Int × Int × ByteArray × Int × Int × Int × Int × Bool × Int × ByteArray × Int × Int × Int × Int × (List ByteArray) × Bool × Int × (List SpecSpec)) ((ByteArray × Int × Int × Int × Int × Bool × Int × ByteArray × Int × Int × Int × Int × (List ByteArray) × Bool × Int × (List SpecSpec)) ⊕ (Int × ByteArray × Int × Int × Int × Int × Bool × Int)) where
  dcS env H ds := match env 4, env 6, env 21, env 22, env 23, H, ds with
    | (.ptr 0 0), (.ptr 1 0), (.v (.sl 46 a0)), (.v (.i .i64 a1)), (.v (.i .i64 a2)), [(.cells 29 none [(.v (.s a3)), (.v (.i .i64 a4)), (.v (.i .i64 a5)), (.v (.i .u64 a6)), (.v (.i .u64 a7)), .cap0, (.v (.b a8)), (.v (.i .i64 a9)), .cap0]), (.cells 29 none [(.v (.s a10)), (.v (.i .i64 a11)), (.v (.i .i64 a12)), (.v (.i .u64 a13)), (.v (.i .u64 a14)), (.v (.sl 9 a15)), (.v (.b a16)), (.v (.i .i64 a17)), (.v (.sl 29 a18))])], [] => some (a0, a1, a2, a3, a4, a5, a6, a7, a8, a9, a10, a11, a12, a13, a14, a15, a16, a17, a18)
    | _, _, _, _, _, _, _ => none
  slS := fun (a0, a1, a2, a3, a4, a5, a6, a7, a8, a9, a10, a11, a12, a13, a14, a15, a16, a17, a18) => [(4, (.ptr 0 0)), (6, (.ptr 1 0)), (21, (.v (.sl 46 a0))), (22, (.v (.i .i64 a1))), (23, (.v (.i .i64 a2)))]
  obS := fun (a0, a1, a2, a3, a4, a5, a6, a7, a8, a9, a10, a11, a12, a13, a14, a15, a16, a17, a18) => [(.cells 29 none [(.v (.s a3)), (.v (.i .i64 a4)), (.v (.i .i64 a5)), (.v (.i .u64 a6)), (.v (.i .u64 a7)), .cap0, (.v (.b a8)), (.v (.i .i64 a9)), .cap0]), (.cells 29 none [(.v (.s a10)), (.v (.i .i64 a11)), (.v (.i .i64 a12)), (.v (.i .u64 a13)), (.v (.i .u64 a14)), (.v (.sl 9 a15)), (.v (.b a16)), (.v (.i .i64 a17)), (.v (.sl 29 a18))])]
  dsS := fun (a0, a1, a2, a3, a4, a5, a6, a7, a8, a9, a10, a11, a12, a13, a14, a15, a16, a17, a18) => []
  dcE x env H ds := match x, env 4, env 5, env 6, H, ds with
    | .normal, (.ptr 0 0), _, (.ptr 1 0), [(.cells 29 none [(.v (.s a0)), (.v (.i .i64 a1)), (.v (.i .i64 a2)), (.v (.i .u64 a3)), (.v (.i .u64 a4)), .cap0, (.v (.b a5)), (.v (.i .i64 a6)), .cap0]), (.cells 29 none [(.v (.s a7)), (.v (.i .i64 a8)), (.v (.i .i64 a9)), (.v (.i .u64 a10)), (.v (.i .u64 a11)), (.v (.sl 9 a12)), (.v (.b a13)), (.v (.i .i64 a14)), (.v (.sl 29 a15))])], [] => some (.inl (a0, a1, a2, a3, a4, a5, a6, a7, a8, a9, a10, a11, a12, a13, a14, a15))
    | .ret, (.ptr 0 0), (.v (.i .i64 a0)), _, [(.cells 29 none [(.v (.s a1)), (.v (.i .i64 a2)), (.v (.i .i64 a3)), (.v (.i .u64 a4)), (.v (.i .u64 a5)), .cap0, (.v (.b a6)), (.v (.i .i64 a7)), .cap0])], [] => some (.inr (a0, a1, a2, a3, a4, a5, a6, a7))
    | _, _, _, _, _, _ => none
  exE := fun x => match x with
    | (.inl (a0, a1, a2, a3, a4, a5, a6, a7, a8, a9, a10, a11, a12, a13, a14, a15)) => .normal
    | (.inr (a0, a1, a2, a3, a4, a5, a6, a7)) => .ret
  slE := fun x => match x with
    | (.inl (a0, a1, a2, a3, a4, a5, a6, a7, a8, a9, a10, a11, a12, a13, a14, a15)) => [(4, (.ptr 0 0)), (6, (.ptr 1 0))]
    | (.inr (a0, a1, a2, a3, a4, a5, a6, a7)) => [(4, (.ptr 0 0)), (5, (.v (.i .i64 a0)))]
  obE := fun x => match x with
    | (.inl (a0, a1, a2, a3, a4, a5, a6, a7, a8, a9, a10, a11, a12, a13, a14, a15)) => [(.cells 29 none [(.v (.s a0)), (.v (.i .i64 a1)), (.v (.i .i64 a2)), (.v (.i .u64 a3)), (.v (.i .u64 a4)), .cap0, (.v (.b a5)), (.v (.i .i64 a6)), .cap0]), (.cells 29 none [(.v (.s a7)), (.v (.i .i64 a8)), (.v (.i .i64 a9)), (.v (.i .u64 a10)), (.v (.i .u64 a11)), (.v (.sl 9 a12)), (.v (.b a13)), (.v (.i .i64 a14)), (.v (.sl 29 a15))])]
    | (.inr (a0, a1, a2, a3, a4, a5, a6, a7)) => [(.cells 29 none [(.v (.s a1)), (.v (.i .i64 a2)), (.v (.i .i64 a3)), (.v (.i .u64 a4)), (.v (.i .u64 a5)), .cap0, (.v (.b a6)), (.v (.i .i64 a7)), .cap0])]
  dsE := fun x => match x with
    | (.inl (a0, a1, a2, a3, a4, a5, a6, a7, a8, a9, a10, a11, a12, a13, a14, a15)) => []
    | (.inr (a0, a1, a2, a3, a4, a5, a6, a7)) => []
  goE := fun _ x k => match x with
    | (.inl (a0, a1, a2, a3, a4, a5, a6, a7, a8, a9, a10, a11, a12, a13, a14, a15)) => k .normal [(4, (.ptr 0 0)), (6, (.ptr 1 0))] [(.cells 29 none [(.v (.s a0)), (.v (.i .i64 a1)), (.v (.i .i64 a2)), (.v (.i .u64 a3)), (.v (.i .u64 a4)), .cap0, (.v (.b a5)), (.v (.i .i64 a6)), .cap0]), (.cells 29 none [(.v (.s a7)), (.v (.i .i64 a8)), (.v (.i .i64 a9)), (.v (.i .u64 a10)), (.v (.i .u64 a11)), (.v (.sl 9 a12)), (.v (.b a13)), (.v (.i .i64 a14)), (.v (.sl 29 a15))])] []
    | (.inr (a0, a1, a2, a3, a4, a5, a6, a7)) => k .ret [(4, (.ptr 0 0)), (5, (.v (.i .i64 a0)))] [(.cells 29 none [(.v (.s a1)), (.v (.i .i64 a2)), (.v (.i .i64 a3)), (.v (.i .u64 a4)), (.v (.i .u64 a5)), .cap0, (.v (.b a6)), (.v (.i .i64 a7)), .cap0])] []
theorem p_path_At_2_ok : PieceOk p_path_At_2 := by
  refine ⟨fun env H ds s h => ?_, fun x env H ds e h => ?_, fun R e k => by rcases e with e | e <;> kernel_rfl⟩
  · simp only [p_path_At_2] at h ⊢; split at h <;> first | (cases h; simp only [List.forall_mem_cons]; simp_all; done) | (cases h; done)
  · simp only [p_path_At_2] at h ⊢; split at h <;> first | (cases h; simp only [List.forall_mem_cons]; simp_all; done) | (cases h; done)
theorem p_path_At_2_ct (κ : Nat) (m : Int) : CutOk Tryd.prog C (G m) Tryd.f7.ntmps 0 (pieceOf (.blk 0) (getBody Tryd.f7)) (p_path_At_2.cut (gcN 0 [4, 6, 21, 22, 23]) (path_At.l2 κ κ)) :=
  Piece.loop p_path_At_2_ok C_ok mixed (gam13_ok κ m) gcN_ok (xN_ok gcN_ok (ex_nil) gcN_ok gcN_ok) (cut := (ct_path_At_4 κ)) (X := (xN (gcN 0 [4, 6]) [] (gcN 0 [4, 5]) (gcN 0 [1000000]))) (id := 0) (body := bodyOf (pieceOf (.blk 0) (getBody Tryd.f7))) (cuts_by (l := [(pieceOf (.reg 12) (getBody Tryd.f7), cc_path_At_4 κ)]) (by kernel_rfl) (all_cons (cc_path_At_4_ok κ m) (all_nil))) (f := path_At.l2 κ) (fun s => by kernel_rfl) (fun k s => by kernel_rfl) κ
def cc_path_At_5 (κ : Nat) : Cut T := p_path_At_2.cut (gcN 0 [4, 6, 21, 22, 23]) (path_At.l2 κ κ)
theorem cc_path_At_5_ok (κ : Nat) (m : Int) : CutOk Tryd.prog C (G m) Tryd.f7.ntmps 0 (pieceOf (.blk 0) (getBody Tryd.f7)) (cc_path_At_5 κ) := p_path_At_2_ct κ m
def ct_path_At_5 (κ : Nat) : Key → Option (Cut T) := addCut noCut (.blk 0) (cc_path_At_5 κ)
def sp_path_At : Spec T (Int × (List ApiStep)) (ByteArray × Int × Int × Int × Int × (List ByteArray) × Bool × Int × (List SpecSpec) × Int) where
  dcI a H := match a, H with
    | [(.v (.i .i64 a0)), (.v (.sl 46 a1))], [] => some (a0, a1)
    | _, _ => none
  ecA := fun (a0, a1) => [(.v (.i .i64 a0)), (.v (.sl 46 a1))]
  ecH := fun (a0, a1) => []
  dcO o := match o with
    | .ret (.tup [(.agg [(.v (.s a0)), (.v (.i .i64 a1)), (.v (.i .i64 a2)), (.v (.i .u64 a3)), (.v (.i .u64 a4)), (.v (.sl 9 a5)), (.v (.b a6)), (.v (.i .i64 a7)), (.v (.sl 29 a8))]), (.v (.i .i64 a9))]) [] => some (a0, a1, a2, a3, a4, a5, a6, a7, a8, a9)
    | _ => none
  goO := fun _ (a0, a1, a2, a3, a4, a5, a6, a7, a8, a9) k => k (.ret (.tup [(.agg [(.v (.s a0)), (.v (.i .i64 a1)), (.v (.i .i64 a2)), (.v (.i .u64 a3)), (.v (.i .u64 a4)), (.v (.sl 9 a5)), (.v (.b a6)), (.v (.i .i64 a7)), (.v (.sl 29 a8))]), (.v (.i .i64 a9))]) [])
  ecO := fun (a0, a1, a2, a3, a4, a5, a6, a7, a8, a9) => .ret (.tup [(.agg [(.v (.s a0)), (.v (.i .i64 a1)), (.v (.i .i64 a2)), (.v (.i .u64 a3)), (.v (.i .u64 a4)), (.v (.sl 9 a5)), (.v (.b a6)), (.v (.i .i64 a7)), (.v (.sl 29 a8))]), (.v (.i .i64 a9))]) []
theorem sp_path_At_ok : SpecOk sp_path_At := by
  refine ⟨fun a H i h => ?_, fun o x h => ?_, fun R e k => by kernel_rfl⟩
  · simp only [sp_path_At] at h ⊢; split at h <;> first | (cases h; exact ⟨rfl, rfl⟩) | (cases h; done)
  · simp only [sp_path_At] at h ⊢; split at h <;> first | (cases h; rfl) | (cases h; done)
theorem ok_path_At (κ : Nat) (m : Int) : EOk Tryd.prog C (G m) 7 (sp_path_At.entry (fun (a0, a1) => path_At κ a0 a1)) :=
  Spec.ok sp_path_At_ok C_ok mixed (gam13_ok κ m) (cut := (ct_path_At_5 κ)) (NR := (andN (slS 0 [0, 5] 9) (andN (slS 0 [0, 8] 29) (gcN 0 [0])))) (NP := (gcN 0 [0])) (nB := 0) Tryd.func7 (c := (getBody Tryd.f7)) (by kernel_rfl) (by kernel_rfl) (fun i => by kernel_rfl) (andN_ok (slS_ok C_ok) (andN_ok (slS_ok C_ok) gcN_ok)) gcN_ok (cuts_by (l := [(pieceOf (.blk 0) (getBody Tryd.f7), cc_path_At_5 κ)]) (by kernel_rfl) (all_cons (cc_path_At_5_ok κ m) (all_nil))) (fun i => by kernel_rfl)
noncomputable def gam14 (κ : Nat) : Gam T := (gam13 κ).addS 7 sp_path_At (fun (a0, a1) => path_At κ a0 a1)
theorem gam14_ok (κ : Nat) (m : Int) : GOk Tryd.prog C (G m) (gam14 κ) := (gam13_ok κ m).addS (ok_path_At κ m)
def p_strings_Builder_copyCheck_0 : Piece T (Bool) (Unit) where
  dcS env H ds := match env 0, env 6, H, ds with
    | (.ptr 0 0), (.v (.b a0)), [(.cells 51 none [(.v .pn), .cap0])], [] => some a0
    | _, _, _, _ => none
  slS := fun a0 => [(0, (.ptr 0 0)), (6, (.v (.b a0)))]
  obS := fun a0 => [(.cells 51 none [(.v .pn), .cap0])]
  dsS := fun a0 => []
  dcE x env H ds := match x, H, ds with
    | .normal, [(.cells 51 none [(.ptr 0 0), .cap0])], [] => some ()
    | _, _, _ => none
  exE := fun _ => .normal
  slE := fun _ => []
  obE := fun _ => [(.cells 51 none [(.ptr 0 0), .cap0])]
  dsE := fun _ => []
  goE := fun _ _ k => k .normal [] [(.cells 51 none [(.ptr 0 0), .cap0])] []
theorem p_strings_Builder_copyCheck_0_ok : PieceOk p_strings_Builder_copyCheck_0 := by
  refine ⟨fun env H ds s h => ?_, fun x env H ds e h => ?_, fun R e k => by kernel_rfl⟩
  · simp only [p_strings_Builder_copyCheck_0] at h ⊢; split at h <;> first | (cases h; simp only [List.forall_mem_cons]; simp_all; done) | (cases h; done)
  · simp only [p_strings_Builder_copyCheck_0] at h ⊢; split at h <;> first | (cases h; simp only [List.forall_mem_cons]; simp_all; done) | (cases h; done)
theorem p_strings_Builder_copyCheck_0_ct (κ : Nat) (m : Int) : CutOk Tryd.prog C (G m) Tryd.f29.ntmps 1 (pieceOf (.cnd 6 2) (getBody Tryd.f29)) (p_strings_Builder_copyCheck_0.cut (gcN 1 [0, 6]) (fun a0 => strings_Builder_copyCheck.v0 κ a0)) :=
  Piece.join p_strings_Builder_copyCheck_0_ok C_ok mixed (gam14_ok κ m) gcN_ok (xN_ok gcN_ok (ex_nil) gcN_ok gcN_ok) (cut := noCut) (X := (xN (gcN 1 []) [] (gcN 1 []) (gcN 1 [1000000]))) (cuts_by (l := []) (by kernel_rfl) (all_nil)) (fun s => by kernel_rfl)
def cc_strings_Builder_copyCheck_1 (κ : Nat) : Cut T := p_strings_Builder_copyCheck_0.cut (gcN 1 [0, 6]) (fun a0 => strings_Builder_copyCheck.v0 κ a0)
theorem cc_strings_Builder_copyCheck_1_ok (κ : Nat) (m : Int) : CutOk Tryd.prog C (G m) Tryd.f29.ntmps 1 (pieceOf (.cnd 6 2) (getBody Tryd.f29)) (cc_strings_Builder_copyCheck_1 κ) := p_strings_Builder_copyCheck_0_ct κ m
def ct_strings_Builder_copyCheck_1 (κ : Nat) : Key → Option (Cut T) := addCut noCut (.cnd 6 2) (cc_strings_Builder_copyCheck_1 κ)
def sp_strings_Builder_copyCheck : Spec T (Unit) (Unit) where
  dcI a H := match a, H with
    | [(.ptr 0 0)], [(.cells 51 none [(.v .pn), .cap0])] => some ()
    | _, _ => none
  ecA := fun _ => [(.ptr 0 0)]
  ecH := fun _ => [(.cells 51 none [(.v .pn), .cap0])]
  dcO o := match o with
    | .ret (.tup []) [(.cells 51 none [(.ptr 0 0), .cap0])] => some ()
    | _ => none
  goO := fun _ _ k => k (.ret (.tup []) [(.cells 51 none [(.ptr 0 0), .cap0])])
  ecO := fun _ => .ret (.tup []) [(.cells 51 none [(.ptr 0 0), .cap0])]
theorem sp_strings_Builder_copyCheck_ok : SpecOk sp_strings_Builder_copyCheck := by
  refine ⟨fun a H i h => ?_, fun o x h => ?_, fun R e k => by kernel_rfl⟩
  · simp only [sp_strings_Builder_copyCheck] at h ⊢; split at h <;> first | (cases h; exact ⟨rfl, rfl⟩) | (cases h; done)
  · simp only [sp_strings_Builder_copyCheck] at h ⊢; split at h <;> first | (cases h; rfl) | (cases h; done)
theorem ok_strings_Builder_copyCheck (κ : Nat) (m : Int) : EOk Tryd.prog C (G m) 29 (sp_strings_Builder_copyCheck.entry (fun _ => strings_Builder_copyCheck κ )) :=
  Spec.ok sp_strings_Builder_copyCheck_ok C_ok mixed (gam14_ok κ m) (cut := (ct_strings_Builder_copyCheck_1 κ)) (NR := (gcN 1 [0])) (NP := (gcN 1 [0])) (nB := 1) Tryd.func29 (c := (getBody Tryd.f29)) (by kernel_rfl) (by kernel_rfl) (fun i => by kernel_rfl) gcN_ok gcN_ok (cuts_by (l := [(pieceOf (.cnd 6 2) (getBody Tryd.f29), cc_strings_Builder_copyCheck_1 κ)]) (by kernel_rfl) (all_cons (cc_strings_Builder_copyCheck_1_ok κ m) (all_nil))) (fun i => by kernel_rfl)
noncomputable def gam15 (κ : Nat) : Gam T := (gam14 κ).addS 29 sp_strings_Builder_copyCheck (fun _ => strings_Builder_copyCheck κ )
theorem gam15_ok (κ : Nat) (m : Int) : GOk Tryd.prog C (G m) (gam15 κ) := (gam14_ok κ m).addS (ok_strings_Builder_copyCheck κ m)
def sp_strings_Builder_WriteString : Spec T (ByteArray) (Int × (List Int)) where
  dcI a H := match a, H with
    | [(.ptr 0 0), (.v (.s a0))], [(.cells 51 none [(.v .pn), .cap0])] => some a0
    | _, _ => none
  ecA := fun a0 => [(.ptr 0 0), (.v (.s a0))]
  ecH := fun a0 => [(.cells 51 none [(.v .pn), .cap0])]
  dcO o := match o with
    | .ret (.tup [(.v (.i .i64 a0)), (.v .if0)]) [(.cells 51 none [(.ptr 0 0), (.own 1)]), (.row 5 a1 true)] => some (a0, a1)
    | _ => none
  goO := fun _ (a0, a1) k => k (.ret (.tup [(.v (.i .i64 a0)), (.v .if0)]) [(.cells 51 none [(.ptr 0 0), (.own 1)]), (.row 5 a1 true)])
  ecO := fun (a0, a1) => .ret (.tup [(.v (.i .i64 a0)), (.v .if0)]) [(.cells 51 none [(.ptr 0 0), (.own 1)]), (.row 5 a1 true)]
theorem sp_strings_Builder_WriteString_ok : SpecOk sp_strings_Builder_WriteString := by
  refine ⟨fun a H i h => ?_, fun o x h => ?_, fun R e k => by kernel_rfl⟩
  · simp only [sp_strings_Builder_WriteString] at h ⊢; split at h <;> first | (cases h; exact ⟨rfl, rfl⟩) | (cases h; done)
  · simp only [sp_strings_Builder_WriteString] at h ⊢; split at h <;> first | (cases h; rfl) | (cases h; done)
theorem ok_strings_Builder_WriteString (κ : Nat) (m : Int) : EOk Tryd.prog C (G m) 18 (sp_strings_Builder_WriteString.entry (fun a0 => strings_Builder_WriteString κ a0)) :=
  Spec.ok sp_strings_Builder_WriteString_ok C_ok mixed (gam15_ok κ m) (cut := noCut) (NR := (gcN 1 [0])) (NP := (gcN 1 [0])) (nB := 1) Tryd.func18 (c := (getBody Tryd.f18)) (by kernel_rfl) (by kernel_rfl) (fun i => by kernel_rfl) gcN_ok gcN_ok (cuts_by (l := []) (by kernel_rfl) (all_nil)) (fun i => by kernel_rfl)
noncomputable def gam16 (κ : Nat) : Gam T := (gam15 κ).addS 18 sp_strings_Builder_WriteString (fun a0 => strings_Builder_WriteString κ a0)
theorem gam16_ok (κ : Nat) (m : Int) : GOk Tryd.prog C (G m) (gam16 κ) := (gam15_ok κ m).addS (ok_strings_Builder_WriteString κ m)
def p_strings_Builder_copyCheck_2_0 : Piece T (Bool × (List Int)) ((List Int)) where
  dcS env H ds := match env 0, env 6, H, ds with
    | (.ptr 0 0), (.v (.b a0)), [(.cells 51 none [(.ptr 0 0), (.own 1)]), (.row 5 a1 true)], [] => some (a0, a1)
    | _, _, _, _ => none
  slS := fun (a0, a1) => [(0, (.ptr 0 0)), (6, (.v (.b a0)))]
  obS := fun (a0, a1) => [(.cells 51 none [(.ptr 0 0), (.own 1)]), (.row 5 a1 true)]
  dsS := fun (a0, a1) => []
  dcE x env H ds := match x, H, ds with
    | .normal, [(.cells 51 none [(.ptr 0 0), (.own 1)]), (.row 5 a0 true)], [] => some a0
    | _, _, _ => none
  exE := fun a0 => .normal
  slE := fun a0 => []
  obE := fun a0 => [(.cells 51 none [(.ptr 0 0), (.own 1)]), (.row 5 a0 true)]
  dsE := fun a0 => []
  goE := fun _ a0 k => k .normal [] [(.cells 51 none [(.ptr 0 0), (.own 1)]), (.row 5 a0 true)] []
theorem p_strings_Builder_copyCheck_2_0_ok : PieceOk p_strings_Builder_copyCheck_2_0 := by
  refine ⟨fun env H ds s h => ?_, fun x env H ds e h => ?_, fun R e k => by kernel_rfl⟩
  · simp only [p_strings_Builder_copyCheck_2_0] at h ⊢; split at h <;> first | (cases h; simp only [List.forall_mem_cons]; simp_all; done) | (cases h; done)
  · simp only [p_strings_Builder_copyCheck_2_0] at h ⊢; split at h <;> first | (cases h; simp only [List.forall_mem_cons]; simp_all; done) | (cases h; done)
theorem p_strings_Builder_copyCheck_2_0_ct (κ : Nat) (m : Int) : CutOk Tryd.prog C (G m) Tryd.f29.ntmps 2 (pieceOf (.cnd 6 2) (getBody Tryd.f29)) (p_strings_Builder_copyCheck_2_0.cut (gcN 2 [0, 6]) (fun (a0, a1) => strings_Builder_copyCheck_2.v0 κ a0 a1)) :=
  Piece.join p_strings_Builder_copyCheck_2_0_ok C_ok mixed (gam16_ok κ m) gcN_ok (xN_ok gcN_ok (ex_nil) gcN_ok gcN_ok) (cut := noCut) (X := (xN (gcN 2 []) [] (gcN 2 []) (gcN 2 [1000000]))) (cuts_by (l := []) (by kernel_rfl) (all_nil)) (fun s => by kernel_rfl)
def cc_strings_Builder_copyCheck_2_1 (κ : Nat) : Cut T := p_strings_Builder_copyCheck_2_0.cut (gcN 2 [0, 6]) (fun (a0, a1) => strings_Builder_copyCheck_2.v0 κ a0 a1)
theorem cc_strings_Builder_copyCheck_2_1_ok (κ : Nat) (m : Int) : CutOk Tryd.prog C (G m) Tryd.f29.ntmps 2 (pieceOf (.cnd 6 2) (getBody Tryd.f29)) (cc_strings_Builder_copyCheck_2_1 κ) := p_strings_Builder_copyCheck_2_0_ct κ m
def ct_strings_Builder_copyCheck_2_1 (κ : Nat) : Key → Option (Cut T) := addCut noCut (.cnd 6 2) (cc_strings_Builder_copyCheck_2_1 κ)
def sp_strings_Builder_copyCheck_2 : Spec T ((List Int)) ((List Int)) where
  dcI a H := match a, H with
    | [(.ptr 0 0)], [(.cells 51 none [(.ptr 0 0), (.own 1)]), (.row 5 a0 true)] => some a0
    | _, _ => none
  ecA := fun a0 => [(.ptr 0 0)]
  ecH := fun a0 => [(.cells 51 none [(.ptr 0 0), (.own 1)]), (.row 5 a0 true)]
  dcO o := match o with
    | .ret (.tup []) [(.cells 51 none [(.ptr 0 0), (.own 1)]), (.row 5 a0 true)] => some a0
    | _ => none
  goO := fun _ a0 k => k (.ret (.tup []) [(.cells 51 none [(.ptr 0 0), (.own 1)]), (.row 5 a0 true)])
  ecO := fun a0 => .ret (.tup []) [(.cells 51 none [(.ptr 0 0), (.own 1)]), (.row 5 a0 true)]
theorem sp_strings_Builder_copyCheck_2_ok : SpecOk sp_strings_Builder_copyCheck_2 := by
  refine ⟨fun a H i h => ?_, fun o x h => ?_, fun R e k => by kernel_rfl⟩
  · simp only [sp_strings_Builder_copyCheck_2] at h ⊢; split at h <;> first | (cases h; exact ⟨rfl, rfl⟩) | (cases h; done)
  · simp only [sp_strings_Builder_copyCheck_2] at h ⊢; split at h <;> first | (cases h; rfl) | (cases h; done)
theorem ok_strings_Builder_copyCheck_2 (κ : Nat) (m : Int) : EOk Tryd.prog C (G m) 29 (sp_strings_Builder_copyCheck_2.entry (fun a0 => strings_Builder_copyCheck_2 κ a0)) :=
  Spec.ok sp_strings_Builder_copyCheck_2_ok C_ok mixed (gam16_ok κ m) (cut := (ct_strings_Builder_copyCheck_2_1 κ)) (NR := (gcN 2 [0])) (NP := (gcN 2 [0])) (nB := 2) Tryd.func29 (c := (getBody Tryd.f29)) (by kernel_rfl) (by kernel_rfl) (fun i => by kernel_rfl) gcN_ok gcN_ok (cuts_by (l := [(pieceOf (.cnd 6 2) (getBody Tryd.f29), cc_strings_Builder_copyCheck_2_1 κ)]) (by kernel_rfl) (all_cons (cc_strings_Builder_copyCheck_2_1_ok κ m) (all_nil))) (fun i => by kernel_rfl)
noncomputable def gam17 (κ : Nat) : Gam T := (gam16 κ).addS 29 sp_strings_Builder_copyCheck_2 (fun a0 => strings_Builder_copyCheck_2 κ a0)
theorem gam17_ok (κ : Nat) (m : Int) : GOk Tryd.prog C (G m) (gam17 κ) := (gam16_ok κ m).addS (ok_strings_Builder_copyCheck_2 κ m)
def sp_strings_Builder_WriteString_2 : Spec T (ByteArray × (List Int)) (Int × (List Int)) where
  dcI a H := match a, H with
    | [(.ptr 0 0), (.v (.s a0))], [(.cells 51 none [(.ptr 0 0), (.own 1)]), (.row 5 a1 true)] => some (a0, a1)
    | _, _ => none
  ecA := fun (a0, a1) => [(.ptr 0 0), (.v (.s a0))]
  ecH := fun (a0, a1) => [(.cells 51 none [(.ptr 0 0), (.own 1)]), (.row 5 a1 true)]
  dcO o := match o with
    | .ret (.tup [(.v (.i .i64 a0)), (.v .if0)]) [(.cells 51 none [(.ptr 0 0), (.own 1)]), (.row 5 a1 true)] => some (a0, a1)
    | _ => none
  goO := fun _ (a0, a1) k => k (.ret (.tup [(.v (.i .i64 a0)), (.v .if0)]) [(.cells 51 none [(.ptr 0 0), (.own 1)]), (.row 5 a1 true)])
  ecO := fun (a0, a1) => .ret (.tup [(.v (.i .i64 a0)), (.v .if0)]) [(.cells 51 none [(.ptr 0 0), (.own 1)]), (.row 5 a1 true)]
theorem sp_strings_Builder_WriteString_2_ok : SpecOk sp_strings_Builder_WriteString_2 := by
  refine ⟨fun a H i h => ?_, fun o x h => ?_, fun R e k => by kernel_rfl⟩
  · simp only [sp_strings_Builder_WriteString_2] at h ⊢; split at h <;> first | (cases h; exact ⟨rfl, rfl⟩) | (cases h; done)
  · simp only [sp_strings_Builder_WriteString_2] at h ⊢; split at h <;> first | (cases h; rfl) | (cases h; done)
theorem ok_strings_Builder_WriteString_2 (κ : Nat) (m : Int) : EOk Tryd.prog C (G m) 18 (sp_strings_Builder_WriteString_2.entry (fun (a0, a1) => strings_Builder_WriteString_2 κ a0 a1)) :=
  Spec.ok sp_strings_Builder_WriteString_2_ok C_ok mixed (gam17_ok κ m) (cut := noCut) (NR := (gcN 2 [0])) (NP := (gcN 2 [0])) (nB := 2) Tryd.func18 (c := (getBody Tryd.f18)) (by kernel_rfl) (by kernel_rfl) (fun i => by kernel_rfl) gcN_ok gcN_ok (cuts_by (l := []) (by kernel_rfl) (all_nil)) (fun i => by kernel_rfl)
noncomputable def gam18 (κ : Nat) : Gam T := (gam17 κ).addS 18 sp_strings_Builder_WriteString_2 (fun (a0, a1) => strings_Builder_WriteString_2 κ a0 a1)
theorem gam18_ok (κ : Nat) (m : Int) : GOk Tryd.prog C (G m) (gam18 κ) := (gam17_ok κ m).addS (ok_strings_Builder_WriteString_2 κ m)
def p_strings_Builder_copyCheck_3_0 : Piece T (Bool × (List Int)) ((List Int)) where
  dcS env H ds := match env 0, env 6, H, ds with
    | (.ptr 0 0), (.v (.b a0)), [(.cells 51 none [(.v .pn), (.own 1)]), (.row 5 a1 true)], [] => some (a0, a1)
    | _, _, _, _ => none
  slS := fun (a0, a1) => [(0, (.ptr 0 0)), (6, (.v (.b a0)))]
  obS := fun (a0, a1) => [(.cells 51 none [(.v .pn), (.own 1)]), (.row 5 a1 true)]
  dsS := fun (a0, a1) => []
  dcE x env H ds := match x, H, ds with
    | .normal, [(.cells 51 none [(.ptr 0 0), (.own 1)]), (.row 5 a0 true)], [] => some a0
    | _, _, _ => none
  exE := fun a0 => .normal
  slE := fun a0 => []
  obE := fun a0 => [(.cells 51 none [(.ptr 0 0), (.own 1)]), (.row 5 a0 true)]
  dsE := fun a0 => []
  goE := fun _ a0 k => k .normal [] [(.cells 51 none [(.ptr 0 0), (.own 1)]), (.row 5 a0 true)] []
theorem p_strings_Builder_copyCheck_3_0_ok : PieceOk p_strings_Builder_copyCheck_3_0 := by
  refine ⟨fun env H ds s h => ?_, fun x env H ds e h => ?_, fun R e k => by kernel_rfl⟩
  · simp only [p_strings_Builder_copyCheck_3_0] at h ⊢; split at h <;> first | (cases h; simp only [List.forall_mem_cons]; simp_all; done) | (cases h; done)
  · simp only [p_strings_Builder_copyCheck_3_0] at h ⊢; split at h <;> first | (cases h; simp only [List.forall_mem_cons]; simp_all; done) | (cases h; done)
theorem p_strings_Builder_copyCheck_3_0_ct (κ : Nat) (m : Int) : CutOk Tryd.prog C (G m) Tryd.f29.ntmps 2 (pieceOf (.cnd 6 2) (getBody Tryd.f29)) (p_strings_Builder_copyCheck_3_0.cut (gcN 2 [0, 6]) (fun (a0, a1) => strings_Builder_copyCheck_3.v0 κ a0 a1)) :=
  Piece.join p_strings_Builder_copyCheck_3_0_ok C_ok mixed (gam18_ok κ m) gcN_ok (xN_ok gcN_ok (ex_nil) gcN_ok gcN_ok) (cut := noCut) (X := (xN (gcN 2 []) [] (gcN 2 []) (gcN 2 [1000000]))) (cuts_by (l := []) (by kernel_rfl) (all_nil)) (fun s => by kernel_rfl)
def cc_strings_Builder_copyCheck_3_1 (κ : Nat) : Cut T := p_strings_Builder_copyCheck_3_0.cut (gcN 2 [0, 6]) (fun (a0, a1) => strings_Builder_copyCheck_3.v0 κ a0 a1)
theorem cc_strings_Builder_copyCheck_3_1_ok (κ : Nat) (m : Int) : CutOk Tryd.prog C (G m) Tryd.f29.ntmps 2 (pieceOf (.cnd 6 2) (getBody Tryd.f29)) (cc_strings_Builder_copyCheck_3_1 κ) := p_strings_Builder_copyCheck_3_0_ct κ m
def ct_strings_Builder_copyCheck_3_1 (κ : Nat) : Key → Option (Cut T) := addCut noCut (.cnd 6 2) (cc_strings_Builder_copyCheck_3_1 κ)
def sp_strings_Builder_copyCheck_3 : Spec T ((List Int)) ((List Int)) where
  dcI a H := match a, H with
    | [(.ptr 0 0)], [(.cells 51 none [(.v .pn), (.own 1)]), (.row 5 a0 true)] => some a0
    | _, _ => none
  ecA := fun a0 => [(.ptr 0 0)]
  ecH := fun a0 => [(.cells 51 none [(.v .pn), (.own 1)]), (.row 5 a0 true)]
  dcO o := match o with
    | .ret (.tup []) [(.cells 51 none [(.ptr 0 0), (.own 1)]), (.row 5 a0 true)] => some a0
    | _ => none
  goO := fun _ a0 k => k (.ret (.tup []) [(.cells 51 none [(.ptr 0 0), (.own 1)]), (.row 5 a0 true)])
  ecO := fun a0 => .ret (.tup []) [(.cells 51 none [(.ptr 0 0), (.own 1)]), (.row 5 a0 true)]
theorem sp_strings_Builder_copyCheck_3_ok : SpecOk sp_strings_Builder_copyCheck_3 := by
  refine ⟨fun a H i h => ?_, fun o x h => ?_, fun R e k => by kernel_rfl⟩
  · simp only [sp_strings_Builder_copyCheck_3] at h ⊢; split at h <;> first | (cases h; exact ⟨rfl, rfl⟩) | (cases h; done)
  · simp only [sp_strings_Builder_copyCheck_3] at h ⊢; split at h <;> first | (cases h; rfl) | (cases h; done)
theorem ok_strings_Builder_copyCheck_3 (κ : Nat) (m : Int) : EOk Tryd.prog C (G m) 29 (sp_strings_Builder_copyCheck_3.entry (fun a0 => strings_Builder_copyCheck_3 κ a0)) :=
  Spec.ok sp_strings_Builder_copyCheck_3_ok C_ok mixed (gam18_ok κ m) (cut := (ct_strings_Builder_copyCheck_3_1 κ)) (NR := (gcN 2 [0])) (NP := (gcN 2 [0])) (nB := 2) Tryd.func29 (c := (getBody Tryd.f29)) (by kernel_rfl) (by kernel_rfl) (fun i => by kernel_rfl) gcN_ok gcN_ok (cuts_by (l := [(pieceOf (.cnd 6 2) (getBody Tryd.f29), cc_strings_Builder_copyCheck_3_1 κ)]) (by kernel_rfl) (all_cons (cc_strings_Builder_copyCheck_3_1_ok κ m) (all_nil))) (fun i => by kernel_rfl)
noncomputable def gam19 (κ : Nat) : Gam T := (gam18 κ).addS 29 sp_strings_Builder_copyCheck_3 (fun a0 => strings_Builder_copyCheck_3 κ a0)
theorem gam19_ok (κ : Nat) (m : Int) : GOk Tryd.prog C (G m) (gam19 κ) := (gam18_ok κ m).addS (ok_strings_Builder_copyCheck_3 κ m)
def sp_strings_Builder_WriteString_3 : Spec T (ByteArray × (List Int)) (Int × (List Int)) where
  dcI a H := match a, H with
    | [(.ptr 0 0), (.v (.s a0))], [(.cells 51 none [(.v .pn), (.own 1)]), (.row 5 a1 true)] => some (a0, a1)
    | _, _ => none
  ecA := fun (a0, a1) => [(.ptr 0 0), (.v (.s a0))]
  ecH := fun (a0, a1) => [(.cells 51 none [(.v .pn), (.own 1)]), (.row 5 a1 true)]
  dcO o := match o with
    | .ret (.tup [(.v (.i .i64 a0)), (.v .if0)]) [(.cells 51 none [(.ptr 0 0), (.own 1)]), (.row 5 a1 true)] => some (a0, a1)
    | _ => none
  goO := fun _ (a0, a1) k => k (.ret (.tup [(.v (.i .i64 a0)), (.v .if0)]) [(.cells 51 none [(.ptr 0 0), (.own 1)]), (.row 5 a1 true)])
  ecO := fun (a0, a1) => .ret (.tup [(.v (.i .i64 a0)), (.v .if0)]) [(.cells 51 none [(.ptr 0 0), (.own 1)]), (.row 5 a1 true)]
theorem sp_strings_Builder_WriteString_3_ok : SpecOk sp_strings_Builder_WriteString_3 := by
  refine ⟨fun a H i h => ?_, fun o x h => ?_, fun R e k => by kernel_rfl⟩
  · simp only [sp_strings_Builder_WriteString_3] at h ⊢; split at h <;> first | (cases h; exact ⟨rfl, rfl⟩) | (cases h; done)
  · simp only [sp_strings_Builder_WriteString_3] at h ⊢; split at h <;> first | (cases h; rfl) | (cases h; done)
theorem ok_strings_Builder_WriteString_3 (κ : Nat) (m : Int) : EOk Tryd.prog C (G m) 18 (sp_strings_Builder_WriteString_3.entry (fun (a0, a1) => strings_Builder_WriteString_3 κ a0 a1)) :=
  Spec.ok sp_strings_Builder_WriteString_3_ok C_ok mixed (gam19_ok κ m) (cut := noCut) (NR := (gcN 2 [0])) (NP := (gcN 2 [0])) (nB := 2) Tryd.func18 (c := (getBody Tryd.f18)) (by kernel_rfl) (by kernel_rfl) (fun i => by kernel_rfl) gcN_ok gcN_ok (cuts_by (l := []) (by kernel_rfl) (all_nil)) (fun i => by kernel_rfl)
noncomputable def gam20 (κ : Nat) : Gam T := (gam19 κ).addS 18 sp_strings_Builder_WriteString_3 (fun (a0, a1) => strings_Builder_WriteString_3 κ a0 a1)
theorem gam20_ok (κ : Nat) (m : Int) : GOk Tryd.prog C (G m) (gam20 κ) := (gam19_ok κ m).addS (ok_strings_Builder_WriteString_3 κ m)
def sp_strings_Builder_String : Spec T ((List Int)) (ByteArray) where
  dcI a H := match a, H with
    | [(.ptr 0 0)], [(.cells 51 none [(.v .pn), (.own 1)]), (.row 5 a0 true)] => some a0
    | _, _ => none
  ecA := fun a0 => [(.ptr 0 0)]
  ecH := fun a0 => [(.cells 51 none [(.v .pn), (.own 1)]), (.row 5 a0 true)]
  dcO o := match o with
    | .ret (.v (.s a0)) [(.cells 51 none [(.v .pn), .any]), .dead] => some a0
    | _ => none
  goO := fun _ a0 k => k (.ret (.v (.s a0)) [(.cells 51 none [(.v .pn), .any]), .dead])
  ecO := fun a0 => .ret (.v (.s a0)) [(.cells 51 none [(.v .pn), .any]), .dead]
theorem sp_strings_Builder_String_ok : SpecOk sp_strings_Builder_String := by
  refine ⟨fun a H i h => ?_, fun o x h => ?_, fun R e k => by kernel_rfl⟩
  · simp only [sp_strings_Builder_String] at h ⊢; split at h <;> first | (cases h; exact ⟨rfl, rfl⟩) | (cases h; done)
  · simp only [sp_strings_Builder_String] at h ⊢; split at h <;> first | (cases h; rfl) | (cases h; done)
theorem ok_strings_Builder_String (κ : Nat) (m : Int) : EOk Tryd.prog C (G m) 19 (sp_strings_Builder_String.entry (fun a0 => strings_Builder_String κ a0)) :=
  Spec.ok sp_strings_Builder_String_ok C_ok mixed (gam20_ok κ m) (cut := noCut) (NR := (gcN 2 [0])) (NP := (gcN 2 [0])) (nB := 2) Tryd.func19 (c := (getBody Tryd.f19)) (by kernel_rfl) (by kernel_rfl) (fun i => by kernel_rfl) gcN_ok gcN_ok (cuts_by (l := []) (by kernel_rfl) (all_nil)) (fun i => by kernel_rfl)
noncomputable def gam21 (κ : Nat) : Gam T := (gam20 κ).addS 19 sp_strings_Builder_String (fun a0 => strings_Builder_String κ a0)
theorem gam21_ok (κ : Nat) (m : Int) : GOk Tryd.prog C (G m) (gam21 κ) := (gam20_ok κ m).addS (ok_strings_Builder_String κ m)
def sp_strings_Builder_String_2 : Spec T ((List Int)) (ByteArray) where
  dcI a H := match a, H with
    | [(.ptr 0 0)], [(.cells 51 none [(.ptr 0 0), (.own 1)]), (.row 5 a0 true)] => some a0
    | _, _ => none
  ecA := fun a0 => [(.ptr 0 0)]
  ecH := fun a0 => [(.cells 51 none [(.ptr 0 0), (.own 1)]), (.row 5 a0 true)]
  dcO o := match o with
    | .ret (.v (.s a0)) [(.cells 51 none [(.ptr 0 0), .any]), .dead] => some a0
    | _ => none
  goO := fun _ a0 k => k (.ret (.v (.s a0)) [(.cells 51 none [(.ptr 0 0), .any]), .dead])
  ecO := fun a0 => .ret (.v (.s a0)) [(.cells 51 none [(.ptr 0 0), .any]), .dead]
theorem sp_strings_Builder_String_2_ok : SpecOk sp_strings_Builder_String_2 := by
  refine ⟨fun a H i h => ?_, fun o x h => ?_, fun R e k => by kernel_rfl⟩
  · simp only [sp_strings_Builder_String_2] at h ⊢; split at h <;> first | (cases h; exact ⟨rfl, rfl⟩) | (cases h; done)
  · simp only [sp_strings_Builder_String_2] at h ⊢; split at h <;> first | (cases h; rfl) | (cases h; done)
theorem ok_strings_Builder_String_2 (κ : Nat) (m : Int) : EOk Tryd.prog C (G m) 19 (sp_strings_Builder_String_2.entry (fun a0 => strings_Builder_String_2 κ a0)) :=
  Spec.ok sp_strings_Builder_String_2_ok C_ok mixed (gam21_ok κ m) (cut := noCut) (NR := (gcN 2 [0])) (NP := (gcN 2 [0])) (nB := 2) Tryd.func19 (c := (getBody Tryd.f19)) (by kernel_rfl) (by kernel_rfl) (fun i => by kernel_rfl) gcN_ok gcN_ok (cuts_by (l := []) (by kernel_rfl) (all_nil)) (fun i => by kernel_rfl)
noncomputable def gam22 (κ : Nat) : Gam T := (gam21 κ).addS 19 sp_strings_Builder_String_2 (fun a0 => strings_Builder_String_2 κ a0)
theorem gam22_ok (κ : Nat) (m : Int) : GOk Tryd.prog C (G m) (gam22 κ) := (gam21_ok κ m).addS (ok_strings_Builder_String_2 κ m)
def p_path_Show_25 : Piece T ((List ApiStep) × Int × Int × ByteArray × ByteArray × (List Int)) ((List ApiStep) × Int × Int × Bool × ByteArray × ByteArray × (List Int)) where
  dcS env H ds := match env 3, env 5, env 12, env 13, env 14, H, ds with
    | (.ptr 0 0), (.ptr 1 0), (.v (.sl 46 a0)), (.v (.i .i64 a1)), (.v (.i .i64 a2)), [(.cells 51 none [(.v .pn), (.own 2)]), (.cells 46 none [(.v (.s a3)), (.v (.s a4))]), (.row 5 a5 true)], [] => some (a0, a1, a2, a3, a4, a5)
    | _, _, _, _, _, _, _ => none
  slS := fun (a0, a1, a2, a3, a4, a5) => [(3, (.ptr 0 0)), (5, (.ptr 1 0)), (12, (.v (.sl 46 a0))), (13, (.v (.i .i64 a1))), (14, (.v (.i .i64 a2)))]
  obS := fun (a0, a1, a2, a3, a4, a5) => [(.cells 51 none [(.v .pn), (.own 2)]), (.cells 46 none [(.v (.s a3)), (.v (.s a4))]), (.row 5 a5 true)]
  dsS := fun (a0, a1, a2, a3, a4, a5) => []
  dcE x env H ds := match x, env 3, env 5, env 12, env 13, env 14, env 32, H, ds with
    | .normal, (.ptr 0 0), (.ptr 1 0), (.v (.sl 46 a0)), (.v (.i .i64 a1)), (.v (.i .i64 a2)), (.v (.b a3)), [(.cells 51 none [(.v .pn), (.own 2)]), (.cells 46 none [(.v (.s a4)), (.v (.s a5))]), (.row 5 a6 true)], [] => some (a0, a1, a2, a3, a4, a5, a6)
    | _, _, _, _, _, _, _, _, _ => none
  exE := fun (a0, a1, a2, a3, a4, a5, a6) => .normal
  slE := fun (a0, a1, a2, a3, a4, a5, a6) => [(3, (.ptr 0 0)), (5, (.ptr 1 0)), (12, (.v (.sl 46 a0))), (13, (.v (.i .i64 a1))), (14, (.v (.i .i64 a2))), (32, (.v (.b a3)))]
  obE := fun (a0, a1, a2, a3, a4, a5, a6) => [(.cells 51 none [(.v .pn), (.own 2)]), (.cells 46 none [(.v (.s a4)), (.v (.s a5))]), (.row 5 a6 true)]
  dsE := fun (a0, a1, a2, a3, a4, a5, a6) => []
  goE := fun _ (a0, a1, a2, a3, a4, a5, a6) k => k .normal [(3, (.ptr 0 0)), (5, (.ptr 1 0)), (12, (.v (.sl 46 a0))), (13, (.v (.i .i64 a1))), (14, (.v (.i .i64 a2))), (32, (.v (.b a3)))] [(.cells 51 none [(.v .pn), (.own 2)]), (.cells 46 none [(.v (.s a4)), (.v (.s a5))]), (.row 5 a6 true)] []
theorem p_path_Show_25_ok : PieceOk p_path_Show_25 := by
  refine ⟨fun env H ds s h => ?_, fun x env H ds e h => ?_, fun R e k => by kernel_rfl⟩
  · simp only [p_path_Show_25] at h ⊢; split at h <;> first | (cases h; simp only [List.forall_mem_cons]; simp_all; done) | (cases h; done)
  · simp only [p_path_Show_25] at h ⊢; split at h <;> first | (cases h; simp only [List.forall_mem_cons]; simp_all; done) | (cases h; done)
theorem p_path_Show_25_ct (κ : Nat) (m : Int) : CutOk Tryd.prog C (G m) Tryd.f6.ntmps 0 (pieceOf (.reg 9) (getBody Tryd.f6)) (p_path_Show_25.cut (gcN 0 [3, 5, 12, 13, 14]) (fun (a0, a1, a2, a3, a4, a5) => path_Show.v25 κ a0 a1 a2 a3 a4 a5)) :=
  Piece.join p_path_Show_25_ok C_ok mixed (gam20_ok κ m) gcN_ok (xN_ok gcN_ok (ex_cons gcN_ok (ex_cons gcN_ok (ex_nil))) gcN_ok gcN_ok) (cut := noCut) (X := (xN (gcN 0 [3, 5, 12, 13, 14, 32]) [(1, (gcN 0 [3, 12, 13, 14])), (0, (gcN 0 [3]))] (gcN 0 [2]) (gcN 0 [1000000]))) (cuts_by (l := []) (by kernel_rfl) (all_nil)) (fun s => by kernel_rfl)
def cc_path_Show_26 (κ : Nat) : Cut T := p_path_Show_25.cut (gcN 0 [3, 5, 12, 13, 14]) (fun (a0, a1, a2, a3, a4, a5) => path_Show.v25 κ a0 a1 a2 a3 a4 a5)
theorem cc_path_Show_26_ok (κ : Nat) (m : Int) : CutOk Tryd.prog C (G m) Tryd.f6.ntmps 0 (pieceOf (.reg 9) (getBody Tryd.f6)) (cc_path_Show_26 κ) := p_path_Show_25_ct κ m
def ct_path_Show_26 (κ : Nat) : Key → Option (Cut T) := addCut noCut (.reg 9) (cc_path_Show_26 κ)
def p_path_Show_27 : Piece T ((List ApiStep) × Int × Int × Bool × ByteArray × ByteArray × (List Int)) ((List ApiStep) × Int × Int × (List Int)) where
  dcS env H ds := match env 3, env 5, env 12, env 13, env 14, env 39, H, ds with
    | (.ptr 0 0), (.ptr 1 0), (.v (.sl 46 a0)), (.v (.i .i64 a1)), (.v (.i .i64 a2)), (.v (.b a3)), [(.cells 51 none [(.ptr 0 0), (.own 2)]), (.cells 46 none [(.v (.s a4)), (.v (.s a5))]), (.row 5 a6 true)], [] => some (a0, a1, a2, a3, a4, a5, a6)
    | _, _, _, _, _, _, _, _ => none
  slS := fun (a0, a1, a2, a3, a4, a5, a6) => [(3, (.ptr 0 0)), (5, (.ptr 1 0)), (12, (.v (.sl 46 a0))), (13, (.v (.i .i64 a1))), (14, (.v (.i .i64 a2))), (39, (.v (.b a3)))]
  obS := fun (a0, a1, a2, a3, a4, a5, a6) => [(.cells 51 none [(.ptr 0 0), (.own 2)]), (.cells 46 none [(.v (.s a4)), (.v (.s a5))]), (.row 5 a6 true)]
  dsS := fun (a0, a1, a2, a3, a4, a5, a6) => []
  dcE x env H ds := match x, env 3, env 12, env 13, env 14, H, ds with
    | .normal, (.ptr 0 0), (.v (.sl 46 a0)), (.v (.i .i64 a1)), (.v (.i .i64 a2)), [(.cells 51 none [(.ptr 0 0), (.own 1)]), (.row 5 a3 true)], [] => some (a0, a1, a2, a3)
    | _, _, _, _, _, _, _ => none
  exE := fun (a0, a1, a2, a3) => .normal
  slE := fun (a0, a1, a2, a3) => [(3, (.ptr 0 0)), (12, (.v (.sl 46 a0))), (13, (.v (.i .i64 a1))), (14, (.v (.i .i64 a2)))]
  obE := fun (a0, a1, a2, a3) => [(.cells 51 none [(.ptr 0 0), (.own 1)]), (.row 5 a3 true)]
  dsE := fun (a0, a1, a2, a3) => []
  goE := fun _ (a0, a1, a2, a3) k => k .normal [(3, (.ptr 0 0)), (12, (.v (.sl 46 a0))), (13, (.v (.i .i64 a1))), (14, (.v (.i .i64 a2)))] [(.cells 51 none [(.ptr 0 0), (.own 1)]), (.row 5 a3 true)] []
theorem p_path_Show_27_ok : PieceOk p_path_Show_27 := by
  refine ⟨fun env H ds s h => ?_, fun x env H ds e h => ?_, fun R e k => by kernel_rfl⟩
  · simp only [p_path_Show_27] at h ⊢; split at h <;> first | (cases h; simp only [List.forall_mem_cons]; simp_all; done) | (cases h; done)
  · simp only [p_path_Show_27] at h ⊢; split at h <;> first | (cases h; simp only [List.forall_mem_cons]; simp_all; done) | (cases h; done)
theorem p_path_Show_27_ct (κ : Nat) (m : Int) : CutOk Tryd.prog C (G m) Tryd.f6.ntmps 0 (pieceOf (.cnd 39 14) (getBody Tryd.f6)) (p_path_Show_27.cut (gcN 0 [3, 5, 12, 13, 14, 39]) (fun (a0, a1, a2, a3, a4, a5, a6) => path_Show.v27 κ a0 a1 a2 a3 a4 a5 a6)) :=
  Piece.join p_path_Show_27_ok C_ok mixed (gam20_ok κ m) gcN_ok (xN_ok gcN_ok (ex_cons gcN_ok (ex_cons gcN_ok (ex_nil))) gcN_ok gcN_ok) (cut := (ct_path_Show_26 κ)) (X := (xN (gcN 0 [3, 12, 13, 14]) [(1, (gcN 0 [3, 12, 13, 14])), (0, (gcN 0 [3]))] (gcN 0 [2]) (gcN 0 [1000000]))) (cuts_by (l := []) (by kernel_rfl) (all_nil)) (fun s => by kernel_rfl)
def cc_path_Show_28 (κ : Nat) : Cut T := p_path_Show_27.cut (gcN 0 [3, 5, 12, 13, 14, 39]) (fun (a0, a1, a2, a3, a4, a5, a6) => path_Show.v27 κ a0 a1 a2 a3 a4 a5 a6)
theorem cc_path_Show_28_ok (κ : Nat) (m : Int) : CutOk Tryd.prog C (G m) Tryd.f6.ntmps 0 (pieceOf (.cnd 39 14) (getBody Tryd.f6)) (cc_path_Show_28 κ) := p_path_Show_27_ct κ m
def ct_path_Show_28 (κ : Nat) : Key → Option (Cut T) := addCut (ct_path_Show_26 κ) (.cnd 39 14) (cc_path_Show_28 κ)
def p_path_Show_24 : Piece T ((List ApiStep) × Int × Int × (List Int)) (((List ApiStep) × Int × Int × (List Int)) ⊕ (ByteArray)) where
  dcS env H ds := match env 3, env 12, env 13, env 14, H, ds with
    | (.ptr 0 0), (.v (.sl 46 a0)), (.v (.i .i64 a1)), (.v (.i .i64 a2)), [(.cells 51 none [(.v .pn), (.own 1)]), (.row 5 a3 true)], [] => some (a0, a1, a2, a3)
    | _, _, _, _, _, _ => none
  slS := fun (a0, a1, a2, a3) => [(3, (.ptr 0 0)), (12, (.v (.sl 46 a0))), (13, (.v (.i .i64 a1))), (14, (.v (.i .i64 a2)))]
  obS := fun (a0, a1, a2, a3) => [(.cells 51 none [(.v .pn), (.own 1)]), (.row 5 a3 true)]
  dsS := fun (a0, a1, a2, a3) => []
  dcE x env H ds := match x, env 2, env 3, env 12, env 13, env 14, H, ds with
    | .normal, _, (.ptr 0 0), (.v (.sl 46 a0)), (.v (.i .i64 a1)), (.v (.i .i64 a2)), [(.cells 51 none [(.ptr 0 0), (.own 1)]), (.row 5 a3 true)], [] => some (.inl (a0, a1, a2, a3))
    | .ret, (.v (.s a0)), _, _, _, _, [], [] => some (.inr a0)
    | _, _, _, _, _, _, _, _ => none
  exE := fun x => match x with
    | (.inl (a0, a1, a2, a3)) => .normal
    | (.inr a0) => .ret
  slE := fun x => match x with
    | (.inl (a0, a1, a2, a3)) => [(3, (.ptr 0 0)), (12, (.v (.sl 46 a0))), (13, (.v (.i .i64 a1))), (14, (.v (.i .i64 a2)))]
    | (.inr a0) => [(2, (.v (.s a0)))]
  obE := fun x => match x with
    | (.inl (a0, a1, a2, a3)) => [(.cells 51 none [(.ptr 0 0), (.own 1)]), (.row 5 a3 true)]
    | (.inr a0) => []
  dsE := fun x => match x with
    | (.inl (a0, a1, a2, a3)) => []
    | (.inr a0) => []
  goE := fun _ x k => match x with
    | (.inl (a0, a1, a2, a3)) => k .normal [(3, (.ptr 0 0)), (12, (.v (.sl 46 a0))), (13, (.v (.i .i64 a1))), (14, (.v (.i .i64 a2)))] [(.cells 51 none [(.ptr 0 0), (.own 1)]), (.row 5 a3 true)] []
    | (.inr a0) => k .ret [(2, (.v (.s a0)))] [] []
theorem p_path_Show_24_ok : PieceOk p_path_Show_24 := by
  refine ⟨fun env H ds s h => ?_, fun x env H ds e h => ?_, fun R e k => by rcases e with e | e <;> kernel_rfl⟩
  · simp only [p_path_Show_24] at h ⊢; split at h <;> first | (cases h; simp only [List.forall_mem_cons]; simp_all; done) | (cases h; done)
  · simp only [p_path_Show_24] at h ⊢; split at h <;> first | (cases h; simp only [List.forall_mem_cons]; simp_all; done) | (cases h; done)
theorem p_path_Show_24_ct (κ : Nat) (m : Int) : CutOk Tryd.prog C (G m) Tryd.f6.ntmps 0 (pieceOf (.blk 1) (getBody Tryd.f6)) (p_path_Show_24.cut (gcN 0 [3, 12, 13, 14]) (fun (a0, a1, a2, a3) => path_Show.v24 κ a0 a1 a2 a3)) :=
  Piece.join p_path_Show_24_ok C_ok mixed (gam20_ok κ m) gcN_ok (xN_ok gcN_ok (ex_cons gcN_ok (ex_nil)) gcN_ok gcN_ok) (cut := (ct_path_Show_28 κ)) (X := (xN (gcN 0 [3, 12, 13, 14]) [(0, (gcN 0 [3]))] (gcN 0 [2]) (gcN 0 [1000000]))) (cuts_by (l := [(pieceOf (.reg 9) (getBody Tryd.f6), cc_path_Show_26 κ), (pieceOf (.cnd 39 14) (getBody Tryd.f6), cc_path_Show_28 κ)]) (by kernel_rfl) (all_cons (cc_path_Show_26_ok κ m) (all_cons (cc_path_Show_28_ok κ m) (all_nil)))) (fun s => by kernel_rfl)
def p_path_Show_30 : Piece T ((List ApiStep) × Int × Int × ByteArray × ByteArray × (List Int)) ((List ApiStep) × Int × Int × Bool × ByteArray × ByteArray × (List Int)) where
  dcS env H ds := match env 3, env 5, env 12, env 13, env 14, H, ds with
    | (.ptr 0 0), (.ptr 1 0), (.v (.sl 46 a0)), (.v (.i .i64 a1)), (.v (.i .i64 a2)), [(.cells 51 none [(.ptr 0 0), (.own 2)]), (.cells 46 none [(.v (.s a3)), (.v (.s a4))]), (.row 5 a5 true)], [] => some (a0, a1, a2, a3, a4, a5)
    | _, _, _, _, _, _, _ => none
  slS := fun (a0, a1, a2, a3, a4, a5) => [(3, (.ptr 0 0)), (5, (.ptr 1 0)), (12, (.v (.sl 46 a0))), (13, (.v (.i .i64 a1))), (14, (.v (.i .i64 a2)))]
  obS := fun (a0, a1, a2, a3, a4, a5) => [(.cells 51 none [(.ptr 0 0), (.own 2)]), (.cells 46 none [(.v (.s a3)), (.v (.s a4))]), (.row 5 a5 true)]
  dsS := fun (a0, a1, a2, a3, a4, a5) => []
  dcE x env H ds := match x, env 3, env 5, env 12, env 13, env 14, env 32, H, ds with
    | .normal, (.ptr 0 0), (.ptr 1 0), (.v (.sl 46 a0)), (.v (.i .i64 a1)), (.v (.i .i64 a2)), (.v (.b a3)), [(.cells 51 none [(.ptr 0 0), (.own 2)]), (.cells 46 none [(.v (.s a4)), (.v (.s a5))]), (.row 5 a6 true)], [] => some (a0, a1, a2, a3, a4, a5, a6)
    | _, _, _, _, _, _, _, _, _ => none
  exE := fun (a0, a1, a2, a3, a4, a5, a6) => .normal
  slE := fun (a0, a1, a2, a3, a4, a5, a6) => [(3, (.ptr 0 0)), (5, (.ptr 1 0)), (12, (.v (.sl 46 a0))), (13, (.v (.i .i64 a1))), (14, (.v (.i .i64 a2))), (32, (.v (.b a3)))]
  obE := fun (a0, a1, a2, a3, a4, a5, a6) => [(.cells 51 none [(.ptr 0 0), (.own 2)]), (.cells 46 none [(.v (.s a4)), (.v (.s a5))]), (.row 5 a6 true)]
  dsE := fun (a0, a1, a2, a3, a4, a5, a6) => []
  goE := fun _ (a0, a1, a2, a3, a4, a5, a6) k => k .normal [(3, (.ptr 0 0)), (5, (.ptr 1 0)), (12, (.v (.sl 46 a0))), (13, (.v (.i .i64 a1))), (14, (.v (.i .i64 a2))), (32, (.v (.b a3)))] [(.cells 51 none [(.ptr 0 0), (.own 2)]), (.cells 46 none [(.v (.s a4)), (.v (.s a5))]), (.row 5 a6 true)] []
theorem p_path_Show_30_ok : PieceOk p_path_Show_30 := by
  refine ⟨fun env H ds s h => ?_, fun x env H ds e h => ?_, fun R e k => by kernel_rfl⟩
  · simp only [p_path_Show_30] at h ⊢; split at h <;> first | (cases h; simp only [List.forall_mem_cons]; simp_all; done) | (cases h; done)
  · simp only [p_path_Show_30] at h ⊢; split at h <;> first | (cases h; simp only [List.forall_mem_cons]; simp_all; done) | (cases h; done)
theorem p_path_Show_30_ct (κ : Nat) (m : Int) : CutOk Tryd.prog C (G m) Tryd.f6.ntmps 0 (pieceOf (.reg 9) (getBody Tryd.f6)) (p_path_Show_30.cut (gcN 0 [3, 5, 12, 13, 14]) (fun (a0, a1, a2, a3, a4, a5) => path_Show.v30 κ a0 a1 a2 a3 a4 a5)) :=
  Piece.join p_path_Show_30_ok C_ok mixed (gam20_ok κ m) gcN_ok (xN_ok gcN_ok (ex_cons gcN_ok (ex_cons gcN_ok (ex_nil))) gcN_ok gcN_ok) (cut := noCut) (X := (xN (gcN 0 [3, 5, 12, 13, 14, 32]) [(1, (gcN 0 [3, 12, 13, 14])), (0, (gcN 0 [3]))] (gcN 0 [2]) (gcN 0 [1000000]))) (cuts_by (l := []) (by kernel_rfl) (all_nil)) (fun s => by kernel_rfl)
def cc_path_Show_31 (κ : Nat) : Cut T := p_path_Show_30.cut (gcN 0 [3, 5, 12, 13, 14]) (fun (a0, a1, a2, a3, a4, a5) => path_Show.v30 κ a0 a1 a2 a3 a4 a5)
theorem cc_path_Show_31_ok (κ : Nat) (m : Int) : CutOk Tryd.prog C (G m) Tryd.f6.ntmps 0 (pieceOf (.reg 9) (getBody Tryd.f6)) (cc_path_Show_31 κ) := p_path_Show_30_ct κ m
def ct_path_Show_31 (κ : Nat) : Key → Option (Cut T) := addCut noCut (.reg 9) (cc_path_Show_31 κ)
def p_path_Show_32 : Piece T ((List ApiStep) × Int × Int × Bool × ByteArray × ByteArray × (List Int)) ((List ApiStep) × Int × Int × (List Int)) where
  dcS env H ds := match env 3, env 5, env 12, env 13, env 14, env 39, H, ds with
    | (.ptr 0 0), (.ptr 1 0), (.v (.sl 46 a0)), (.v (.i .i64 a1)), (.v (.i .i64 a2)), (.v (.b a3)), [(.cells 51 none [(.ptr 0 0), (.own 2)]), (.cells 46 none [(.v (.s a4)), (.v (.s a5))]), (.row 5 a6 true)], [] => some (a0, a1, a2, a3, a4, a5, a6)
    | _, _, _, _, _, _, _, _ => none
  slS := fun (a0, a1, a2, a3, a4, a5, a6) => [(3, (.ptr 0 0)), (5, (.ptr 1 0)), (12, (.v (.sl 46 a0))), (13, (.v (.i .i64 a1))), (14, (.v (.i .i64 a2))), (39, (.v (.b a3)))]
  obS := fun (a0, a1, a2, a3, a4, a5, a6) => [(.cells 51 none [(.ptr 0 0), (.own 2)]), (.cells 46 none [(.v (.s a4)), (.v (.s a5))]), (.row 5 a6 true)]
  dsS := fun (a0, a1, a2, a3, a4, a5, a6) => []
  dcE x env H ds := match x, env 3, env 12, env 13, env 14, H, ds with
    | .normal, (.ptr 0 0), (.v (.sl 46 a0)), (.v (.i .i64 a1)), (.v (.i .i64 a2)), [(.cells 51 none [(.ptr 0 0), (.own 1)]), (.row 5 a3 true)], [] => some (a0, a1, a2, a3)
    | _, _, _, _, _, _, _ => none
  exE := fun (a0, a1, a2, a3) => .normal
  slE := fun (a0, a1, a2, a3) => [(3, (.ptr 0 0)), (12, (.v (.sl 46 a0))), (13, (.v (.i .i64 a1))), (14, (.v (.i .i64 a2)))]
  obE := fun (a0, a1, a2, a3) => [(.cells 51 none [(.ptr 0 0), (.own 1)]), (.row 5 a3 true)]
  dsE := fun (a0, a1, a2, a3) => []
  goE := fun _ (a0, a1, a2, a3) k => k .normal [(3, (.ptr 0 0)), (12, (.v (.sl 46 a0))), (13, (.v (.i .i64 a1))), (14, (.v (.i .i64 a2)))] [(.cells 51 none [(.ptr 0 0), (.own 1)]), (.row 5 a3 true)] []
theorem p_path_Show_32_ok : PieceOk p_path_Show_32 := by
  refine ⟨fun env H ds s h => ?_, fun x env H ds e h => ?_, fun R e k => by kernel_rfl⟩
  · simp only [p_path_Show_32] at h ⊢; split at h <;> first | (cases h; simp only [List.forall_mem_cons]; simp_all; done) | (cases h; done)
  · simp only [p_path_Show_32] at h ⊢; split at h <;> first | (cases h; simp only [List.forall_mem_cons]; simp_all; done) | (cases h; done)
theorem p_path_Show_32_ct (κ : Nat) (m : Int) : CutOk Tryd.prog C (G m) Tryd.f6.ntmps 0 (pieceOf (.cnd 39 14) (getBody Tryd.f6)) (p_path_Show_32.cut (gcN 0 [3, 5, 12, 13, 14, 39]) (fun (a0, a1, a2, a3, a4, a5, a6) => path_Show.v32 κ a0 a1 a2 a3 a4 a5 a6)) :=
  Piece.join p_path_Show_32_ok C_ok mixed (gam20_ok κ m) gcN_ok (xN_ok gcN_ok (ex_cons gcN_ok (ex_cons gcN_ok (ex_nil))) gcN_ok gcN_ok) (cut := (ct_path_Show_31 κ)) (X := (xN (gcN 0 [3, 12, 13, 14]) [(1, (gcN 0 [3, 12, 13, 14])), (0, (gcN 0 [3]))] (gcN 0 [2]) (gcN 0 [1000000]))) (cuts_by (l := []) (by kernel_rfl) (all_nil)) (fun s => by kernel_rfl)
def cc_path_Show_33 (κ : Nat) : Cut T := p_path_Show_32.cut (gcN 0 [3, 5, 12, 13, 14, 39]) (fun (a0, a1, a2, a3, a4, a5, a6) => path_Show.v32 κ a0 a1 a2 a3 a4 a5 a6)
theorem cc_path_Show_33_ok (κ : Nat) (m : Int) : CutOk Tryd.prog C (G m) Tryd.f6.ntmps 0 (pieceOf (.cnd 39 14) (getBody Tryd.f6)) (cc_path_Show_33 κ) := p_path_Show_32_ct κ m
def ct_path_Show_33 (κ : Nat) : Key → Option (Cut T) := addCut (ct_path_Show_31 κ) (.cnd 39 14) (cc_path_Show_33 κ)
def p_path_Show_29 : Piece T ((List ApiStep) × Int × Int × (List Int)) (((List ApiStep) × Int × Int × (List Int)) ⊕ (ByteArray)) where
  dcS env H ds := match env 3, env 12, env 13, env 14, H, ds with
    | (.ptr 0 0), (.v (.sl 46 a0)), (.v (.i .i64 a1)), (.v (.i .i64 a2)), [(.cells 51 none [(.ptr 0 0), (.own 1)]), (.row 5 a3 true)], [] => some (a0, a1, a2, a3)
    | _, _, _, _, _, _ => none
  slS := fun (a0, a1, a2, a3) => [(3, (.ptr 0 0)), (12, (.v (.sl 46 a0))), (13, (.v (.i .i64 a1))), (14, (.v (.i .i64 a2)))]
  obS := fun (a0, a1, a2, a3) => [(.cells 51 none [(.ptr 0 0), (.own 1)]), (.row 5 a3 true)]
  dsS := fun (a0, a1, a2, a3) => []
  dcE x env H ds := match x, env 2, env 3, env 12, env 13, env 14, H, ds with
    | .normal, _, (.ptr 0 0), (.v (.sl 46 a0)), (.v (.i .i64 a1)), (.v (.i .i64 a2)), [(.cells 51 none [(.ptr 0 0), (.own 1)]), (.row 5 a3 true)], [] => some (.inl (a0, a1, a2, a3))
    | .ret, (.v (.s a0)), _, _, _, _, [], [] => some (.inr a0)
    | _, _, _, _, _, _, _, _ => none
  exE := fun x => match x with
    | (.inl (a0, a1, a2, a3)) => .normal
    | (.inr a0) => .ret
  slE := fun x => match x with
    | (.inl (a0, a1, a2, a3)) => [(3, (.ptr 0 0)), (12, (.v (.sl 46 a0))), (13, (.v (.i .i64 a1))), (14, (.v (.i .i64 a2)))]
    | (.inr a0) => [(2, (.v (.s a0)))]
  obE := fun x => match x with
    | (.inl (a0, a1, a2, a3)) => [(.cells 51 none [(.ptr 0 0), (.own 1)]), (.row 5 a3 true)]
    | (.inr a0) => []
  dsE := fun x => match x with
    | (.inl (a0, a1, a2, a3)) => []
    | (.inr a0) => []
  goE := fun _ x k => match x with
    | (.inl (a0, a1, a2, a3)) => k .normal [(3, (.ptr 0 0)), (12, (.v (.sl 46 a0))), (13, (.v (.i .i64 a1))), (14, (.v (.i .i64 a2)))] [(.cells 51 none [(.ptr 0 0), (.own 1)]), (.row 5 a3 true)] []
    | (.inr a0) => k .ret [(2, (.v (.s a0)))] [] []
theorem p_path_Show_29_ok : PieceOk p_path_Show_29 := by
  refine ⟨fun env H ds s h => ?_, fun x env H ds e h => ?_, fun R e k => by rcases e with e | e <;> kernel_rfl⟩
  · simp only [p_path_Show_29] at h ⊢; split at h <;> first | (cases h; simp only [List.forall_mem_cons]; simp_all; done) | (cases h; done)
  · simp only [p_path_Show_29] at h ⊢; split at h <;> first | (cases h; simp only [List.forall_mem_cons]; simp_all; done) | (cases h; done)
theorem p_path_Show_29_ct (κ : Nat) (m : Int) : CutOk Tryd.prog C (G m) Tryd.f6.ntmps 0 (pieceOf (.blk 1) (getBody Tryd.f6)) (p_path_Show_29.cut (gcN 0 [3, 12, 13, 14]) (fun (a0, a1, a2, a3) => path_Show.v29 κ a0 a1 a2 a3)) :=
  Piece.join p_path_Show_29_ok C_ok mixed (gam20_ok κ m) gcN_ok (xN_ok gcN_ok (ex_cons gcN_ok (ex_nil)) gcN_ok gcN_ok) (cut := (ct_path_Show_33 κ)) (X := (xN (gcN 0 [3, 12, 13, 14]) [(0, (gcN 0 [3]))] (gcN 0 [2]) (gcN 0 [1000000]))) (cuts_by (l := [(pieceOf (.reg 9) (getBody Tryd.f6), cc_path_Show_31 κ), (pieceOf (.cnd 39 14) (getBody Tryd.f6), cc_path_Show_33 κ)]) (by kernel_rfl) (all_cons (cc_path_Show_31_ok κ m) (all_cons (cc_path_Show_33_ok κ m) (all_nil)))) (fun s => by kernel_rfl)
def cc_path_Show_34 (κ : Nat) : Cut T := p_path_Show_24.cutOr (gcN 0 [3, 12, 13, 14]) (fun (a0, a1, a2, a3) => path_Show.v24 κ a0 a1 a2 a3) (p_path_Show_29.cut (gcN 0 [3, 12, 13, 14]) (fun (a0, a1, a2, a3) => path_Show.v29 κ a0 a1 a2 a3))
theorem cc_path_Show_34_ok (κ : Nat) (m : Int) : CutOk Tryd.prog C (G m) Tryd.f6.ntmps 0 (pieceOf (.blk 1) (getBody Tryd.f6)) (cc_path_Show_34 κ) := Piece.or_ok (p_path_Show_24_ct κ m) (p_path_Show_29_ct κ m)
def ct_path_Show_34 (κ : Nat) : Key → Option (Cut T) := addCut noCut (.blk 1) (cc_path_Show_34 κ)
def p_path_Show_23 : Piece T (((List ApiStep) × Int × Int × (List Int)) ⊕ ((List ApiStep) × Int × Int × (List Int))) (((List Int)) ⊕ ((ByteArray) ⊕ ((List Int)))) where
  dcS env H ds := match env 3, env 12, env 13, env 14, H, ds with
    | (.ptr 0 0), (.v (.sl 46 a0)), (.v (.i .i64 a1)), (.v (.i .i64 a2)), [(.cells 51 none [(.v .pn), (.own 1)]), (.row 5 a3 true)], [] => some (.inl (a0, a1, a2, a3))
    | (.ptr 0 0), (.v (.sl 46 a0)), (.v (.i .i64 a1)), (.v (.i .i64 a2)), [(.cells 51 none [(.ptr 0 0), (.own 1)]), (.row 5 a3 true)], [] => some (.inr (a0, a1, a2, a3))
    | _, _, _, _, _, _ => none
  slS := fun s => match s with
    | (.inl (a0, a1, a2, a3)) => [(3, (.ptr 0 0)), (12, (.v (.sl 46 a0))), (13, (.v (.i .i64 a1))), (14, (.v (.i .i64 a2)))]
    | (.inr (a0, a1, a2, a3)) => [(3, (.ptr 0 0)), (12, (.v (.sl 46 a0))), (13, (.v (.i .i64 a1))), (14, (.v (.i .i64 a2)))]
  obS := fun s => match s with
    | (.inl (a0, a1, a2, a3)) => [(.cells 51 none [(.v .pn), (.own 1)]), (.row 5 a3 true)]
    | (.inr (a0, a1, a2, a3)) => [(.cells 51 none [(.ptr 0 0), (.own 1)]), (.row 5 a3 true)]
  dsS := fun s => match s with
    | (.inl (a0, a1, a2, a3)) => []
    | (.inr (a0, a1, a2, a3)) => []
  dcE x env H ds := match x, env 2, env 3, H, ds with
    | .normal, _, (.ptr 0 0), [(.cells 51 none [(.v .pn), (.own 1)]), (.row 5 a0 true)], [] => some (.inl a0)
    | .ret, (.v (.s a0)), _, [], [] => some (.inr (.inl a0))
    | .normal, _, (.ptr 0 0), [(.cells 51 none [(.ptr 0 0), (.own 1)]), (.row 5 a0 true)], [] => some (.inr (.inr a0))
    | _, _, _, _, _ => none
  exE := fun x => match x with
    | (.inl a0) => .normal
    | (.inr (.inl a0)) => .ret
    | (.inr (.inr a0)) => .normal
  slE := fun x => match x with
    | (.inl a0) => [(3, (.ptr 0 0))]
    | (.inr (.inl a0)) => [(2, (.v (.s a0)))]
    | (.inr (.inr a0)) => [(3, (.ptr 0 0))]
  obE := fun x => match x with
    | (.inl a0) => [(.cells 51 none [(.v .pn), (.own 1)]), (.row 5 a0 true)]
    | (.inr (.inl a0)) => []
    | (.inr (.inr a0)) => [(.cells 51 none [(.ptr 0 0), (.own 1)]), (.row 5 a0 true)]
  dsE := fun x => match x with
    | (.inl a0) => []
    | (.inr (.inl a0)) => []
    | (.inr (.inr a0)) => []
  goE := fun _ x k => match x with
    | (.inl a0) => k .normal [(3, (.ptr 0 0))] [(.cells 51 none [(.v .pn), (.own 1)]), (.row 5 a0 true)] []
    | (.inr (.inl a0)) => k .ret [(2, (.v (.s a0)))] [] []
    | (.inr (.inr a0)) => k .normal [(3, (.ptr 0 0))] [(.cells 51 none [(.ptr 0 0), (.own 1)]), (.row 5 a0 true)] []
theorem p_path_Show_23_ok : PieceOk p_path_Show_23 := by
  refine ⟨fun env H ds s h => ?_, fun x env H ds e h => ?_, fun R e k => by rcases e with e | e | e <;> kernel_rfl⟩
  · simp only [p_path_Show_23] at h ⊢; split at h <;> first | (cases h; simp only [List.forall_mem_cons]; simp_all; done) | (cases h; done)
  · simp only [p_path_Show_23] at h ⊢; split at h <;> first | (cases h; simp only [List.forall_mem_cons]; simp_all; done) | (cases h; done)
theorem p_path_Show_23_ct (κ : Nat) (m : Int) : CutOk Tryd.prog C (G m) Tryd.f6.ntmps 0 (pieceOf (.blk 0) (getBody Tryd.f6)) (p_path_Show_23.cut (andN (gcN 0 [3, 12, 13, 14]) (andN (promC 0 1 [] 5) (gcN 0 [3, 12, 13, 14]))) (path_Show.l23 κ κ)) :=
  Piece.loop p_path_Show_23_ok C_ok mixed (gam20_ok κ m) (andN_ok gcN_ok (andN_ok promC_ok gcN_ok)) (xN_ok gcN_ok (ex_nil) gcN_ok gcN_ok) (cut := (ct_path_Show_34 κ)) (X := (xN (gcN 0 [3]) [] (gcN 0 [2]) (gcN 0 [1000000]))) (id := 0) (body := bodyOf (pieceOf (.blk 0) (getBody Tryd.f6))) (cuts_by (l := [(pieceOf (.blk 1) (getBody Tryd.f6), cc_path_Show_34 κ)]) (by kernel_rfl) (all_cons (cc_path_Show_34_ok κ m) (all_nil))) (f := path_Show.l23 κ) (fun s => by rcases s with s | s <;> kernel_rfl) (fun k s => by rcases s with s | s <;> kernel_rfl) κ
def cc_path_Show_35 (κ : Nat) : Cut T := p_path_Show_23.cut (andN (gcN 0 [3, 12, 13, 14]) (andN (promC 0 1 [] 5) (gcN 0 [3, 12, 13, 14]))) (path_Show.l23 κ κ)
theorem cc_path_Show_35_ok (κ : Nat) (m : Int) : CutOk Tryd.prog C (G m) Tryd.f6.ntmps 0 (pieceOf (.blk 0) (getBody Tryd.f6)) (cc_path_Show_35 κ) := p_path_Show_23_ct κ m
def ct_path_Show_35 (κ : Nat) : Key → Option (Cut T) := addCut noCut (.blk 0) (cc_path_Show_35 κ)
def sp_path_Show : Spec T ((List ApiStep)) (ByteArray) where
  dcI a H := match a, H with
    | [(.v (.sl 46 a0))], [] => some a0
    | _, _ => none
  ecA := fun a0 => [(.v (.sl 46 a0))]
  ecH := fun a0 => []
  dcO o := match o with
    | .ret (.v (.s a0)) [] => some a0
    | _ => none
  goO := fun _ a0 k => k (.ret (.v (.s a0)) [])
  ecO := fun a0 => .ret (.v (.s a0)) []
theorem sp_path_Show_ok : SpecOk sp_path_Show := by
  refine ⟨fun a H i h => ?_, fun o x h => ?_, fun R e k => by kernel_rfl⟩
  · simp only [sp_path_Show] at h ⊢; split at h <;> first | (cases h; exact ⟨rfl, rfl⟩) | (cases h; done)
  · simp only [sp_path_Show] at h ⊢; split at h <;> first | (cases h; rfl) | (cases h; done)
theorem ok_path_Show (κ : Nat) (m : Int) : EOk Tryd.prog C (G m) 6 (sp_path_Show.entry (fun a0 => path_Show κ a0)) :=
  Spec.ok sp_path_Show_ok C_ok mixed (gam22_ok κ m) (cut := (ct_path_Show_35 κ)) (NR := (gcN 0 [0])) (NP := (gcN 0 [0])) (nB := 0) Tryd.func6 (c := (getBody Tryd.f6)) (by kernel_rfl) (by kernel_rfl) (fun i => by kernel_rfl) gcN_ok gcN_ok (cuts_by (l := [(pieceOf (.blk 0) (getBody Tryd.f6), cc_path_Show_35 κ)]) (by kernel_rfl) (all_cons (cc_path_Show_35_ok κ m) (all_nil))) (fun i => by kernel_rfl)
noncomputable def gam23 (κ : Nat) : Gam T := (gam22 κ).addS 6 sp_path_Show (fun a0 => path_Show κ a0)
theorem gam23_ok (κ : Nat) (m : Int) : GOk Tryd.prog C (G m) (gam23 κ) := (gam22_ok κ m).addS (ok_path_Show κ m)
def sp_path_Show_2 : Spec T (Unit) (ByteArray) where
  dcI a H := match a, H with
    | [.cap0], [] => some ()
    | _, _ => none
  ecA := fun _ => [.cap0]
  ecH := fun _ => []
  dcO o := match o with
    | .ret (.v (.s a0)) [] => some a0
    | _ => none
  goO := fun _ a0 k => k (.ret (.v (.s a0)) [])
  ecO := fun a0 => .ret (.v (.s a0)) []
theorem sp_path_Show_2_ok : SpecOk sp_path_Show_2 := by
  refine ⟨fun a H i h => ?_, fun o x h => ?_, fun R e k => by kernel_rfl⟩
  · simp only [sp_path_Show_2] at h ⊢; split at h <;> first | (cases h; exact ⟨rfl, rfl⟩) | (cases h; done)
  · simp only [sp_path_Show_2] at h ⊢; split at h <;> first | (cases h; rfl) | (cases h; done)
theorem ok_path_Show_2 (κ : Nat) (m : Int) : EOk Tryd.prog C (G m) 6 (sp_path_Show_2.entry (fun _ => path_Show_2 κ )) :=
  Spec.ok sp_path_Show_2_ok C_ok mixed (gam23_ok κ m) (cut := noCut) (NR := (gcN 0 [0])) (NP := (gcN 0 [0])) (nB := 0) Tryd.func6 (c := (getBody Tryd.f6)) (by kernel_rfl) (by kernel_rfl) (fun i => by kernel_rfl) gcN_ok gcN_ok (cuts_by (l := []) (by kernel_rfl) (all_nil)) (fun i => by kernel_rfl)
noncomputable def gam24 (κ : Nat) : Gam T := (gam23 κ).addS 6 sp_path_Show_2 (fun _ => path_Show_2 κ )
theorem gam24_ok (κ : Nat) (m : Int) : GOk Tryd.prog C (G m) (gam24 κ) := (gam23_ok κ m).addS (ok_path_Show_2 κ m)
def p_path_Under_3 : Piece T ((List ApiStep) × Int × (List ApiStep) × Int × Int × ByteArray × ByteArray) ((List ApiStep) × (List ApiStep) × Int × Int × Bool) where
  dcS env H ds := match env 0, env 5, env 6, env 7, env 8, env 9, H, ds with
    | (.v (.sl 46 a0)), (.v (.i .i64 a1)), (.ptr 0 0), (.v (.sl 46 a2)), (.v (.i .i64 a3)), (.v (.i .i64 a4)), [(.cells 46 none [(.v (.s a5)), (.v (.s a6))])], [] => some (a0, a1, a2, a3, a4, a5, a6)
    | _, _, _, _, _, _, _, _ => none
  slS := fun (a0, a1, a2, a3, a4, a5, a6) => [(0, (.v (.sl 46 a0))), (5, (.v (.i .i64 a1))), (6, (.ptr 0 0)), (7, (.v (.sl 46 a2))), (8, (.v (.i .i64 a3))), (9, (.v (.i .i64 a4)))]
  obS := fun (a0, a1, a2, a3, a4, a5, a6) => [(.cells 46 none [(.v (.s a5)), (.v (.s a6))])]
  dsS := fun (a0, a1, a2, a3, a4, a5, a6) => []
  dcE x env H ds := match x, env 0, env 7, env 8, env 9, env 25, H, ds with
    | .normal, (.v (.sl 46 a0)), (.v (.sl 46 a1)), (.v (.i .i64 a2)), (.v (.i .i64 a3)), (.v (.b a4)), [], [] => some (a0, a1, a2, a3, a4)
    | _, _, _, _, _, _, _, _ => none
  exE := fun (a0, a1, a2, a3, a4) => .normal
  slE := fun (a0, a1, a2, a3, a4) => [(0, (.v (.sl 46 a0))), (7, (.v (.sl 46 a1))), (8, (.v (.i .i64 a2))), (9, (.v (.i .i64 a3))), (25, (.v (.b a4)))]
  obE := fun (a0, a1, a2, a3, a4) => []
  dsE := fun (a0, a1, a2, a3, a4) => []
  goE := fun _ (a0, a1, a2, a3, a4) k => k .normal [(0, (.v (.sl 46 a0))), (7, (.v (.sl 46 a1))), (8, (.v (.i .i64 a2))), (9, (.v (.i .i64 a3))), (25, (.v (.b a4)))] [] []
theorem p_path_Under_3_ok : PieceOk p_path_Under_3 := by
  refine ⟨fun env H ds s h => ?_, fun x env H ds e h => ?_, fun R e k => by kernel_rfl⟩
  · simp only [p_path_Under_3] at h ⊢; split at h <;> first | (cases h; simp only [List.forall_mem_cons]; simp_all; done) | (cases h; done)
  · simp only [p_path_Under_3] at h ⊢; split at h <;> first | (cases h; simp only [List.forall_mem_cons]; simp_all; done) | (cases h; done)
theorem p_path_Under_3_ct (κ : Nat) (m : Int) : CutOk Tryd.prog C (G m) Tryd.f12.ntmps 0 (pieceOf (.reg 4) (getBody Tryd.f12)) (p_path_Under_3.cut (gcN 0 [0, 5, 6, 7, 8, 9]) (fun (a0, a1, a2, a3, a4, a5, a6) => path_Under.v3 κ a0 a1 a2 a3 a4 a5 a6)) :=
  Piece.join p_path_Under_3_ok C_ok mixed (gam24_ok κ m) gcN_ok (xN_ok gcN_ok (ex_cons gcN_ok (ex_cons gcN_ok (ex_nil))) gcN_ok gcN_ok) (cut := noCut) (X := (xN (gcN 0 [0, 7, 8, 9, 25]) [(1, (gcN 0 [0, 7, 8, 9])), (0, (gcN 0 []))] (gcN 0 [4]) (gcN 0 [1000000]))) (cuts_by (l := []) (by kernel_rfl) (all_nil)) (fun s => by kernel_rfl)
def cc_path_Under_4 (κ : Nat) : Cut T := p_path_Under_3.cut (gcN 0 [0, 5, 6, 7, 8, 9]) (fun (a0, a1, a2, a3, a4, a5, a6) => path_Under.v3 κ a0 a1 a2 a3 a4 a5 a6)
theorem cc_path_Under_4_ok (κ : Nat) (m : Int) : CutOk Tryd.prog C (G m) Tryd.f12.ntmps 0 (pieceOf (.reg 4) (getBody Tryd.f12)) (cc_path_Under_4 κ) := p_path_Under_3_ct κ m
def ct_path_Under_4 (κ : Nat) : Key → Option (Cut T) := addCut noCut (.reg 4) (cc_path_Under_4 κ)
def p_path_Under_2 : Piece T ((List ApiStep) × (List ApiStep) × Int × Int) ((Unit) ⊕ (Bool)) where
  dcS env H ds := match env 0, env 7, env 8, env 9, H, ds with
    | (.v (.sl 46 a0)), (.v (.sl 46 a1)), (.v (.i .i64 a2)), (.v (.i .i64 a3)), [], [] => some (a0, a1, a2, a3)
    | _, _, _, _, _, _ => none
  slS := fun (a0, a1, a2, a3) => [(0, (.v (.sl 46 a0))), (7, (.v (.sl 46 a1))), (8, (.v (.i .i64 a2))), (9, (.v (.i .i64 a3)))]
  obS := fun (a0, a1, a2, a3) => []
  dsS := fun (a0, a1, a2, a3) => []
  dcE x env H ds := match x, env 4, H, ds with
    | .normal, _, [], [] => some (.inl ())
    | .ret, (.v (.b a0)), [], [] => some (.inr a0)
    | _, _, _, _ => none
  exE := fun x => match x with
    | (.inl _) => .normal
    | (.inr a0) => .ret
  slE := fun x => match x with
    | (.inl _) => []
    | (.inr a0) => [(4, (.v (.b a0)))]
  obE := fun x => match x with
    | (.inl _) => []
    | (.inr a0) => []
  dsE := fun x => match x with
    | (.inl _) => []
    | (.inr a0) => []
  goE := fun _ x k => match x with
    | (.inl _) => k .normal [] [] []
    | (.inr a0) => k .ret [(4, (.v (.b a0)))] [] []
theorem p_path_Under_2_ok : PieceOk p_path_Under_2 := by
  refine ⟨fun env H ds s h => ?_, fun x env H ds e h => ?_, fun R e k => by rcases e with e | e <;> kernel_rfl⟩
  · simp only [p_path_Under_2] at h ⊢; split at h <;> first | (cases h; simp only [List.forall_mem_cons]; simp_all; done) | (cases h; done)
  · simp only [p_path_Under_2] at h ⊢; split at h <;> first | (cases h; simp only [List.forall_mem_cons]; simp_all; done) | (cases h; done)
theorem p_path_Under_2_ct (κ : Nat) (m : Int) : CutOk Tryd.prog C (G m) Tryd.f12.ntmps 0 (pieceOf (.blk 0) (getBody Tryd.f12)) (p_path_Under_2.cut (gcN 0 [0, 7, 8, 9]) (path_Under.l2 κ κ)) :=
  Piece.loop p_path_Under_2_ok C_ok mixed (gam24_ok κ m) gcN_ok (xN_ok gcN_ok (ex_nil) gcN_ok gcN_ok) (cut := (ct_path_Under_4 κ)) (X := (xN (gcN 0 []) [] (gcN 0 [4]) (gcN 0 [1000000]))) (id := 0) (body := bodyOf (pieceOf (.blk 0) (getBody Tryd.f12))) (cuts_by (l := [(pieceOf (.reg 4) (getBody Tryd.f12), cc_path_Under_4 κ)]) (by kernel_rfl) (all_cons (cc_path_Under_4_ok κ m) (all_nil))) (f := path_Under.l2 κ) (fun s => by kernel_rfl) (fun k s => by kernel_rfl) κ
def cc_path_Under_5 (κ : Nat) : Cut T := p_path_Under_2.cut (gcN 0 [0, 7, 8, 9]) (path_Under.l2 κ κ)
theorem cc_path_Under_5_ok (κ : Nat) (m : Int) : CutOk Tryd.prog C (G m) Tryd.f12.ntmps 0 (pieceOf (.blk 0) (getBody Tryd.f12)) (cc_path_Under_5 κ) := p_path_Under_2_ct κ m
def ct_path_Under_5 (κ : Nat) : Key → Option (Cut T) := addCut noCut (.blk 0) (cc_path_Under_5 κ)
def sp_path_Under : Spec T ((List ApiStep) × (List ApiStep)) (Bool) where
  dcI a H := match a, H with
    | [(.v (.sl 46 a0)), (.v (.sl 46 a1))], [] => some (a0, a1)
    | _, _ => none
  ecA := fun (a0, a1) => [(.v (.sl 46 a0)), (.v (.sl 46 a1))]
  ecH := fun (a0, a1) => []
  dcO o := match o with
    | .ret (.v (.b a0)) [] => some a0
    | _ => none
  goO := fun _ a0 k => k (.ret (.v (.b a0)) [])
  ecO := fun a0 => .ret (.v (.b a0)) []
theorem sp_path_Under_ok : SpecOk sp_path_Under := by
  refine ⟨fun a H i h => ?_, fun o x h => ?_, fun R e k => by kernel_rfl⟩
  · simp only [sp_path_Under] at h ⊢; split at h <;> first | (cases h; exact ⟨rfl, rfl⟩) | (cases h; done)
  · simp only [sp_path_Under] at h ⊢; split at h <;> first | (cases h; rfl) | (cases h; done)
theorem ok_path_Under (κ : Nat) (m : Int) : EOk Tryd.prog C (G m) 12 (sp_path_Under.entry (fun (a0, a1) => path_Under κ a0 a1)) :=
  Spec.ok sp_path_Under_ok C_ok mixed (gam24_ok κ m) (cut := (ct_path_Under_5 κ)) (NR := (gcN 0 [0])) (NP := (gcN 0 [0])) (nB := 0) Tryd.func12 (c := (getBody Tryd.f12)) (by kernel_rfl) (by kernel_rfl) (fun i => by kernel_rfl) gcN_ok gcN_ok (cuts_by (l := [(pieceOf (.blk 0) (getBody Tryd.f12), cc_path_Under_5 κ)]) (by kernel_rfl) (all_cons (cc_path_Under_5_ok κ m) (all_nil))) (fun i => by kernel_rfl)
noncomputable def gam25 (κ : Nat) : Gam T := (gam24 κ).addS 12 sp_path_Under (fun (a0, a1) => path_Under κ a0 a1)
theorem gam25_ok (κ : Nat) (m : Int) : GOk Tryd.prog C (G m) (gam25 κ) := (gam24_ok κ m).addS (ok_path_Under κ m)
def p_tollbarlaw15_awake_0 : Piece T (Int × Int × Int × Int × Int × (List ApiStep) × ByteArray × Int × Int × Int × Int × (List ByteArray) × Bool × Int × (List SpecSpec)) (Bool) where
  dcS env H ds := match env 1, env 2, env 5, env 6, env 7, env 8, env 10, H, ds with
    | (.own 0), (.v (.i .i64 a0)), (.v (.i .i64 a1)), (.v (.i .i64 a2)), (.ptr 1 0), (.v (.i .i64 a3)), (.v (.i .i64 a4)), [(.row 46 a5 false), (.cells 29 none [(.v (.s a6)), (.v (.i .i64 a7)), (.v (.i .i64 a8)), (.v (.i .u64 a9)), (.v (.i .u64 a10)), (.v (.sl 9 a11)), (.v (.b a12)), (.v (.i .i64 a13)), (.v (.sl 29 a14))])], [] => some (a0, a1, a2, a3, a4, a5, a6, a7, a8, a9, a10, a11, a12, a13, a14)
    | _, _, _, _, _, _, _, _, _ => none
  slS := fun (a0, a1, a2, a3, a4, a5, a6, a7, a8, a9, a10, a11, a12, a13, a14) => [(1, (.own 0)), (2, (.v (.i .i64 a0))), (5, (.v (.i .i64 a1))), (6, (.v (.i .i64 a2))), (7, (.ptr 1 0)), (8, (.v (.i .i64 a3))), (10, (.v (.i .i64 a4)))]
  obS := fun (a0, a1, a2, a3, a4, a5, a6, a7, a8, a9, a10, a11, a12, a13, a14) => [(.row 46 a5 false), (.cells 29 none [(.v (.s a6)), (.v (.i .i64 a7)), (.v (.i .i64 a8)), (.v (.i .u64 a9)), (.v (.i .u64 a10)), (.v (.sl 9 a11)), (.v (.b a12)), (.v (.i .i64 a13)), (.v (.sl 29 a14))])]
  dsS := fun (a0, a1, a2, a3, a4, a5, a6, a7, a8, a9, a10, a11, a12, a13, a14) => []
  dcE x env H ds := match x, env 0, H, ds with
    | .normal, (.v (.b a0)), [], [] => some a0
    | _, _, _, _ => none
  exE := fun a0 => .normal
  slE := fun a0 => [(0, (.v (.b a0)))]
  obE := fun a0 => []
  dsE := fun a0 => []
  goE := fun _ a0 k => k .normal [(0, (.v (.b a0)))] [] []
theorem p_tollbarlaw15_awake_0_ok : PieceOk p_tollbarlaw15_awake_0 := by
  refine ⟨fun env H ds s h => ?_, fun x env H ds e h => ?_, fun R e k => by kernel_rfl⟩
  · simp only [p_tollbarlaw15_awake_0] at h ⊢; split at h <;> first | (cases h; simp only [List.forall_mem_cons]; simp_all; done) | (cases h; done)
  · simp only [p_tollbarlaw15_awake_0] at h ⊢; split at h <;> first | (cases h; simp only [List.forall_mem_cons]; simp_all; done) | (cases h; done)
theorem p_tollbarlaw15_awake_0_ct (κ : Nat) (m : Int) : CutOk Tryd.prog C (G m) Tryd.f5.ntmps 0 (pieceOf (.reg 5) (getBody Tryd.f5)) (p_tollbarlaw15_awake_0.cut (gcN 0 [1, 2, 5, 6, 7, 8, 10]) (fun (a0, a1, a2, a3, a4, a5, a6, a7, a8, a9, a10, a11, a12, a13, a14) => tollbarlaw15_awake.v0 κ a0 a1 a2 a3 a4 a5 a6 a7 a8 a9 a10 a11 a12 a13 a14)) :=
  Piece.join p_tollbarlaw15_awake_0_ok C_ok mixed (gam25_ok κ m) gcN_ok (xN_ok gcN_ok (ex_nil) gcN_ok gcN_ok) (cut := noCut) (X := (xN (gcN 0 [0]) [] (gcN 0 [0]) (gcN 0 [1000000]))) (cuts_by (l := []) (by kernel_rfl) (all_nil)) (fun s => by kernel_rfl)
def cc_tollbarlaw15_awake_1 (κ : Nat) : Cut T := p_tollbarlaw15_awake_0.cut (gcN 0 [1, 2, 5, 6, 7, 8, 10]) (fun (a0, a1, a2, a3, a4, a5, a6, a7, a8, a9, a10, a11, a12, a13, a14) => tollbarlaw15_awake.v0 κ a0 a1 a2 a3 a4 a5 a6 a7 a8 a9 a10 a11 a12 a13 a14)
theorem cc_tollbarlaw15_awake_1_ok (κ : Nat) (m : Int) : CutOk Tryd.prog C (G m) Tryd.f5.ntmps 0 (pieceOf (.reg 5) (getBody Tryd.f5)) (cc_tollbarlaw15_awake_1 κ) := p_tollbarlaw15_awake_0_ct κ m
def ct_tollbarlaw15_awake_1 (κ : Nat) : Key → Option (Cut T) := addCut noCut (.reg 5) (cc_tollbarlaw15_awake_1 κ)
def sp_tollbarlaw15_awake : Spec T (Unit) (Bool) where
  dcI a H := match a, H with
    | [], [] => some ()
    | _, _ => none
  ecA := fun _ => []
  ecH := fun _ => []
  dcO o := match o with
    | .ret (.v (.b a0)) [] => some a0
    | _ => none
  goO := fun _ a0 k => k (.ret (.v (.b a0)) [])
  ecO := fun a0 => .ret (.v (.b a0)) []
theorem sp_tollbarlaw15_awake_ok : SpecOk sp_tollbarlaw15_awake := by
  refine ⟨fun a H i h => ?_, fun o x h => ?_, fun R e k => by kernel_rfl⟩
  · simp only [sp_tollbarlaw15_awake] at h ⊢; split at h <;> first | (cases h; exact ⟨rfl, rfl⟩) | (cases h; done)
  · simp only [sp_tollbarlaw15_awake] at h ⊢; split at h <;> first | (cases h; rfl) | (cases h; done)
theorem ok_tollbarlaw15_awake (κ : Nat) (m : Int) : EOk Tryd.prog C (G m) 5 (sp_tollbarlaw15_awake.entry (fun _ => tollbarlaw15_awake κ )) :=
  Spec.ok sp_tollbarlaw15_awake_ok C_ok mixed (gam25_ok κ m) (cut := (ct_tollbarlaw15_awake_1 κ)) (NR := (gcN 0 [0])) (NP := (gcN 0 [0])) (nB := 0) Tryd.func5 (c := (getBody Tryd.f5)) (by kernel_rfl) (by kernel_rfl) (fun i => by kernel_rfl) gcN_ok gcN_ok (cuts_by (l := [(pieceOf (.reg 5) (getBody Tryd.f5), cc_tollbarlaw15_awake_1 κ)]) (by kernel_rfl) (all_cons (cc_tollbarlaw15_awake_1_ok κ m) (all_nil))) (fun i => by kernel_rfl)
noncomputable def gam26 (κ : Nat) : Gam T := (gam25 κ).addS 5 sp_tollbarlaw15_awake (fun _ => tollbarlaw15_awake κ )
theorem gam26_ok (κ : Nat) (m : Int) : GOk Tryd.prog C (G m) (gam26 κ) := (gam25_ok κ m).addS (ok_tollbarlaw15_awake κ m)
def sp_tollbarlaw15_plain_4 : Spec T (ByteArray × Int × Int × Int × Int × (List ByteArray) × Bool × Int × (List SpecSpec)) ((ByteArray × Int × Int × Int × Int × (List ByteArray) × Bool × Int) ⊕ (ByteArray × Int × Int × Int × Int × (List ByteArray) × Bool × Int × (List Tollbarref07S))) where
  dcI a H := match a, H with
    | [(.agg [(.v (.s a0)), (.v (.i .i64 a1)), (.v (.i .i64 a2)), (.v (.i .u64 a3)), (.v (.i .u64 a4)), (.v (.sl 9 a5)), (.v (.b a6)), (.v (.i .i64 a7)), (.v (.sl 29 a8))])], [] => some (a0, a1, a2, a3, a4, a5, a6, a7, a8)
    | _, _ => none
  ecA := fun (a0, a1, a2, a3, a4, a5, a6, a7, a8) => [(.agg [(.v (.s a0)), (.v (.i .i64 a1)), (.v (.i .i64 a2)), (.v (.i .u64 a3)), (.v (.i .u64 a4)), (.v (.sl 9 a5)), (.v (.b a6)), (.v (.i .i64 a7)), (.v (.sl 29 a8))])]
  ecH := fun (a0, a1, a2, a3, a4, a5, a6, a7, a8) => []
  dcO o := match o with
    | .ret (.agg [(.v (.s a0)), (.v (.i .i64 a1)), (.v (.i .i64 a2)), (.v (.i .u64 a3)), (.v (.i .u64 a4)), (.v (.sl 9 a5)), (.v (.b a6)), (.v (.i .i64 a7)), .cap0]) [] => some (.inl (a0, a1, a2, a3, a4, a5, a6, a7))
    | .ret (.agg [(.v (.s a0)), (.v (.i .i64 a1)), (.v (.i .i64 a2)), (.v (.i .u64 a3)), (.v (.i .u64 a4)), (.v (.sl 9 a5)), (.v (.b a6)), (.v (.i .i64 a7)), (.own 0)]) [(.row 35 a8 true)] => some (.inr (a0, a1, a2, a3, a4, a5, a6, a7, a8))
    | _ => none
  goO := fun _ x k => match x with
    | (.inl (a0, a1, a2, a3, a4, a5, a6, a7)) => k (.ret (.agg [(.v (.s a0)), (.v (.i .i64 a1)), (.v (.i .i64 a2)), (.v (.i .u64 a3)), (.v (.i .u64 a4)), (.v (.sl 9 a5)), (.v (.b a6)), (.v (.i .i64 a7)), .cap0]) [])
    | (.inr (a0, a1, a2, a3, a4, a5, a6, a7, a8)) => k (.ret (.agg [(.v (.s a0)), (.v (.i .i64 a1)), (.v (.i .i64 a2)), (.v (.i .u64 a3)), (.v (.i .u64 a4)), (.v (.sl 9 a5)), (.v (.b a6)), (.v (.i .i64 a7)), (.own 0)]) [(.row 35 a8 true)])
  ecO := fun x => match x with
    | (.inl (a0, a1, a2, a3, a4, a5, a6, a7)) => .ret (.agg [(.v (.s a0)), (.v (.i .i64 a1)), (.v (.i .i64 a2)), (.v (.i .u64 a3)), (.v (.i .u64 a4)), (.v (.sl 9 a5)), (.v (.b a6)), (.v (.i .i64 a7)), .cap0]) []
    | (.inr (a0, a1, a2, a3, a4, a5, a6, a7, a8)) => .ret (.agg [(.v (.s a0)), (.v (.i .i64 a1)), (.v (.i .i64 a2)), (.v (.i .u64 a3)), (.v (.i .u64 a4)), (.v (.sl 9 a5)), (.v (.b a6)), (.v (.i .i64 a7)), (.own 0)]) [(.row 35 a8 true)]
theorem sp_tollbarlaw15_plain_4_ok : SpecOk sp_tollbarlaw15_plain_4 := by
  refine ⟨fun a H i h => ?_, fun o x h => ?_, fun R e k => by rcases e with e | e <;> kernel_rfl⟩
  · simp only [sp_tollbarlaw15_plain_4] at h ⊢; split at h <;> first | (cases h; exact ⟨rfl, rfl⟩) | (cases h; done)
  · simp only [sp_tollbarlaw15_plain_4] at h ⊢; split at h <;> first | (cases h; rfl) | (cases h; done)
def p_tollbarlaw15_plain_4_0 : Piece T (Int × ByteArray × Int × Int × Int × Int × (List ByteArray) × Bool × Int × (List SpecSpec) × ByteArray × Int × Int × Int × Int × Bool × Int × ByteArray × Int × Int × Int × Int × (List ByteArray) × Bool × Int × (List Tollbarref07S)) (ByteArray × Int × Int × Int × Int × Bool × Int × ByteArray × Int × Int × Int × Int × (List ByteArray) × Bool × Int × (List Tollbarref07S)) where
  dcS env H ds := match env 1, env 2, env 3, env 4, H, ds with
    | (.ptr 0 0), (.ptr 1 0), (.ptr 2 0), (.v (.i .i64 a0)), [(.cells 29 none [(.v (.s a1)), (.v (.i .i64 a2)), (.v (.i .i64 a3)), (.v (.i .u64 a4)), (.v (.i .u64 a5)), (.v (.sl 9 a6)), (.v (.b a7)), (.v (.i .i64 a8)), (.v (.sl 29 a9))]), (.cells 35 none [(.v (.s a10)), (.v (.i .i64 a11)), (.v (.i .i64 a12)), (.v (.i .u64 a13)), (.v (.i .u64 a14)), .cap0, (.v (.b a15)), (.v (.i .i64 a16)), .cap0]), (.cells 35 none [(.v (.s a17)), (.v (.i .i64 a18)), (.v (.i .i64 a19)), (.v (.i .u64 a20)), (.v (.i .u64 a21)), (.v (.sl 9 a22)), (.v (.b a23)), (.v (.i .i64 a24)), (.own 3)]), (.row 35 a25 true)], [] => some (a0, a1, a2, a3, a4, a5, a6, a7, a8, a9, a10, a11, a12, a13, a14, a15, a16, a17, a18, a19, a20, a21, a22, a23, a24, a25)
    | _, _, _, _, _, _ => none
  slS := fun (a0, a1, a2, a3, a4, a5, a6, a7, a8, a9, a10, a11, a12, a13, a14, a15, a16, a17, a18, a19, a20, a21, a22, a23, a24, a25) => [(1, (.ptr 0 0)), (2, (.ptr 1 0)), (3, (.ptr 2 0)), (4, (.v (.i .i64 a0)))]
  obS := fun (a0, a1, a2, a3, a4, a5, a6, a7, a8, a9, a10, a11, a12, a13, a14, a15, a16, a17, a18, a19, a20, a21, a22, a23, a24, a25) => [(.cells 29 none [(.v (.s a1)), (.v (.i .i64 a2)), (.v (.i .i64 a3)), (.v (.i .u64 a4)), (.v (.i .u64 a5)), (.v (.sl 9 a6)), (.v (.b a7)), (.v (.i .i64 a8)), (.v (.sl 29 a9))]), (.cells 35 none [(.v (.s a10)), (.v (.i .i64 a11)), (.v (.i .i64 a12)), (.v (.i .u64 a13)), (.v (.i .u64 a14)), .cap0, (.v (.b a15)), (.v (.i .i64 a16)), .cap0]), (.cells 35 none [(.v (.s a17)), (.v (.i .i64 a18)), (.v (.i .i64 a19)), (.v (.i .u64 a20)), (.v (.i .u64 a21)), (.v (.sl 9 a22)), (.v (.b a23)), (.v (.i .i64 a24)), (.own 3)]), (.row 35 a25 true)]
  dsS := fun (a0, a1, a2, a3, a4, a5, a6, a7, a8, a9, a10, a11, a12, a13, a14, a15, a16, a17, a18, a19, a20, a21, a22, a23, a24, a25) => []
  dcE x env H ds := match x, env 2, env 3, H, ds with
    | .normal, (.ptr 0 0), (.ptr 1 0), [(.cells 35 none [(.v (.s a0)), (.v (.i .i64 a1)), (.v (.i .i64 a2)), (.v (.i .u64 a3)), (.v (.i .u64 a4)), .cap0, (.v (.b a5)), (.v (.i .i64 a6)), .cap0]), (.cells 35 none [(.v (.s a7)), (.v (.i .i64 a8)), (.v (.i .i64 a9)), (.v (.i .u64 a10)), (.v (.i .u64 a11)), (.v (.sl 9 a12)), (.v (.b a13)), (.v (.i .i64 a14)), (.own 2)]), (.row 35 a15 true)], [] => some (a0, a1, a2, a3, a4, a5, a6, a7, a8, a9, a10, a11, a12, a13, a14, a15)
    | _, _, _, _, _ => none
  exE := fun (a0, a1, a2, a3, a4, a5, a6, a7, a8, a9, a10, a11, a12, a13, a14, a15) => .normal
  slE := fun (a0, a1, a2, a3, a4, a5, a6, a7, a8, a9, a10, a11, a12, a13, a14, a15) => [(2, (.ptr 0 0)), (3, (.ptr 1 0))]
  obE := fun (a0, a1, a2, a3, a4, a5, a6, a7, a8, a9, a10, a11, a12, a13, a14, a15) => [(.cells 35 none [(.v (.s a0)), (.v (.i .i64 a1)), (.v (.i .i64 a2)), (.v (.i .u64 a3)), (.v (.i .u64 a4)), .cap0, (.v (.b a5)), (.v (.i .i64 a6)), .cap0]), (.cells 35 none [(.v (.s a7)), (.v (.i .i64 a8)), (.v (.i .i64 a9)), (.v (.i .u64 a10)), (.v (.i .u64 a11)), (.v (.sl 9 a12)), (.v (.b a13)), (.v (.i .i64 a14)), (.own 2)]), (.row 35 a15 true)]
  dsE := fun (a0, a1, a2, a3, a4, a5, a6, a7, a8, a9, a10, a11, a12, a13, a14, a15) => []
  goE := fun _ (a0, a1, a2, a3, a4, a5, a6, a7, a8, a9, a10, a11, a12, a13, a14, a15) k => k .normal [(2, (.ptr 0 0)), (3, (.ptr 1 0))] [(.cells 35 none [(.v (.s a0)), (.v (.i .i64 a1)), (.v (.i .i64 a2)), (.v (.i .u64 a3)), (.v (.i .u64 a4)), .cap0, (.v (.b a5)), (.v (.i .i64 a6)), .cap0]), (.cells 35 none [(.v (.s a7)), (.v (.i .i64 a8)), (.v (.i .i64 a9)), (.v (.i .u64 a10)), (.v (.i .u64 a11)), (.v (.sl 9 a12)), (.v (.b a13)), (.v (.i .i64 a14)), (.own 2)]), (.row 35 a15 true)] []
theorem p_tollbarlaw15_plain_4_0_ok : PieceOk p_tollbarlaw15_plain_4_0 := by
  refine ⟨fun env H ds s h => ?_, fun x env H ds e h => ?_, fun R e k => by kernel_rfl⟩
  · simp only [p_tollbarlaw15_plain_4_0] at h ⊢; split at h <;> first | (cases h; simp only [List.forall_mem_cons]; simp_all; done) | (cases h; done)
  · simp only [p_tollbarlaw15_plain_4_0] at h ⊢; split at h <;> first | (cases h; simp only [List.forall_mem_cons]; simp_all; done) | (cases h; done)
theorem p_tollbarlaw15_plain_4_0_ct (κ : Nat) (m : Int) (rec_tollbarlaw15_plain_4 : (ByteArray × Int × Int × Int × Int × (List ByteArray) × Bool × Int × (List SpecSpec)) → Option ((ByteArray × Int × Int × Int × Int × (List ByteArray) × Bool × Int) ⊕ (ByteArray × Int × Int × Int × Int × (List ByteArray) × Bool × Int × (List Tollbarref07S)))) (hrec_tollbarlaw15_plain_4 : EOk Tryd.prog C (G m) 11 (sp_tollbarlaw15_plain_4.entry rec_tollbarlaw15_plain_4)) : CutOk Tryd.prog C (G m) Tryd.f11.ntmps 0 (pieceOf (.blk 0) (getBody Tryd.f11)) (p_tollbarlaw15_plain_4_0.cut (andN (gcN 0 [1, 2, 3, 4]) (andN (promC 2 8 [] 35) (gcN 0 [1, 2, 3, 4]))) (tollbarlaw15_plain_4.l0 κ rec_tollbarlaw15_plain_4 κ)) :=
  Piece.loop p_tollbarlaw15_plain_4_0_ok C_ok mixed ((gam26_ok κ m).addS hrec_tollbarlaw15_plain_4) (andN_ok gcN_ok (andN_ok promC_ok gcN_ok)) (xN_ok gcN_ok (ex_nil) gcN_ok gcN_ok) (cut := noCut) (X := (xN (gcN 0 [2, 3]) [] (gcN 0 [2]) (gcN 0 [1000000]))) (id := 0) (body := bodyOf (pieceOf (.blk 0) (getBody Tryd.f11))) (cuts_by (l := []) (by kernel_rfl) (all_nil)) (f := tollbarlaw15_plain_4.l0 κ rec_tollbarlaw15_plain_4) (fun s => by kernel_rfl) (fun k s => by kernel_rfl) κ
def cc_tollbarlaw15_plain_4_1 (κ : Nat) (rec_tollbarlaw15_plain_4 : (ByteArray × Int × Int × Int × Int × (List ByteArray) × Bool × Int × (List SpecSpec)) → Option ((ByteArray × Int × Int × Int × Int × (List ByteArray) × Bool × Int) ⊕ (ByteArray × Int × Int × Int × Int × (List ByteArray) × Bool × Int × (List Tollbarref07S)))) : Cut T := p_tollbarlaw15_plain_4_0.cut (andN (gcN 0 [1, 2, 3, 4]) (andN (promC 2 8 [] 35) (gcN 0 [1, 2, 3, 4]))) (tollbarlaw15_plain_4.l0 κ rec_tollbarlaw15_plain_4 κ)
theorem cc_tollbarlaw15_plain_4_1_ok (κ : Nat) (m : Int) (rec_tollbarlaw15_plain_4 : (ByteArray × Int × Int × Int × Int × (List ByteArray) × Bool × Int × (List SpecSpec)) → Option ((ByteArray × Int × Int × Int × Int × (List ByteArray) × Bool × Int) ⊕ (ByteArray × Int × Int × Int × Int × (List ByteArray) × Bool × Int × (List Tollbarref07S)))) (hrec_tollbarlaw15_plain_4 : EOk Tryd.prog C (G m) 11 (sp_tollbarlaw15_plain_4.entry rec_tollbarlaw15_plain_4)) : CutOk Tryd.prog C (G m) Tryd.f11.ntmps 0 (pieceOf (.blk 0) (getBody Tryd.f11)) (cc_tollbarlaw15_plain_4_1 κ rec_tollbarlaw15_plain_4) := p_tollbarlaw15_plain_4_0_ct κ m rec_tollbarlaw15_plain_4 hrec_tollbarlaw15_plain_4
def ct_tollbarlaw15_plain_4_1 (κ : Nat) (rec_tollbarlaw15_plain_4 : (ByteArray × Int × Int × Int × Int × (List ByteArray) × Bool × Int × (List SpecSpec)) → Option ((ByteArray × Int × Int × Int × Int × (List ByteArray) × Bool × Int) ⊕ (ByteArray × Int × Int × Int × Int × (List ByteArray) × Bool × Int × (List Tollbarref07S)))) : Key → Option (Cut T) := addCut noCut (.blk 0) (cc_tollbarlaw15_plain_4_1 κ rec_tollbarlaw15_plain_4)
theorem okb_tollbarlaw15_plain_4 (κ : Nat) (m : Int) (rec_tollbarlaw15_plain_4 : (ByteArray × Int × Int × Int × Int × (List ByteArray) × Bool × Int × (List SpecSpec)) → Option ((ByteArray × Int × Int × Int × Int × (List ByteArray) × Bool × Int) ⊕ (ByteArray × Int × Int × Int × Int × (List ByteArray) × Bool × Int × (List Tollbarref07S)))) (hrec_tollbarlaw15_plain_4 : EOk Tryd.prog C (G m) 11 (sp_tollbarlaw15_plain_4.entry rec_tollbarlaw15_plain_4)) : EOk Tryd.prog C (G m) 11 (sp_tollbarlaw15_plain_4.entry (fun (a0, a1, a2, a3, a4, a5, a6, a7, a8) => tollbarlaw15_plain_4.b κ rec_tollbarlaw15_plain_4 a0 a1 a2 a3 a4 a5 a6 a7 a8)) :=
  Spec.ok sp_tollbarlaw15_plain_4_ok C_ok mixed ((gam26_ok κ m).addS hrec_tollbarlaw15_plain_4) (cut := (ct_tollbarlaw15_plain_4_1 κ rec_tollbarlaw15_plain_4)) (NR := (andN (promS 0 [8] 35) (gcN 0 [0]))) (NP := (gcN 0 [0])) (nB := 0) Tryd.func11 (c := (getBody Tryd.f11)) (by kernel_rfl) (by kernel_rfl) (fun i => by kernel_rfl) (andN_ok promS_ok gcN_ok) gcN_ok (cuts_by (l := [(pieceOf (.blk 0) (getBody Tryd.f11), cc_tollbarlaw15_plain_4_1 κ rec_tollbarlaw15_plain_4)]) (by kernel_rfl) (all_cons (cc_tollbarlaw15_plain_4_1_ok κ m rec_tollbarlaw15_plain_4 hrec_tollbarlaw15_plain_4) (all_nil))) (fun i => by kernel_rfl)
theorem ok_tollbarlaw15_plain_4 (κ : Nat) (m : Int) : EOk Tryd.prog C (G m) 11 (sp_tollbarlaw15_plain_4.entry (fun (a0, a1, a2, a3, a4, a5, a6, a7, a8) => tollbarlaw15_plain_4 κ a0 a1 a2 a3 a4 a5 a6 a7 a8)) :=
  eok_rec (s := sp_tollbarlaw15_plain_4) (f := tollbarlaw15_plain_4.r κ) (fun i => rfl) (fun k h => okb_tollbarlaw15_plain_4 κ m (tollbarlaw15_plain_4.r κ k) h) κ
noncomputable def gam27 (κ : Nat) : Gam T := (gam26 κ).addS 11 sp_tollbarlaw15_plain_4 (fun (a0, a1, a2, a3, a4, a5, a6, a7, a8) => tollbarlaw15_plain_4 κ a0 a1 a2 a3 a4 a5 a6 a7 a8)
theorem gam27_ok (κ : Nat) (m : Int) : GOk Tryd.prog C (G m) (gam27 κ) := (gam26_ok κ m).addS (ok_tollbarlaw15_plain_4 κ m)
def p_tollbarref07_Same_0 : Piece T (ByteArray × Int × Int × Int × Int × (List ByteArray) × Bool × Int × ByteArray × Int × Int × Int × Int × (List ByteArray) × Bool × Int) (Bool × ByteArray × Int × Int × Int × Int × (List ByteArray) × Bool × Int × ByteArray × Int × Int × Int × Int × (List ByteArray) × Bool × Int) where
  dcS env H ds := match env 2, env 3, H, ds with
    | (.ptr 0 0), (.ptr 1 0), [(.cells 35 none [(.v (.s a0)), (.v (.i .i64 a1)), (.v (.i .i64 a2)), (.v (.i .u64 a3)), (.v (.i .u64 a4)), (.v (.sl 9 a5)), (.v (.b a6)), (.v (.i .i64 a7)), .cap0]), (.cells 35 none [(.v (.s a8)), (.v (.i .i64 a9)), (.v (.i .i64 a10)), (.v (.i .u64 a11)), (.v (.i .u64 a12)), (.v (.sl 9 a13)), (.v (.b a14)), (.v (.i .i64 a15)), .cap0])], [] => some (a0, a1, a2, a3, a4, a5, a6, a7, a8, a9, a10, a11, a12, a13, a14, a15)
    | _, _, _, _ => none
  slS := fun (a0, a1, a2, a3, a4, a5, a6, a7, a8, a9, a10, a11, a12, a13, a14, a15) => [(2, (.ptr 0 0)), (3, (.ptr 1 0))]
  obS := fun (a0, a1, a2, a3, a4, a5, a6, a7, a8, a9, a10, a11, a12, a13, a14, a15) => [(.cells 35 none [(.v (.s a0)), (.v (.i .i64 a1)), (.v (.i .i64 a2)), (.v (.i .u64 a3)), (.v (.i .u64 a4)), (.v (.sl 9 a5)), (.v (.b a6)), (.v (.i .i64 a7)), .cap0]), (.cells 35 none [(.v (.s a8)), (.v (.i .i64 a9)), (.v (.i .i64 a10)), (.v (.i .u64 a11)), (.v (.i .u64 a12)), (.v (.sl 9 a13)), (.v (.b a14)), (.v (.i .i64 a15)), .cap0])]
  dsS := fun (a0, a1, a2, a3, a4, a5, a6, a7, a8, a9, a10, a11, a12, a13, a14, a15) => []
  dcE x env H ds := match x, env 2, env 3, env 72, H, ds with
    | .normal, (.ptr 0 0), (.ptr 1 0), (.v (.b a0)), [(.cells 35 none [(.v (.s a1)), (.v (.i .i64 a2)), (.v (.i .i64 a3)), (.v (.i .u64 a4)), (.v (.i .u64 a5)), (.v (.sl 9 a6)), (.v (.b a7)), (.v (.i .i64 a8)), .cap0]), (.cells 35 none [(.v (.s a9)), (.v (.i .i64 a10)), (.v (.i .i64 a11)), (.v (.i .u64 a12)), (.v (.i .u64 a13)), (.v (.sl 9 a14)), (.v (.b a15)), (.v (.i .i64 a16)), .cap0])], [] => some (a0, a1, a2, a3, a4, a5, a6, a7, a8, a9, a10, a11, a12, a13, a14, a15, a16)
    | _, _, _, _, _, _ => none
  exE := fun (a0, a1, a2, a3, a4, a5, a6, a7, a8, a9, a10, a11, a12, a13, a14, a15, a16) => .normal
  slE := fun (a0, a1, a2, a3, a4, a5, a6, a7, a8, a9, a10, a11, a12, a13, a14, a15, a16) => [(2, (.ptr 0 0)), (3, (.ptr 1 0)), (72, (.v (.b a0)))]
  obE := fun (a0, a1, a2, a3, a4, a5, a6, a7, a8, a9, a10, a11, a12, a13, a14, a15, a16) => [(.cells 35 none [(.v (.s a1)), (.v (.i .i64 a2)), (.v (.i .i64 a3)), (.v (.i .u64 a4)), (.v (.i .u64 a5)), (.v (.sl 9 a6)), (.v (.b a7)), (.v (.i .i64 a8)), .cap0]), (.cells 35 none [(.v (.s a9)), (.v (.i .i64 a10)), (.v (.i .i64 a11)), (.v (.i .u64 a12)), (.v (.i .u64 a13)), (.v (.sl 9 a14)), (.v (.b a15)), (.v (.i .i64 a16)), .cap0])]
  dsE := fun (a0, a1, a2, a3, a4, a5, a6, a7, a8, a9, a10, a11, a12, a13, a14, a15, a16) => []
  goE := fun _ (a0, a1, a2, a3, a4, a5, a6, a7, a8, a9, a10, a11, a12, a13, a14, a15, a16) k => k .normal [(2, (.ptr 0 0)), (3, (.ptr 1 0)), (72, (.v (.b a0)))] [(.cells 35 none [(.v (.s a1)), (.v (.i .i64 a2)), (.v (.i .i64 a3)), (.v (.i .u64 a4)), (.v (.i .u64 a5)), (.v (.sl 9 a6)), (.v (.b a7)), (.v (.i .i64 a8)), .cap0]), (.cells 35 none [(.v (.s a9)), (.v (.i .i64 a10)), (.v (.i .i64 a11)), (.v (.i .u64 a12)), (.v (.i .u64 a13)), (.v (.sl 9 a14)), (.v (.b a15)), (.v (.i .i64 a16)), .cap0])] []
theorem p_tollbarref07_Same_0_ok : PieceOk p_tollbarref07_Same_0 := by
  refine ⟨fun env H ds s h => ?_, fun x env H ds e h => ?_, fun R e k => by kernel_rfl⟩
  · simp only [p_tollbarref07_Same_0] at h ⊢; split at h <;> first | (cases h; simp only [List.forall_mem_cons]; simp_all; done) | (cases h; done)
  · simp only [p_tollbarref07_Same_0] at h ⊢; split at h <;> first | (cases h; simp only [List.forall_mem_cons]; simp_all; done) | (cases h; done)
theorem p_tollbarref07_Same_0_ct (κ : Nat) (m : Int) : CutOk Tryd.prog C (G m) Tryd.f10.ntmps 0 (pieceOf (.reg 1) (getBody Tryd.f10)) (p_tollbarref07_Same_0.cut (gcN 0 [2, 3]) (fun (a0, a1, a2, a3, a4, a5, a6, a7, a8, a9, a10, a11, a12, a13, a14, a15) => tollbarref07_Same.v0 κ a0 a1 a2 a3 a4 a5 a6 a7 a8 a9 a10 a11 a12 a13 a14 a15)) :=
  Piece.join p_tollbarref07_Same_0_ok C_ok mixed (gam27_ok κ m) gcN_ok (xN_ok gcN_ok (ex_nil) gcN_ok gcN_ok) (cut := noCut) (X := (xN (gcN 0 [2, 3, 72]) [] (gcN 0 [4]) (gcN 0 [1000000]))) (cuts_by (l := []) (by kernel_rfl) (all_nil)) (fun s => by kernel_rfl)
def cc_tollbarref07_Same_1 (κ : Nat) : Cut T := p_tollbarref07_Same_0.cut (gcN 0 [2, 3]) (fun (a0, a1, a2, a3, a4, a5, a6, a7, a8, a9, a10, a11, a12, a13, a14, a15) => tollbarref07_Same.v0 κ a0 a1 a2 a3 a4 a5 a6 a7 a8 a9 a10 a11 a12 a13 a14 a15)
theorem cc_tollbarref07_Same_1_ok (κ : Nat) (m : Int) : CutOk Tryd.prog C (G m) Tryd.f10.ntmps 0 (pieceOf (.reg 1) (getBody Tryd.f10)) (cc_tollbarref07_Same_1 κ) := p_tollbarref07_Same_0_ct κ m
def ct_tollbarref07_Same_1 (κ : Nat) : Key → Option (Cut T) := addCut noCut (.reg 1) (cc_tollbarref07_Same_1 κ)
def p_tollbarref07_Same_2 : Piece T (Int × ByteArray × Int × Int × Int × Int × (List ByteArray) × Bool × Int × ByteArray × Int × Int × Int × Int × (List ByteArray) × Bool × Int) ((ByteArray × Int × Int × Int × Int × (List ByteArray) × Bool × Int × ByteArray × Int × Int × Int × Int × (List ByteArray) × Bool × Int) ⊕ (Bool)) where
  dcS env H ds := match env 2, env 3, env 5, H, ds with
    | (.ptr 0 0), (.ptr 1 0), (.v (.i .i64 a0)), [(.cells 35 none [(.v (.s a1)), (.v (.i .i64 a2)), (.v (.i .i64 a3)), (.v (.i .u64 a4)), (.v (.i .u64 a5)), (.v (.sl 9 a6)), (.v (.b a7)), (.v (.i .i64 a8)), .cap0]), (.cells 35 none [(.v (.s a9)), (.v (.i .i64 a10)), (.v (.i .i64 a11)), (.v (.i .u64 a12)), (.v (.i .u64 a13)), (.v (.sl 9 a14)), (.v (.b a15)), (.v (.i .i64 a16)), .cap0])], [] => some (a0, a1, a2, a3, a4, a5, a6, a7, a8, a9, a10, a11, a12, a13, a14, a15, a16)
    | _, _, _, _, _ => none
  slS := fun (a0, a1, a2, a3, a4, a5, a6, a7, a8, a9, a10, a11, a12, a13, a14, a15, a16) => [(2, (.ptr 0 0)), (3, (.ptr 1 0)), (5, (.v (.i .i64 a0)))]
  obS := fun (a0, a1, a2, a3, a4, a5, a6, a7, a8, a9, a10, a11, a12, a13, a14, a15, a16) => [(.cells 35 none [(.v (.s a1)), (.v (.i .i64 a2)), (.v (.i .i64 a3)), (.v (.i .u64 a4)), (.v (.i .u64 a5)), (.v (.sl 9 a6)), (.v (.b a7)), (.v (.i .i64 a8)), .cap0]), (.cells 35 none [(.v (.s a9)), (.v (.i .i64 a10)), (.v (.i .i64 a11)), (.v (.i .u64 a12)), (.v (.i .u64 a13)), (.v (.sl 9 a14)), (.v (.b a15)), (.v (.i .i64 a16)), .cap0])]
  dsS := fun (a0, a1, a2, a3, a4, a5, a6, a7, a8, a9, a10, a11, a12, a13, a14, a15, a16) => []
  dcE x env H ds := match x, env 2, env 3, env 4, H, ds with
    | .normal, (.ptr 0 0), (.ptr 1 0), _, [(.cells 35 none [(.v (.s a0)), (.v (.i .i64 a1)), (.v (.i .i64 a2)), (.v (.i .u64 a3)), (.v (.i .u64 a4)), (.v (.sl 9 a5)), (.v (.b a6)), (.v (.i .i64 a7)), .cap0]), (.cells 35 none [(.v (.s a8)), (.v (.i .i64 a9)), (.v (.i .i64 a10)), (.v (.i .u64 a11)), (.v (.i .u64 a12)), (.v (.sl 9 a13)), (.v (.b a14)), (.v (.i .i64 a15)), .cap0])], [] => some (.inl (a0, a1, a2, a3, a4, a5, a6, a7, a8, a9, a10, a11, a12, a13, a14, a15))
    | .ret, _, _, (.v (.b a0)), [], [] => some (.inr a0)
    | _, _, _, _, _, _ => none
  exE := fun x => match x with
    | (.inl (a0, a1, a2, a3, a4, a5, a6, a7, a8, a9, a10, a11, a12, a13, a14, a15)) => .normal
    | (.inr a0) => .ret
  slE := fun x => match x with
    | (.inl (a0, a1, a2, a3, a4, a5, a6, a7, a8, a9, a10, a11, a12, a13, a14, a15)) => [(2, (.ptr 0 0)), (3, (.ptr 1 0))]
    | (.inr a0) => [(4, (.v (.b a0)))]
  obE := fun x => match x with
    | (.inl (a0, a1, a2, a3, a4, a5, a6, a7, a8, a9, a10, a11, a12, a13, a14, a15)) => [(.cells 35 none [(.v (.s a0)), (.v (.i .i64 a1)), (.v (.i .i64 a2)), (.v (.i .u64 a3)), (.v (.i .u64 a4)), (.v (.sl 9 a5)), (.v (.b a6)), (.v (.i .i64 a7)), .cap0]), (.cells 35 none [(.v (.s a8)), (.v (.i .i64 a9)), (.v (.i .i64 a10)), (.v (.i .u64 a11)), (.v (.i .u64 a12)), (.v (.sl 9 a13)), (.v (.b a14)), (.v (.i .i64 a15)), .cap0])]
    | (.inr a0) => []
  dsE := fun x => match x with
    | (.inl (a0, a1, a2, a3, a4, a5, a6, a7, a8, a9, a10, a11, a12, a13, a14, a15)) => []
    | (.inr a0) => []
  goE := fun _ x k => match x with
    | (.inl (a0, a1, a2, a3, a4, a5, a6, a7, a8, a9, a10, a11, a12, a13, a14, a15)) => k .normal [(2, (.ptr 0 0)), (3, (.ptr 1 0))] [(.cells 35 none [(.v (.s a0)), (.v (.i .i64 a1)), (.v (.i .i64 a2)), (.v (.i .u64 a3)), (.v (.i .u64 a4)), (.v (.sl 9 a5)), (.v (.b a6)), (.v (.i .i64 a7)), .cap0]), (.cells 35 none [(.v (.s a8)), (.v (.i .i64 a9)), (.v (.i .i64 a10)), (.v (.i .u64 a11)), (.v (.i .u64 a12)), (.v (.sl 9 a13)), (.v (.b a14)), (.v (.i .i64 a15)), .cap0])] []
    | (.inr a0) => k .ret [(4, (.v (.b a0)))] [] []
theorem p_tollbarref07_Same_2_ok : PieceOk p_tollbarref07_Same_2 := by
  refine ⟨fun env H ds s h => ?_, fun x env H ds e h => ?_, fun R e k => by rcases e with e | e <;> kernel_rfl⟩
  · simp only [p_tollbarref07_Same_2] at h ⊢; split at h <;> first | (cases h; simp only [List.forall_mem_cons]; simp_all; done) | (cases h; done)
  · simp only [p_tollbarref07_Same_2] at h ⊢; split at h <;> first | (cases h; simp only [List.forall_mem_cons]; simp_all; done) | (cases h; done)
theorem p_tollbarref07_Same_2_ct (κ : Nat) (m : Int) : CutOk Tryd.prog C (G m) Tryd.f10.ntmps 0 (pieceOf (.blk 0) (getBody Tryd.f10)) (p_tollbarref07_Same_2.cut (gcN 0 [2, 3, 5]) (tollbarref07_Same.l2 κ κ)) :=
  Piece.loop p_tollbarref07_Same_2_ok C_ok mixed (gam27_ok κ m) gcN_ok (xN_ok gcN_ok (ex_nil) gcN_ok gcN_ok) (cut := (ct_tollbarref07_Same_1 κ)) (X := (xN (gcN 0 [2, 3]) [] (gcN 0 [4]) (gcN 0 [1000000]))) (id := 0) (body := bodyOf (pieceOf (.blk 0) (getBody Tryd.f10))) (cuts_by (l := []) (by kernel_rfl) (all_nil)) (f := tollbarref07_Same.l2 κ) (fun s => by kernel_rfl) (fun k s => by kernel_rfl) κ
def cc_tollbarref07_Same_3 (κ : Nat) : Cut T := p_tollbarref07_Same_2.cut (gcN 0 [2, 3, 5]) (tollbarref07_Same.l2 κ κ)
theorem cc_tollbarref07_Same_3_ok (κ : Nat) (m : Int) : CutOk Tryd.prog C (G m) Tryd.f10.ntmps 0 (pieceOf (.blk 0) (getBody Tryd.f10)) (cc_tollbarref07_Same_3 κ) := p_tollbarref07_Same_2_ct κ m
def ct_tollbarref07_Same_3 (κ : Nat) : Key → Option (Cut T) := addCut (ct_tollbarref07_Same_1 κ) (.blk 0) (cc_tollbarref07_Same_3 κ)
def p_tollbarref07_Same_4 : Piece T (Int × ByteArray × Int × Int × Int × Int × (List ByteArray) × Bool × Int × ByteArray × Int × Int × Int × Int × (List ByteArray) × Bool × Int) (Unit) where
  dcS env H ds := match env 2, env 3, env 6, H, ds with
    | (.ptr 0 0), (.ptr 1 0), (.v (.i .i64 a0)), [(.cells 35 none [(.v (.s a1)), (.v (.i .i64 a2)), (.v (.i .i64 a3)), (.v (.i .u64 a4)), (.v (.i .u64 a5)), (.v (.sl 9 a6)), (.v (.b a7)), (.v (.i .i64 a8)), .cap0]), (.cells 35 none [(.v (.s a9)), (.v (.i .i64 a10)), (.v (.i .i64 a11)), (.v (.i .u64 a12)), (.v (.i .u64 a13)), (.v (.sl 9 a14)), (.v (.b a15)), (.v (.i .i64 a16)), .cap0])], [] => some (a0, a1, a2, a3, a4, a5, a6, a7, a8, a9, a10, a11, a12, a13, a14, a15, a16)
    | _, _, _, _, _ => none
  slS := fun (a0, a1, a2, a3, a4, a5, a6, a7, a8, a9, a10, a11, a12, a13, a14, a15, a16) => [(2, (.ptr 0 0)), (3, (.ptr 1 0)), (6, (.v (.i .i64 a0)))]
  obS := fun (a0, a1, a2, a3, a4, a5, a6, a7, a8, a9, a10, a11, a12, a13, a14, a15, a16) => [(.cells 35 none [(.v (.s a1)), (.v (.i .i64 a2)), (.v (.i .i64 a3)), (.v (.i .u64 a4)), (.v (.i .u64 a5)), (.v (.sl 9 a6)), (.v (.b a7)), (.v (.i .i64 a8)), .cap0]), (.cells 35 none [(.v (.s a9)), (.v (.i .i64 a10)), (.v (.i .i64 a11)), (.v (.i .u64 a12)), (.v (.i .u64 a13)), (.v (.sl 9 a14)), (.v (.b a15)), (.v (.i .i64 a16)), .cap0])]
  dsS := fun (a0, a1, a2, a3, a4, a5, a6, a7, a8, a9, a10, a11, a12, a13, a14, a15, a16) => []
  dcE x env H ds := match x, H, ds with
    | .normal, [], [] => some ()
    | _, _, _ => none
  exE := fun _ => .normal
  slE := fun _ => []
  obE := fun _ => []
  dsE := fun _ => []
  goE := fun _ _ k => k .normal [] [] []
theorem p_tollbarref07_Same_4_ok : PieceOk p_tollbarref07_Same_4 := by
  refine ⟨fun env H ds s h => ?_, fun x env H ds e h => ?_, fun R e k => by kernel_rfl⟩
  · simp only [p_tollbarref07_Same_4] at h ⊢; split at h <;> first | (cases h; simp only [List.forall_mem_cons]; simp_all; done) | (cases h; done)
  · simp only [p_tollbarref07_Same_4] at h ⊢; split at h <;> first | (cases h; simp only [List.forall_mem_cons]; simp_all; done) | (cases h; done)
theorem p_tollbarref07_Same_4_ct (κ : Nat) (m : Int) : CutOk Tryd.prog C (G m) Tryd.f10.ntmps 0 (pieceOf (.blk 2) (getBody Tryd.f10)) (p_tollbarref07_Same_4.cut (gcN 0 [2, 3, 6]) (tollbarref07_Same.l4 κ κ)) :=
  Piece.loop p_tollbarref07_Same_4_ok C_ok mixed (gam27_ok κ m) gcN_ok (xN_ok gcN_ok (ex_nil) gcN_ok gcN_ok) (cut := (ct_tollbarref07_Same_3 κ)) (X := (xN (gcN 0 []) [] (gcN 0 [4]) (gcN 0 [1000000]))) (id := 2) (body := bodyOf (pieceOf (.blk 2) (getBody Tryd.f10))) (cuts_by (l := []) (by kernel_rfl) (all_nil)) (f := tollbarref07_Same.l4 κ) (fun s => by kernel_rfl) (fun k s => by kernel_rfl) κ
def cc_tollbarref07_Same_5 (κ : Nat) : Cut T := p_tollbarref07_Same_4.cut (gcN 0 [2, 3, 6]) (tollbarref07_Same.l4 κ κ)
theorem cc_tollbarref07_Same_5_ok (κ : Nat) (m : Int) : CutOk Tryd.prog C (G m) Tryd.f10.ntmps 0 (pieceOf (.blk 2) (getBody Tryd.f10)) (cc_tollbarref07_Same_5 κ) := p_tollbarref07_Same_4_ct κ m
def ct_tollbarref07_Same_5 (κ : Nat) : Key → Option (Cut T) := addCut (ct_tollbarref07_Same_3 κ) (.blk 2) (cc_tollbarref07_Same_5 κ)
def sp_tollbarref07_Same : Spec T (ByteArray × Int × Int × Int × Int × (List ByteArray) × Bool × Int × ByteArray × Int × Int × Int × Int × (List ByteArray) × Bool × Int) (Bool) where
  dcI a H := match a, H with
    | [(.agg [(.v (.s a0)), (.v (.i .i64 a1)), (.v (.i .i64 a2)), (.v (.i .u64 a3)), (.v (.i .u64 a4)), (.v (.sl 9 a5)), (.v (.b a6)), (.v (.i .i64 a7)), .cap0]), (.agg [(.v (.s a8)), (.v (.i .i64 a9)), (.v (.i .i64 a10)), (.v (.i .u64 a11)), (.v (.i .u64 a12)), (.v (.sl 9 a13)), (.v (.b a14)), (.v (.i .i64 a15)), .cap0])], [] => some (a0, a1, a2, a3, a4, a5, a6, a7, a8, a9, a10, a11, a12, a13, a14, a15)
    | _, _ => none
  ecA := fun (a0, a1, a2, a3, a4, a5, a6, a7, a8, a9, a10, a11, a12, a13, a14, a15) => [(.agg [(.v (.s a0)), (.v (.i .i64 a1)), (.v (.i .i64 a2)), (.v (.i .u64 a3)), (.v (.i .u64 a4)), (.v (.sl 9 a5)), (.v (.b a6)), (.v (.i .i64 a7)), .cap0]), (.agg [(.v (.s a8)), (.v (.i .i64 a9)), (.v (.i .i64 a10)), (.v (.i .u64 a11)), (.v (.i .u64 a12)), (.v (.sl 9 a13)), (.v (.b a14)), (.v (.i .i64 a15)), .cap0])]
  ecH := fun (a0, a1, a2, a3, a4, a5, a6, a7, a8, a9, a10, a11, a12, a13, a14, a15) => []
  dcO o := match o with
    | .ret (.v (.b a0)) [] => some a0
    | _ => none
  goO := fun _ a0 k => k (.ret (.v (.b a0)) [])
  ecO := fun a0 => .ret (.v (.b a0)) []
theorem sp_tollbarref07_Same_ok : SpecOk sp_tollbarref07_Same := by
  refine ⟨fun a H i h => ?_, fun o x h => ?_, fun R e k => by kernel_rfl⟩
  · simp only [sp_tollbarref07_Same] at h ⊢; split at h <;> first | (cases h; exact ⟨rfl, rfl⟩) | (cases h; done)
  · simp only [sp_tollbarref07_Same] at h ⊢; split at h <;> first | (cases h; rfl) | (cases h; done)
theorem ok_tollbarref07_Same (κ : Nat) (m : Int) : EOk Tryd.prog C (G m) 10 (sp_tollbarref07_Same.entry (fun (a0, a1, a2, a3, a4, a5, a6, a7, a8, a9, a10, a11, a12, a13, a14, a15) => tollbarref07_Same κ a0 a1 a2 a3 a4 a5 a6 a7 a8 a9 a10 a11 a12 a13 a14 a15)) :=
  Spec.ok sp_tollbarref07_Same_ok C_ok mixed (gam27_ok κ m) (cut := (ct_tollbarref07_Same_5 κ)) (NR := (gcN 0 [0])) (NP := (gcN 0 [0])) (nB := 0) Tryd.func10 (c := (getBody Tryd.f10)) (by kernel_rfl) (by kernel_rfl) (fun i => by kernel_rfl) gcN_ok gcN_ok (cuts_by (l := [(pieceOf (.reg 1) (getBody Tryd.f10), cc_tollbarref07_Same_1 κ), (pieceOf (.blk 0) (getBody Tryd.f10), cc_tollbarref07_Same_3 κ), (pieceOf (.blk 2) (getBody Tryd.f10), cc_tollbarref07_Same_5 κ)]) (by kernel_rfl) (all_cons (cc_tollbarref07_Same_1_ok κ m) (all_cons (cc_tollbarref07_Same_3_ok κ m) (all_cons (cc_tollbarref07_Same_5_ok κ m) (all_nil))))) (fun i => by kernel_rfl)
noncomputable def gam28 (κ : Nat) : Gam T := (gam27 κ).addS 10 sp_tollbarref07_Same (fun (a0, a1, a2, a3, a4, a5, a6, a7, a8, a9, a10, a11, a12, a13, a14, a15) => tollbarref07_Same κ a0 a1 a2 a3 a4 a5 a6 a7 a8 a9 a10 a11 a12 a13 a14 a15)
theorem gam28_ok (κ : Nat) (m : Int) : GOk Tryd.prog C (G m) (gam28 κ) := (gam27_ok κ m).addS (ok_tollbarref07_Same κ m)
def p_tollbarref07_Same_2_0 : Piece T (ByteArray × Int × Int × Int × Int × (List ByteArray) × Bool × Int × ByteArray × Int × Int × Int × Int × (List ByteArray) × Bool × Int × (List Tollbarref07S)) (Bool × ByteArray × Int × Int × Int × Int × (List ByteArray) × Bool × Int × ByteArray × Int × Int × Int × Int × (List ByteArray) × Bool × Int × (List Tollbarref07S)) where
  dcS env H ds := match env 2, env 3, H, ds with
    | (.ptr 0 0), (.ptr 1 0), [(.cells 35 none [(.v (.s a0)), (.v (.i .i64 a1)), (.v (.i .i64 a2)), (.v (.i .u64 a3)), (.v (.i .u64 a4)), (.v (.sl 9 a5)), (.v (.b a6)), (.v (.i .i64 a7)), .cap0]), (.cells 35 none [(.v (.s a8)), (.v (.i .i64 a9)), (.v (.i .i64 a10)), (.v (.i .u64 a11)), (.v (.i .u64 a12)), (.v (.sl 9 a13)), (.v (.b a14)), (.v (.i .i64 a15)), (.v (.sl 35 a16))])], [] => some (a0, a1, a2, a3, a4, a5, a6, a7, a8, a9, a10, a11, a12, a13, a14, a15, a16)
    | _, _, _, _ => none
  slS := fun (a0, a1, a2, a3, a4, a5, a6, a7, a8, a9, a10, a11, a12, a13, a14, a15, a16) => [(2, (.ptr 0 0)), (3, (.ptr 1 0))]
  obS := fun (a0, a1, a2, a3, a4, a5, a6, a7, a8, a9, a10, a11, a12, a13, a14, a15, a16) => [(.cells 35 none [(.v (.s a0)), (.v (.i .i64 a1)), (.v (.i .i64 a2)), (.v (.i .u64 a3)), (.v (.i .u64 a4)), (.v (.sl 9 a5)), (.v (.b a6)), (.v (.i .i64 a7)), .cap0]), (.cells 35 none [(.v (.s a8)), (.v (.i .i64 a9)), (.v (.i .i64 a10)), (.v (.i .u64 a11)), (.v (.i .u64 a12)), (.v (.sl 9 a13)), (.v (.b a14)), (.v (.i .i64 a15)), (.v (.sl 35 a16))])]
  dsS := fun (a0, a1, a2, a3, a4, a5, a6, a7, a8, a9, a10, a11, a12, a13, a14, a15, a16) => []
  dcE x env H ds := match x, env 2, env 3, env 72, H, ds with
    | .normal, (.ptr 0 0), (.ptr 1 0), (.v (.b a0)), [(.cells 35 none [(.v (.s a1)), (.v (.i .i64 a2)), (.v (.i .i64 a3)), (.v (.i .u64 a4)), (.v (.i .u64 a5)), (.v (.sl 9 a6)), (.v (.b a7)), (.v (.i .i64 a8)), .cap0]), (.cells 35 none [(.v (.s a9)), (.v (.i .i64 a10)), (.v (.i .i64 a11)), (.v (.i .u64 a12)), (.v (.i .u64 a13)), (.v (.sl 9 a14)), (.v (.b a15)), (.v (.i .i64 a16)), (.v (.sl 35 a17))])], [] => some (a0, a1, a2, a3, a4, a5, a6, a7, a8, a9, a10, a11, a12, a13, a14, a15, a16, a17)
    | _, _, _, _, _, _ => none
  exE := fun (a0, a1, a2, a3, a4, a5, a6, a7, a8, a9, a10, a11, a12, a13, a14, a15, a16, a17) => .normal
  slE := fun (a0, a1, a2, a3, a4, a5, a6, a7, a8, a9, a10, a11, a12, a13, a14, a15, a16, a17) => [(2, (.ptr 0 0)), (3, (.ptr 1 0)), (72, (.v (.b a0)))]
  obE := fun (a0, a1, a2, a3, a4, a5, a6, a7, a8, a9, a10, a11, a12, a13, a14, a15, a16, a17) => [(.cells 35 none [(.v (.s a1)), (.v (.i .i64 a2)), (.v (.i .i64 a3)), (.v (.i .u64 a4)), (.v (.i .u64 a5)), (.v (.sl 9 a6)), (.v (.b a7)), (.v (.i .i64 a8)), .cap0]), (.cells 35 none [(.v (.s a9)), (.v (.i .i64 a10)), (.v (.i .i64 a11)), (.v (.i .u64 a12)), (.v (.i .u64 a13)), (.v (.sl 9 a14)), (.v (.b a15)), (.v (.i .i64 a16)), (.v (.sl 35 a17))])]
  dsE := fun (a0, a1, a2, a3, a4, a5, a6, a7, a8, a9, a10, a11, a12, a13, a14, a15, a16, a17) => []
  goE := fun _ (a0, a1, a2, a3, a4, a5, a6, a7, a8, a9, a10, a11, a12, a13, a14, a15, a16, a17) k => k .normal [(2, (.ptr 0 0)), (3, (.ptr 1 0)), (72, (.v (.b a0)))] [(.cells 35 none [(.v (.s a1)), (.v (.i .i64 a2)), (.v (.i .i64 a3)), (.v (.i .u64 a4)), (.v (.i .u64 a5)), (.v (.sl 9 a6)), (.v (.b a7)), (.v (.i .i64 a8)), .cap0]), (.cells 35 none [(.v (.s a9)), (.v (.i .i64 a10)), (.v (.i .i64 a11)), (.v (.i .u64 a12)), (.v (.i .u64 a13)), (.v (.sl 9 a14)), (.v (.b a15)), (.v (.i .i64 a16)), (.v (.sl 35 a17))])] []
theorem p_tollbarref07_Same_2_0_ok : PieceOk p_tollbarref07_Same_2_0 := by
  refine ⟨fun env H ds s h => ?_, fun x env H ds e h => ?_, fun R e k => by kernel_rfl⟩
  · simp only [p_tollbarref07_Same_2_0] at h ⊢; split at h <;> first | (cases h; simp only [List.forall_mem_cons]; simp_all; done) | (cases h; done)
  · simp only [p_tollbarref07_Same_2_0] at h ⊢; split at h <;> first | (cases h; simp only [List.forall_mem_cons]; simp_all; done) | (cases h; done)
theorem p_tollbarref07_Same_2_0_ct (κ : Nat) (m : Int) : CutOk Tryd.prog C (G m) Tryd.f10.ntmps 0 (pieceOf (.reg 1) (getBody Tryd.f10)) (p_tollbarref07_Same_2_0.cut (gcN 0 [2, 3]) (fun (a0, a1, a2, a3, a4, a5, a6, a7, a8, a9, a10, a11, a12, a13, a14, a15, a16) => tollbarref07_Same_2.v0 κ a0 a1 a2 a3 a4 a5 a6 a7 a8 a9 a10 a11 a12 a13 a14 a15 a16)) :=
  Piece.join p_tollbarref07_Same_2_0_ok C_ok mixed (gam28_ok κ m) gcN_ok (xN_ok gcN_ok (ex_nil) gcN_ok gcN_ok) (cut := noCut) (X := (xN (gcN 0 [2, 3, 72]) [] (gcN 0 [4]) (gcN 0 [1000000]))) (cuts_by (l := []) (by kernel_rfl) (all_nil)) (fun s => by kernel_rfl)
def cc_tollbarref07_Same_2_1 (κ : Nat) : Cut T := p_tollbarref07_Same_2_0.cut (gcN 0 [2, 3]) (fun (a0, a1, a2, a3, a4, a5, a6, a7, a8, a9, a10, a11, a12, a13, a14, a15, a16) => tollbarref07_Same_2.v0 κ a0 a1 a2 a3 a4 a5 a6 a7 a8 a9 a10 a11 a12 a13 a14 a15 a16)
theorem cc_tollbarref07_Same_2_1_ok (κ : Nat) (m : Int) : CutOk Tryd.prog C (G m) Tryd.f10.ntmps 0 (pieceOf (.reg 1) (getBody Tryd.f10)) (cc_tollbarref07_Same_2_1 κ) := p_tollbarref07_Same_2_0_ct κ m
def ct_tollbarref07_Same_2_1 (κ : Nat) : Key → Option (Cut T) := addCut noCut (.reg 1) (cc_tollbarref07_Same_2_1 κ)
def p_tollbarref07_Same_2_2 : Piece T (Int × ByteArray × Int × Int × Int × Int × (List ByteArray) × Bool × Int × ByteArray × Int × Int × Int × Int × (List ByteArray) × Bool × Int × (List Tollbarref07S)) ((ByteArray × Int × Int × Int × Int × (List ByteArray) × Bool × Int × ByteArray × Int × Int × Int × Int × (List ByteArray) × Bool × Int × (List Tollbarref07S)) ⊕ (Bool)) where
  dcS env H ds := match env 2, env 3, env 5, H, ds with
    | (.ptr 0 0), (.ptr 1 0), (.v (.i .i64 a0)), [(.cells 35 none [(.v (.s a1)), (.v (.i .i64 a2)), (.v (.i .i64 a3)), (.v (.i .u64 a4)), (.v (.i .u64 a5)), (.v (.sl 9 a6)), (.v (.b a7)), (.v (.i .i64 a8)), .cap0]), (.cells 35 none [(.v (.s a9)), (.v (.i .i64 a10)), (.v (.i .i64 a11)), (.v (.i .u64 a12)), (.v (.i .u64 a13)), (.v (.sl 9 a14)), (.v (.b a15)), (.v (.i .i64 a16)), (.v (.sl 35 a17))])], [] => some (a0, a1, a2, a3, a4, a5, a6, a7, a8, a9, a10, a11, a12, a13, a14, a15, a16, a17)
    | _, _, _, _, _ => none
  slS := fun (a0, a1, a2, a3, a4, a5, a6, a7, a8, a9, a10, a11, a12, a13, a14, a15, a16, a17) => [(2, (.ptr 0 0)), (3, (.ptr 1 0)), (5, (.v (.i .i64 a0)))]
  obS := fun (a0, a1, a2, a3, a4, a5, a6, a7, a8, a9, a10, a11, a12, a13, a14, a15, a16, a17) => [(.cells 35 none [(.v (.s a1)), (.v (.i .i64 a2)), (.v (.i .i64 a3)), (.v (.i .u64 a4)), (.v (.i .u64 a5)), (.v (.sl 9 a6)), (.v (.b a7)), (.v (.i .i64 a8)), .cap0]), (.cells 35 none [(.v (.s a9)), (.v (.i .i64 a10)), (.v (.i .i64 a11)), (.v (.i .u64 a12)), (.v (.i .u64 a13)), (.v (.sl 9 a14)), (.v (.b a15)), (.v (.i .i64 a16)), (.v (.sl 35 a17))])]
  dsS := fun (a0, a1, a2, a3, a4, a5, a6, a7, a8, a9, a10, a11, a12, a13, a14, a15, a16, a17) => []
  dcE x env H ds := match x, env 2, env 3, env 4, H, ds with
    | .normal, (.ptr 0 0), (.ptr 1 0), _, [(.cells 35 none [(.v (.s a0)), (.v (.i .i64 a1)), (.v (.i .i64 a2)), (.v (.i .u64 a3)), (.v (.i .u64 a4)), (.v (.sl 9 a5)), (.v (.b a6)), (.v (.i .i64 a7)), .cap0]), (.cells 35 none [(.v (.s a8)), (.v (.i .i64 a9)), (.v (.i .i64 a10)), (.v (.i .u64 a11)), (.v (.i .u64 a12)), (.v (.sl 9 a13)), (.v (.b a14)), (.v (.i .i64 a15)), (.v (.sl 35 a16))])], [] => some (.inl (a0, a1, a2, a3, a4, a5, a6, a7, a8, a9, a10, a11, a12, a13, a14, a15, a16))
    | .ret, _, _, (.v (.b a0)), [], [] => some (.inr a0)
    | _, _, _, _, _, _ => none
  exE := fun x => match x with
    | (.inl (a0, a1, a2, a3, a4, a5, a6, a7, a8, a9, a10, a11, a12, a13, a14, a15, a16)) => .normal
    | (.inr a0) => .ret
  slE := fun x => match x with
    | (.inl (a0, a1, a2, a3, a4, a5, a6, a7, a8, a9, a10, a11, a12, a13, a14, a15, a16)) => [(2, (.ptr 0 0)), (3, (.ptr 1 0))]
    | (.inr a0) => [(4, (.v (.b a0)))]
  obE := fun x => match x with
    | (.inl (a0, a1, a2, a3, a4, a5, a6, a7, a8, a9, a10, a11, a12, a13, a14, a15, a16)) => [(.cells 35 none [(.v (.s a0)), (.v (.i .i64 a1)), (.v (.i .i64 a2)), (.v (.i .u64 a3)), (.v (.i .u64 a4)), (.v (.sl 9 a5)), (.v (.b a6)), (.v (.i .i64 a7)), .cap0]), (.cells 35 none [(.v (.s a8)), (.v (.i .i64 a9)), (.v (.i .i64 a10)), (.v (.i .u64 a11)), (.v (.i .u64 a12)), (.v (.sl 9 a13)), (.v (.b a14)), (.v (.i .i64 a15)), (.v (.sl 35 a16))])]
    | (.inr a0) => []
  dsE := fun x => match x with
    | (.inl (a0, a1, a2, a3, a4, a5, a6, a7, a8, a9, a10, a11, a12, a13, a14, a15, a16)) => []
    | (.inr a0) => []
  goE := fun _ x k => match x with
    | (.inl (a0, a1, a2, a3, a4, a5, a6, a7, a8, a9, a10, a11, a12, a13, a14, a15, a16)) => k .normal [(2, (.ptr 0 0)), (3, (.ptr 1 0))] [(.cells 35 none [(.v (.s a0)), (.v (.i .i64 a1)), (.v (.i .i64 a2)), (.v (.i .u64 a3)), (.v (.i .u64 a4)), (.v (.sl 9 a5)), (.v (.b a6)), (.v (.i .i64 a7)), .cap0]), (.cells 35 none [(.v (.s a8)), (.v (.i .i64 a9)), (.v (.i .i64 a10)), (.v (.i .u64 a11)), (.v (.i .u64 a12)), (.v (.sl 9 a13)), (.v (.b a14)), (.v (.i .i64 a15)), (.v (.sl 35 a16))])] []
    | (.inr a0) => k .ret [(4, (.v (.b a0)))] [] []
theorem p_tollbarref07_Same_2_2_ok : PieceOk p_tollbarref07_Same_2_2 := by
  refine ⟨fun env H ds s h => ?_, fun x env H ds e h => ?_, fun R e k => by rcases e with e | e <;> kernel_rfl⟩
  · simp only [p_tollbarref07_Same_2_2] at h ⊢; split at h <;> first | (cases h; simp only [List.forall_mem_cons]; simp_all; done) | (cases h; done)
  · simp only [p_tollbarref07_Same_2_2] at h ⊢; split at h <;> first | (cases h; simp only [List.forall_mem_cons]; simp_all; done) | (cases h; done)
theorem p_tollbarref07_Same_2_2_ct (κ : Nat) (m : Int) : CutOk Tryd.prog C (G m) Tryd.f10.ntmps 0 (pieceOf (.blk 0) (getBody Tryd.f10)) (p_tollbarref07_Same_2_2.cut (gcN 0 [2, 3, 5]) (tollbarref07_Same_2.l2 κ κ)) :=
  Piece.loop p_tollbarref07_Same_2_2_ok C_ok mixed (gam28_ok κ m) gcN_ok (xN_ok gcN_ok (ex_nil) gcN_ok gcN_ok) (cut := (ct_tollbarref07_Same_2_1 κ)) (X := (xN (gcN 0 [2, 3]) [] (gcN 0 [4]) (gcN 0 [1000000]))) (id := 0) (body := bodyOf (pieceOf (.blk 0) (getBody Tryd.f10))) (cuts_by (l := []) (by kernel_rfl) (all_nil)) (f := tollbarref07_Same_2.l2 κ) (fun s => by kernel_rfl) (fun k s => by kernel_rfl) κ
def cc_tollbarref07_Same_2_3 (κ : Nat) : Cut T := p_tollbarref07_Same_2_2.cut (gcN 0 [2, 3, 5]) (tollbarref07_Same_2.l2 κ κ)
theorem cc_tollbarref07_Same_2_3_ok (κ : Nat) (m : Int) : CutOk Tryd.prog C (G m) Tryd.f10.ntmps 0 (pieceOf (.blk 0) (getBody Tryd.f10)) (cc_tollbarref07_Same_2_3 κ) := p_tollbarref07_Same_2_2_ct κ m
def ct_tollbarref07_Same_2_3 (κ : Nat) : Key → Option (Cut T) := addCut (ct_tollbarref07_Same_2_1 κ) (.blk 0) (cc_tollbarref07_Same_2_3 κ)
def p_tollbarref07_Same_2_4 : Piece T (Int × ByteArray × Int × Int × Int × Int × (List ByteArray) × Bool × Int × ByteArray × Int × Int × Int × Int × (List ByteArray) × Bool × Int × (List Tollbarref07S)) (Unit) where
  dcS env H ds := match env 2, env 3, env 6, H, ds with
    | (.ptr 0 0), (.ptr 1 0), (.v (.i .i64 a0)), [(.cells 35 none [(.v (.s a1)), (.v (.i .i64 a2)), (.v (.i .i64 a3)), (.v (.i .u64 a4)), (.v (.i .u64 a5)), (.v (.sl 9 a6)), (.v (.b a7)), (.v (.i .i64 a8)), .cap0]), (.cells 35 none [(.v (.s a9)), (.v (.i .i64 a10)), (.v (.i .i64 a11)), (.v (.i .u64 a12)), (.v (.i .u64 a13)), (.v (.sl 9 a14)), (.v (.b a15)), (.v (.i .i64 a16)), (.v (.sl 35 a17))])], [] => some (a0, a1, a2, a3, a4, a5, a6, a7, a8, a9, a10, a11, a12, a13, a14, a15, a16, a17)
    | _, _, _, _, _ => none
  slS := fun (a0, a1, a2, a3, a4, a5, a6, a7, a8, a9, a10, a11, a12, a13, a14, a15, a16, a17) => [(2, (.ptr 0 0)), (3, (.ptr 1 0)), (6, (.v (.i .i64 a0)))]
  obS := fun (a0, a1, a2, a3, a4, a5, a6, a7, a8, a9, a10, a11, a12, a13, a14, a15, a16, a17) => [(.cells 35 none [(.v (.s a1)), (.v (.i .i64 a2)), (.v (.i .i64 a3)), (.v (.i .u64 a4)), (.v (.i .u64 a5)), (.v (.sl 9 a6)), (.v (.b a7)), (.v (.i .i64 a8)), .cap0]), (.cells 35 none [(.v (.s a9)), (.v (.i .i64 a10)), (.v (.i .i64 a11)), (.v (.i .u64 a12)), (.v (.i .u64 a13)), (.v (.sl 9 a14)), (.v (.b a15)), (.v (.i .i64 a16)), (.v (.sl 35 a17))])]
  dsS := fun (a0, a1, a2, a3, a4, a5, a6, a7, a8, a9, a10, a11, a12, a13, a14, a15, a16, a17) => []
  dcE x env H ds := match x, H, ds with
    | .normal, [], [] => some ()
    | _, _, _ => none
  exE := fun _ => .normal
  slE := fun _ => []
  obE := fun _ => []
  dsE := fun _ => []
  goE := fun _ _ k => k .normal [] [] []
theorem p_tollbarref07_Same_2_4_ok : PieceOk p_tollbarref07_Same_2_4 := by
  refine ⟨fun env H ds s h => ?_, fun x env H ds e h => ?_, fun R e k => by kernel_rfl⟩
  · simp only [p_tollbarref07_Same_2_4] at h ⊢; split at h <;> first | (cases h; simp only [List.forall_mem_cons]; simp_all; done) | (cases h; done)
  · simp only [p_tollbarref07_Same_2_4] at h ⊢; split at h <;> first | (cases h; simp only [List.forall_mem_cons]; simp_all; done) | (cases h; done)
theorem p_tollbarref07_Same_2_4_ct (κ : Nat) (m : Int) : CutOk Tryd.prog C (G m) Tryd.f10.ntmps 0 (pieceOf (.blk 2) (getBody Tryd.f10)) (p_tollbarref07_Same_2_4.cut (gcN 0 [2, 3, 6]) (tollbarref07_Same_2.l4 κ κ)) :=
  Piece.loop p_tollbarref07_Same_2_4_ok C_ok mixed (gam28_ok κ m) gcN_ok (xN_ok gcN_ok (ex_nil) gcN_ok gcN_ok) (cut := (ct_tollbarref07_Same_2_3 κ)) (X := (xN (gcN 0 []) [] (gcN 0 [4]) (gcN 0 [1000000]))) (id := 2) (body := bodyOf (pieceOf (.blk 2) (getBody Tryd.f10))) (cuts_by (l := []) (by kernel_rfl) (all_nil)) (f := tollbarref07_Same_2.l4 κ) (fun s => by kernel_rfl) (fun k s => by kernel_rfl) κ
def cc_tollbarref07_Same_2_5 (κ : Nat) : Cut T := p_tollbarref07_Same_2_4.cut (gcN 0 [2, 3, 6]) (tollbarref07_Same_2.l4 κ κ)
theorem cc_tollbarref07_Same_2_5_ok (κ : Nat) (m : Int) : CutOk Tryd.prog C (G m) Tryd.f10.ntmps 0 (pieceOf (.blk 2) (getBody Tryd.f10)) (cc_tollbarref07_Same_2_5 κ) := p_tollbarref07_Same_2_4_ct κ m
def ct_tollbarref07_Same_2_5 (κ : Nat) : Key → Option (Cut T) := addCut (ct_tollbarref07_Same_2_3 κ) (.blk 2) (cc_tollbarref07_Same_2_5 κ)
def sp_tollbarref07_Same_2 : Spec T (ByteArray × Int × Int × Int × Int × (List ByteArray) × Bool × Int × ByteArray × Int × Int × Int × Int × (List ByteArray) × Bool × Int × (List Tollbarref07S)) (Bool) where
  dcI a H := match a, H with
    | [(.agg [(.v (.s a0)), (.v (.i .i64 a1)), (.v (.i .i64 a2)), (.v (.i .u64 a3)), (.v (.i .u64 a4)), (.v (.sl 9 a5)), (.v (.b a6)), (.v (.i .i64 a7)), .cap0]), (.agg [(.v (.s a8)), (.v (.i .i64 a9)), (.v (.i .i64 a10)), (.v (.i .u64 a11)), (.v (.i .u64 a12)), (.v (.sl 9 a13)), (.v (.b a14)), (.v (.i .i64 a15)), (.v (.sl 35 a16))])], [] => some (a0, a1, a2, a3, a4, a5, a6, a7, a8, a9, a10, a11, a12, a13, a14, a15, a16)
    | _, _ => none
  ecA := fun (a0, a1, a2, a3, a4, a5, a6, a7, a8, a9, a10, a11, a12, a13, a14, a15, a16) => [(.agg [(.v (.s a0)), (.v (.i .i64 a1)), (.v (.i .i64 a2)), (.v (.i .u64 a3)), (.v (.i .u64 a4)), (.v (.sl 9 a5)), (.v (.b a6)), (.v (.i .i64 a7)), .cap0]), (.agg [(.v (.s a8)), (.v (.i .i64 a9)), (.v (.i .i64 a10)), (.v (.i .u64 a11)), (.v (.i .u64 a12)), (.v (.sl 9 a13)), (.v (.b a14)), (.v (.i .i64 a15)), (.v (.sl 35 a16))])]
  ecH := fun (a0, a1, a2, a3, a4, a5, a6, a7, a8, a9, a10, a11, a12, a13, a14, a15, a16) => []
  dcO o := match o with
    | .ret (.v (.b a0)) [] => some a0
    | _ => none
  goO := fun _ a0 k => k (.ret (.v (.b a0)) [])
  ecO := fun a0 => .ret (.v (.b a0)) []
theorem sp_tollbarref07_Same_2_ok : SpecOk sp_tollbarref07_Same_2 := by
  refine ⟨fun a H i h => ?_, fun o x h => ?_, fun R e k => by kernel_rfl⟩
  · simp only [sp_tollbarref07_Same_2] at h ⊢; split at h <;> first | (cases h; exact ⟨rfl, rfl⟩) | (cases h; done)
  · simp only [sp_tollbarref07_Same_2] at h ⊢; split at h <;> first | (cases h; rfl) | (cases h; done)
theorem ok_tollbarref07_Same_2 (κ : Nat) (m : Int) : EOk Tryd.prog C (G m) 10 (sp_tollbarref07_Same_2.entry (fun (a0, a1, a2, a3, a4, a5, a6, a7, a8, a9, a10, a11, a12, a13, a14, a15, a16) => tollbarref07_Same_2 κ a0 a1 a2 a3 a4 a5 a6 a7 a8 a9 a10 a11 a12 a13 a14 a15 a16)) :=
  Spec.ok sp_tollbarref07_Same_2_ok C_ok mixed (gam28_ok κ m) (cut := (ct_tollbarref07_Same_2_5 κ)) (NR := (gcN 0 [0])) (NP := (gcN 0 [0])) (nB := 0) Tryd.func10 (c := (getBody Tryd.f10)) (by kernel_rfl) (by kernel_rfl) (fun i => by kernel_rfl) gcN_ok gcN_ok (cuts_by (l := [(pieceOf (.reg 1) (getBody Tryd.f10), cc_tollbarref07_Same_2_1 κ), (pieceOf (.blk 0) (getBody Tryd.f10), cc_tollbarref07_Same_2_3 κ), (pieceOf (.blk 2) (getBody Tryd.f10), cc_tollbarref07_Same_2_5 κ)]) (by kernel_rfl) (all_cons (cc_tollbarref07_Same_2_1_ok κ m) (all_cons (cc_tollbarref07_Same_2_3_ok κ m) (all_cons (cc_tollbarref07_Same_2_5_ok κ m) (all_nil))))) (fun i => by kernel_rfl)
noncomputable def gam29 (κ : Nat) : Gam T := (gam28 κ).addS 10 sp_tollbarref07_Same_2 (fun (a0, a1, a2, a3, a4, a5, a6, a7, a8, a9, a10, a11, a12, a13, a14, a15, a16) => tollbarref07_Same_2 κ a0 a1 a2 a3 a4 a5 a6 a7 a8 a9 a10 a11 a12 a13 a14 a15 a16)
theorem gam29_ok (κ : Nat) (m : Int) : GOk Tryd.prog C (G m) (gam29 κ) := (gam28_ok κ m).addS (ok_tollbarref07_Same_2 κ m)
def p_tollbarref07_Same_3_0 : Piece T (ByteArray × Int × Int × Int × Int × (List ByteArray) × Bool × Int × (List Tollbarref07S) × ByteArray × Int × Int × Int × Int × (List ByteArray) × Bool × Int) (Bool × ByteArray × Int × Int × Int × Int × (List ByteArray) × Bool × Int × (List Tollbarref07S) × ByteArray × Int × Int × Int × Int × (List ByteArray) × Bool × Int) where
  dcS env H ds := match env 2, env 3, H, ds with
    | (.ptr 0 0), (.ptr 1 0), [(.cells 35 none [(.v (.s a0)), (.v (.i .i64 a1)), (.v (.i .i64 a2)), (.v (.i .u64 a3)), (.v (.i .u64 a4)), (.v (.sl 9 a5)), (.v (.b a6)), (.v (.i .i64 a7)), (.v (.sl 35 a8))]), (.cells 35 none [(.v (.s a9)), (.v (.i .i64 a10)), (.v (.i .i64 a11)), (.v (.i .u64 a12)), (.v (.i .u64 a13)), (.v (.sl 9 a14)), (.v (.b a15)), (.v (.i .i64 a16)), .cap0])], [] => some (a0, a1, a2, a3, a4, a5, a6, a7, a8, a9, a10, a11, a12, a13, a14, a15, a16)
    | _, _, _, _ => none
  slS := fun (a0, a1, a2, a3, a4, a5, a6, a7, a8, a9, a10, a11, a12, a13, a14, a15, a16) => [(2, (.ptr 0 0)), (3, (.ptr 1 0))]
  obS := fun (a0, a1, a2, a3, a4, a5, a6, a7, a8, a9, a10, a11, a12, a13, a14, a15, a16) => [(.cells 35 none [(.v (.s a0)), (.v (.i .i64 a1)), (.v (.i .i64 a2)), (.v (.i .u64 a3)), (.v (.i .u64 a4)), (.v (.sl 9 a5)), (.v (.b a6)), (.v (.i .i64 a7)), (.v (.sl 35 a8))]), (.cells 35 none [(.v (.s a9)), (.v (.i .i64 a10)), (.v (.i .i64 a11)), (.v (.i .u64 a12)), (.v (.i .u64 a13)), (.v (.sl 9 a14)), (.v (.b a15)), (.v (.i .i64 a16)), .cap0])]
  dsS := fun (a0, a1, a2, a3, a4, a5, a6, a7, a8, a9, a10, a11, a12, a13, a14, a15, a16) => []
  dcE x env H ds := match x, env 2, env 3, env 72, H, ds with
    | .normal, (.ptr 0 0), (.ptr 1 0), (.v (.b a0)), [(.cells 35 none [(.v (.s a1)), (.v (.i .i64 a2)), (.v (.i .i64 a3)), (.v (.i .u64 a4)), (.v (.i .u64 a5)), (.v (.sl 9 a6)), (.v (.b a7)), (.v (.i .i64 a8)), (.v (.sl 35 a9))]), (.cells 35 none [(.v (.s a10)), (.v (.i .i64 a11)), (.v (.i .i64 a12)), (.v (.i .u64 a13)), (.v (.i .u64 a14)), (.v (.sl 9 a15)), (.v (.b a16)), (.v (.i .i64 a17)), .cap0])], [] => some (a0, a1, a2, a3, a4, a5, a6, a7, a8, a9, a10, a11, a12, a13, a14, a15, a16, a17)
    | _, _, _, _, _, _ => none
  exE := fun (a0, a1, a2, a3, a4, a5, a6, a7, a8, a9, a10, a11, a12, a13, a14, a15, a16, a17) => .normal
  slE := fun (a0, a1, a2, a3, a4, a5, a6, a7, a8, a9, a10, a11, a12, a13, a14, a15, a16, a17) => [(2, (.ptr 0 0)), (3, (.ptr 1 0)), (72, (.v (.b a0)))]
  obE := fun (a0, a1, a2, a3, a4, a5, a6, a7, a8, a9, a10, a11, a12, a13, a14, a15, a16, a17) => [(.cells 35 none [(.v (.s a1)), (.v (.i .i64 a2)), (.v (.i .i64 a3)), (.v (.i .u64 a4)), (.v (.i .u64 a5)), (.v (.sl 9 a6)), (.v (.b a7)), (.v (.i .i64 a8)), (.v (.sl 35 a9))]), (.cells 35 none [(.v (.s a10)), (.v (.i .i64 a11)), (.v (.i .i64 a12)), (.v (.i .u64 a13)), (.v (.i .u64 a14)), (.v (.sl 9 a15)), (.v (.b a16)), (.v (.i .i64 a17)), .cap0])]
  dsE := fun (a0, a1, a2, a3, a4, a5, a6, a7, a8, a9, a10, a11, a12, a13, a14, a15, a16, a17) => []
  goE := fun _ (a0, a1, a2, a3, a4, a5, a6, a7, a8, a9, a10, a11, a12, a13, a14, a15, a16, a17) k => k .normal [(2, (.ptr 0 0)), (3, (.ptr 1 0)), (72, (.v (.b a0)))] [(.cells 35 none [(.v (.s a1)), (.v (.i .i64 a2)), (.v (.i .i64 a3)), (.v (.i .u64 a4)), (.v (.i .u64 a5)), (.v (.sl 9 a6)), (.v (.b a7)), (.v (.i .i64 a8)), (.v (.sl 35 a9))]), (.cells 35 none [(.v (.s a10)), (.v (.i .i64 a11)), (.v (.i .i64 a12)), (.v (.i .u64 a13)), (.v (.i .u64 a14)), (.v (.sl 9 a15)), (.v (.b a16)), (.v (.i .i64 a17)), .cap0])] []
theorem p_tollbarref07_Same_3_0_ok : PieceOk p_tollbarref07_Same_3_0 := by
  refine ⟨fun env H ds s h => ?_, fun x env H ds e h => ?_, fun R e k => by kernel_rfl⟩
  · simp only [p_tollbarref07_Same_3_0] at h ⊢; split at h <;> first | (cases h; simp only [List.forall_mem_cons]; simp_all; done) | (cases h; done)
  · simp only [p_tollbarref07_Same_3_0] at h ⊢; split at h <;> first | (cases h; simp only [List.forall_mem_cons]; simp_all; done) | (cases h; done)
theorem p_tollbarref07_Same_3_0_ct (κ : Nat) (m : Int) : CutOk Tryd.prog C (G m) Tryd.f10.ntmps 0 (pieceOf (.reg 1) (getBody Tryd.f10)) (p_tollbarref07_Same_3_0.cut (gcN 0 [2, 3]) (fun (a0, a1, a2, a3, a4, a5, a6, a7, a8, a9, a10, a11, a12, a13, a14, a15, a16) => tollbarref07_Same_3.v0 κ a0 a1 a2 a3 a4 a5 a6 a7 a8 a9 a10 a11 a12 a13 a14 a15 a16)) :=
  Piece.join p_tollbarref07_Same_3_0_ok C_ok mixed (gam29_ok κ m) gcN_ok (xN_ok gcN_ok (ex_nil) gcN_ok gcN_ok) (cut := noCut) (X := (xN (gcN 0 [2, 3, 72]) [] (gcN 0 [4]) (gcN 0 [1000000]))) (cuts_by (l := []) (by kernel_rfl) (all_nil)) (fun s => by kernel_rfl)
def cc_tollbarref07_Same_3_1 (κ : Nat) : Cut T := p_tollbarref07_Same_3_0.cut (gcN 0 [2, 3]) (fun (a0, a1, a2, a3, a4, a5, a6, a7, a8, a9, a10, a11, a12, a13, a14, a15, a16) => tollbarref07_Same_3.v0 κ a0 a1 a2 a3 a4 a5 a6 a7 a8 a9 a10 a11 a12 a13 a14 a15 a16)
theorem cc_tollbarref07_Same_3_1_ok (κ : Nat) (m : Int) : CutOk Tryd.prog C (G m) Tryd.f10.ntmps 0 (pieceOf (.reg 1) (getBody Tryd.f10)) (cc_tollbarref07_Same_3_1 κ) := p_tollbarref07_Same_3_0_ct κ m
def ct_tollbarref07_Same_3_1 (κ : Nat) : Key → Option (Cut T) := addCut noCut (.reg 1) (cc_tollbarref07_Same_3_1 κ)
def p_tollbarref07_Same_3_2 : Piece T (Int × ByteArray × Int × Int × Int × Int × (List ByteArray) × Bool × Int × (List Tollbarref07S) × ByteArray × Int × Int × Int × Int × (List ByteArray) × Bool × Int) ((ByteArray × Int × Int × Int × Int × (List ByteArray) × Bool × Int × (List Tollbarref07S) × ByteArray × Int × Int × Int × Int × (List ByteArray) × Bool × Int) ⊕ (Bool)) where
  dcS env H ds := match env 2, env 3, env 5, H, ds with
    | (.ptr 0 0), (.ptr 1 0), (.v (.i .i64 a0)), [(.cells 35 none [(.v (.s a1)), (.v (.i .i64 a2)), (.v (.i .i64 a3)), (.v (.i .u64 a4)), (.v (.i .u64 a5)), (.v (.sl 9 a6)), (.v (.b a7)), (.v (.i .i64 a8)), (.v (.sl 35 a9))]), (.cells 35 none [(.v (.s a10)), (.v (.i .i64 a11)), (.v (.i .i64 a12)), (.v (.i .u64 a13)), (.v (.i .u64 a14)), (.v (.sl 9 a15)), (.v (.b a16)), (.v (.i .i64 a17)), .cap0])], [] => some (a0, a1, a2, a3, a4, a5, a6, a7, a8, a9, a10, a11, a12, a13, a14, a15, a16, a17)
    | _, _, _, _, _ => none
  slS := fun (a0, a1, a2, a3, a4, a5, a6, a7, a8, a9, a10, a11, a12, a13, a14, a15, a16, a17) => [(2, (.ptr 0 0)), (3, (.ptr 1 0)), (5, (.v (.i .i64 a0)))]
  obS := fun (a0, a1, a2, a3, a4, a5, a6, a7, a8, a9, a10, a11, a12, a13, a14, a15, a16, a17) => [(.cells 35 none [(.v (.s a1)), (.v (.i .i64 a2)), (.v (.i .i64 a3)), (.v (.i .u64 a4)), (.v (.i .u64 a5)), (.v (.sl 9 a6)), (.v (.b a7)), (.v (.i .i64 a8)), (.v (.sl 35 a9))]), (.cells 35 none [(.v (.s a10)), (.v (.i .i64 a11)), (.v (.i .i64 a12)), (.v (.i .u64 a13)), (.v (.i .u64 a14)), (.v (.sl 9 a15)), (.v (.b a16)), (.v (.i .i64 a17)), .cap0])]
  dsS := fun (a0, a1, a2, a3, a4, a5, a6, a7, a8, a9, a10, a11, a12, a13, a14, a15, a16, a17) => []
  dcE x env H ds := match x, env 2, env 3, env 4, H, ds with
    | .normal, (.ptr 0 0), (.ptr 1 0), _, [(.cells 35 none [(.v (.s a0)), (.v (.i .i64 a1)), (.v (.i .i64 a2)), (.v (.i .u64 a3)), (.v (.i .u64 a4)), (.v (.sl 9 a5)), (.v (.b a6)), (.v (.i .i64 a7)), (.v (.sl 35 a8))]), (.cells 35 none [(.v (.s a9)), (.v (.i .i64 a10)), (.v (.i .i64 a11)), (.v (.i .u64 a12)), (.v (.i .u64 a13)), (.v (.sl 9 a14)), (.v (.b a15)), (.v (.i .i64 a16)), .cap0])], [] => some (.inl (a0, a1, a2, a3, a4, a5, a6, a7, a8, a9, a10, a11, a12, a13, a14, a15, a16))
    | .ret, _, _, (.v (.b a0)), [], [] => some (.inr a0)
    | _, _, _, _, _, _ => none
  exE := fun x => match x with
    | (.inl (a0, a1, a2, a3, a4, a5, a6, a7, a8, a9, a10, a11, a12, a13, a14, a15, a16)) => .normal
    | (.inr a0) => .ret
  slE := fun x => match x with
    | (.inl (a0, a1, a2, a3, a4, a5, a6, a7, a8, a9, a10, a11, a12, a13, a14, a15, a16)) => [(2, (.ptr 0 0)), (3, (.ptr 1 0))]
    | (.inr a0) => [(4, (.v (.b a0)))]
  obE := fun x => match x with
    | (.inl (a0, a1, a2, a3, a4, a5, a6, a7, a8, a9, a10, a11, a12, a13, a14, a15, a16)) => [(.cells 35 none [(.v (.s a0)), (.v (.i .i64 a1)), (.v (.i .i64 a2)), (.v (.i .u64 a3)), (.v (.i .u64 a4)), (.v (.sl 9 a5)), (.v (.b a6)), (.v (.i .i64 a7)), (.v (.sl 35 a8))]), (.cells 35 none [(.v (.s a9)), (.v (.i .i64 a10)), (.v (.i .i64 a11)), (.v (.i .u64 a12)), (.v (.i .u64 a13)), (.v (.sl 9 a14)), (.v (.b a15)), (.v (.i .i64 a16)), .cap0])]
    | (.inr a0) => []
  dsE := fun x => match x with
    | (.inl (a0, a1, a2, a3, a4, a5, a6, a7, a8, a9, a10, a11, a12, a13, a14, a15, a16)) => []
    | (.inr a0) => []
  goE := fun _ x k => match x with
    | (.inl (a0, a1, a2, a3, a4, a5, a6, a7, a8, a9, a10, a11, a12, a13, a14, a15, a16)) => k .normal [(2, (.ptr 0 0)), (3, (.ptr 1 0))] [(.cells 35 none [(.v (.s a0)), (.v (.i .i64 a1)), (.v (.i .i64 a2)), (.v (.i .u64 a3)), (.v (.i .u64 a4)), (.v (.sl 9 a5)), (.v (.b a6)), (.v (.i .i64 a7)), (.v (.sl 35 a8))]), (.cells 35 none [(.v (.s a9)), (.v (.i .i64 a10)), (.v (.i .i64 a11)), (.v (.i .u64 a12)), (.v (.i .u64 a13)), (.v (.sl 9 a14)), (.v (.b a15)), (.v (.i .i64 a16)), .cap0])] []
    | (.inr a0) => k .ret [(4, (.v (.b a0)))] [] []
theorem p_tollbarref07_Same_3_2_ok : PieceOk p_tollbarref07_Same_3_2 := by
  refine ⟨fun env H ds s h => ?_, fun x env H ds e h => ?_, fun R e k => by rcases e with e | e <;> kernel_rfl⟩
  · simp only [p_tollbarref07_Same_3_2] at h ⊢; split at h <;> first | (cases h; simp only [List.forall_mem_cons]; simp_all; done) | (cases h; done)
  · simp only [p_tollbarref07_Same_3_2] at h ⊢; split at h <;> first | (cases h; simp only [List.forall_mem_cons]; simp_all; done) | (cases h; done)
theorem p_tollbarref07_Same_3_2_ct (κ : Nat) (m : Int) : CutOk Tryd.prog C (G m) Tryd.f10.ntmps 0 (pieceOf (.blk 0) (getBody Tryd.f10)) (p_tollbarref07_Same_3_2.cut (gcN 0 [2, 3, 5]) (tollbarref07_Same_3.l2 κ κ)) :=
  Piece.loop p_tollbarref07_Same_3_2_ok C_ok mixed (gam29_ok κ m) gcN_ok (xN_ok gcN_ok (ex_nil) gcN_ok gcN_ok) (cut := (ct_tollbarref07_Same_3_1 κ)) (X := (xN (gcN 0 [2, 3]) [] (gcN 0 [4]) (gcN 0 [1000000]))) (id := 0) (body := bodyOf (pieceOf (.blk 0) (getBody Tryd.f10))) (cuts_by (l := []) (by kernel_rfl) (all_nil)) (f := tollbarref07_Same_3.l2 κ) (fun s => by kernel_rfl) (fun k s => by kernel_rfl) κ
def cc_tollbarref07_Same_3_3 (κ : Nat) : Cut T := p_tollbarref07_Same_3_2.cut (gcN 0 [2, 3, 5]) (tollbarref07_Same_3.l2 κ κ)
theorem cc_tollbarref07_Same_3_3_ok (κ : Nat) (m : Int) : CutOk Tryd.prog C (G m) Tryd.f10.ntmps 0 (pieceOf (.blk 0) (getBody Tryd.f10)) (cc_tollbarref07_Same_3_3 κ) := p_tollbarref07_Same_3_2_ct κ m
def ct_tollbarref07_Same_3_3 (κ : Nat) : Key → Option (Cut T) := addCut (ct_tollbarref07_Same_3_1 κ) (.blk 0) (cc_tollbarref07_Same_3_3 κ)
def p_tollbarref07_Same_3_4 : Piece T (Int × ByteArray × Int × Int × Int × Int × (List ByteArray) × Bool × Int × (List Tollbarref07S) × ByteArray × Int × Int × Int × Int × (List ByteArray) × Bool × Int) (Unit) where
  dcS env H ds := match env 2, env 3, env 6, H, ds with
    | (.ptr 0 0), (.ptr 1 0), (.v (.i .i64 a0)), [(.cells 35 none [(.v (.s a1)), (.v (.i .i64 a2)), (.v (.i .i64 a3)), (.v (.i .u64 a4)), (.v (.i .u64 a5)), (.v (.sl 9 a6)), (.v (.b a7)), (.v (.i .i64 a8)), (.v (.sl 35 a9))]), (.cells 35 none [(.v (.s a10)), (.v (.i .i64 a11)), (.v (.i .i64 a12)), (.v (.i .u64 a13)), (.v (.i .u64 a14)), (.v (.sl 9 a15)), (.v (.b a16)), (.v (.i .i64 a17)), .cap0])], [] => some (a0, a1, a2, a3, a4, a5, a6, a7, a8, a9, a10, a11, a12, a13, a14, a15, a16, a17)
    | _, _, _, _, _ => none
  slS := fun (a0, a1, a2, a3, a4, a5, a6, a7, a8, a9, a10, a11, a12, a13, a14, a15, a16, a17) => [(2, (.ptr 0 0)), (3, (.ptr 1 0)), (6, (.v (.i .i64 a0)))]
  obS := fun (a0, a1, a2, a3, a4, a5, a6, a7, a8, a9, a10, a11, a12, a13, a14, a15, a16, a17) => [(.cells 35 none [(.v (.s a1)), (.v (.i .i64 a2)), (.v (.i .i64 a3)), (.v (.i .u64 a4)), (.v (.i .u64 a5)), (.v (.sl 9 a6)), (.v (.b a7)), (.v (.i .i64 a8)), (.v (.sl 35 a9))]), (.cells 35 none [(.v (.s a10)), (.v (.i .i64 a11)), (.v (.i .i64 a12)), (.v (.i .u64 a13)), (.v (.i .u64 a14)), (.v (.sl 9 a15)), (.v (.b a16)), (.v (.i .i64 a17)), .cap0])]
  dsS := fun (a0, a1, a2, a3, a4, a5, a6, a7, a8, a9, a10, a11, a12, a13, a14, a15, a16, a17) => []
  dcE x env H ds := match x, H, ds with
    | .normal, [], [] => some ()
    | _, _, _ => none
  exE := fun _ => .normal
  slE := fun _ => []
  obE := fun _ => []
  dsE := fun _ => []
  goE := fun _ _ k => k .normal [] [] []
theorem p_tollbarref07_Same_3_4_ok : PieceOk p_tollbarref07_Same_3_4 := by
  refine ⟨fun env H ds s h => ?_, fun x env H ds e h => ?_, fun R e k => by kernel_rfl⟩
  · simp only [p_tollbarref07_Same_3_4] at h ⊢; split at h <;> first | (cases h; simp only [List.forall_mem_cons]; simp_all; done) | (cases h; done)
  · simp only [p_tollbarref07_Same_3_4] at h ⊢; split at h <;> first | (cases h; simp only [List.forall_mem_cons]; simp_all; done) | (cases h; done)
theorem p_tollbarref07_Same_3_4_ct (κ : Nat) (m : Int) : CutOk Tryd.prog C (G m) Tryd.f10.ntmps 0 (pieceOf (.blk 2) (getBody Tryd.f10)) (p_tollbarref07_Same_3_4.cut (gcN 0 [2, 3, 6]) (tollbarref07_Same_3.l4 κ κ)) :=
  Piece.loop p_tollbarref07_Same_3_4_ok C_ok mixed (gam29_ok κ m) gcN_ok (xN_ok gcN_ok (ex_nil) gcN_ok gcN_ok) (cut := (ct_tollbarref07_Same_3_3 κ)) (X := (xN (gcN 0 []) [] (gcN 0 [4]) (gcN 0 [1000000]))) (id := 2) (body := bodyOf (pieceOf (.blk 2) (getBody Tryd.f10))) (cuts_by (l := []) (by kernel_rfl) (all_nil)) (f := tollbarref07_Same_3.l4 κ) (fun s => by kernel_rfl) (fun k s => by kernel_rfl) κ
def cc_tollbarref07_Same_3_5 (κ : Nat) : Cut T := p_tollbarref07_Same_3_4.cut (gcN 0 [2, 3, 6]) (tollbarref07_Same_3.l4 κ κ)
theorem cc_tollbarref07_Same_3_5_ok (κ : Nat) (m : Int) : CutOk Tryd.prog C (G m) Tryd.f10.ntmps 0 (pieceOf (.blk 2) (getBody Tryd.f10)) (cc_tollbarref07_Same_3_5 κ) := p_tollbarref07_Same_3_4_ct κ m
def ct_tollbarref07_Same_3_5 (κ : Nat) : Key → Option (Cut T) := addCut (ct_tollbarref07_Same_3_3 κ) (.blk 2) (cc_tollbarref07_Same_3_5 κ)
def sp_tollbarref07_Same_3 : Spec T (ByteArray × Int × Int × Int × Int × (List ByteArray) × Bool × Int × (List Tollbarref07S) × ByteArray × Int × Int × Int × Int × (List ByteArray) × Bool × Int) (Bool) where
  dcI a H := match a, H with
    | [(.agg [(.v (.s a0)), (.v (.i .i64 a1)), (.v (.i .i64 a2)), (.v (.i .u64 a3)), (.v (.i .u64 a4)), (.v (.sl 9 a5)), (.v (.b a6)), (.v (.i .i64 a7)), (.v (.sl 35 a8))]), (.agg [(.v (.s a9)), (.v (.i .i64 a10)), (.v (.i .i64 a11)), (.v (.i .u64 a12)), (.v (.i .u64 a13)), (.v (.sl 9 a14)), (.v (.b a15)), (.v (.i .i64 a16)), .cap0])], [] => some (a0, a1, a2, a3, a4, a5, a6, a7, a8, a9, a10, a11, a12, a13, a14, a15, a16)
    | _, _ => none
  ecA := fun (a0, a1, a2, a3, a4, a5, a6, a7, a8, a9, a10, a11, a12, a13, a14, a15, a16) => [(.agg [(.v (.s a0)), (.v (.i .i64 a1)), (.v (.i .i64 a2)), (.v (.i .u64 a3)), (.v (.i .u64 a4)), (.v (.sl 9 a5)), (.v (.b a6)), (.v (.i .i64 a7)), (.v (.sl 35 a8))]), (.agg [(.v (.s a9)), (.v (.i .i64 a10)), (.v (.i .i64 a11)), (.v (.i .u64 a12)), (.v (.i .u64 a13)), (.v (.sl 9 a14)), (.v (.b a15)), (.v (.i .i64 a16)), .cap0])]
  ecH := fun (a0, a1, a2, a3, a4, a5, a6, a7, a8, a9, a10, a11, a12, a13, a14, a15, a16) => []
  dcO o := match o with
    | .ret (.v (.b a0)) [] => some a0
    | _ => none
  goO := fun _ a0 k => k (.ret (.v (.b a0)) [])
  ecO := fun a0 => .ret (.v (.b a0)) []
theorem sp_tollbarref07_Same_3_ok : SpecOk sp_tollbarref07_Same_3 := by
  refine ⟨fun a H i h => ?_, fun o x h => ?_, fun R e k => by kernel_rfl⟩
  · simp only [sp_tollbarref07_Same_3] at h ⊢; split at h <;> first | (cases h; exact ⟨rfl, rfl⟩) | (cases h; done)
  · simp only [sp_tollbarref07_Same_3] at h ⊢; split at h <;> first | (cases h; rfl) | (cases h; done)
theorem ok_tollbarref07_Same_3 (κ : Nat) (m : Int) : EOk Tryd.prog C (G m) 10 (sp_tollbarref07_Same_3.entry (fun (a0, a1, a2, a3, a4, a5, a6, a7, a8, a9, a10, a11, a12, a13, a14, a15, a16) => tollbarref07_Same_3 κ a0 a1 a2 a3 a4 a5 a6 a7 a8 a9 a10 a11 a12 a13 a14 a15 a16)) :=
  Spec.ok sp_tollbarref07_Same_3_ok C_ok mixed (gam29_ok κ m) (cut := (ct_tollbarref07_Same_3_5 κ)) (NR := (gcN 0 [0])) (NP := (gcN 0 [0])) (nB := 0) Tryd.func10 (c := (getBody Tryd.f10)) (by kernel_rfl) (by kernel_rfl) (fun i => by kernel_rfl) gcN_ok gcN_ok (cuts_by (l := [(pieceOf (.reg 1) (getBody Tryd.f10), cc_tollbarref07_Same_3_1 κ), (pieceOf (.blk 0) (getBody Tryd.f10), cc_tollbarref07_Same_3_3 κ), (pieceOf (.blk 2) (getBody Tryd.f10), cc_tollbarref07_Same_3_5 κ)]) (by kernel_rfl) (all_cons (cc_tollbarref07_Same_3_1_ok κ m) (all_cons (cc_tollbarref07_Same_3_3_ok κ m) (all_cons (cc_tollbarref07_Same_3_5_ok κ m) (all_nil))))) (fun i => by kernel_rfl)
noncomputable def gam30 (κ : Nat) : Gam T := (gam29 κ).addS 10 sp_tollbarref07_Same_3 (fun (a0, a1, a2, a3, a4, a5, a6, a7, a8, a9, a10, a11, a12, a13, a14, a15, a16) => tollbarref07_Same_3 κ a0 a1 a2 a3 a4 a5 a6 a7 a8 a9 a10 a11 a12 a13 a14 a15 a16)
theorem gam30_ok (κ : Nat) (m : Int) : GOk Tryd.prog C (G m) (gam30 κ) := (gam29_ok κ m).addS (ok_tollbarref07_Same_3 κ m)
def sp_tollbarref07_Same_6 : Spec T (ByteArray × Int × Int × Int × Int × (List ByteArray) × Bool × Int × (List Tollbarref07S) × ByteArray × Int × Int × Int × Int × (List ByteArray) × Bool × Int × (List Tollbarref07S)) (Bool) where
  dcI a H := match a, H with
    | [(.agg [(.v (.s a0)), (.v (.i .i64 a1)), (.v (.i .i64 a2)), (.v (.i .u64 a3)), (.v (.i .u64 a4)), (.v (.sl 9 a5)), (.v (.b a6)), (.v (.i .i64 a7)), (.v (.sl 35 a8))]), (.agg [(.v (.s a9)), (.v (.i .i64 a10)), (.v (.i .i64 a11)), (.v (.i .u64 a12)), (.v (.i .u64 a13)), (.v (.sl 9 a14)), (.v (.b a15)), (.v (.i .i64 a16)), (.v (.sl 35 a17))])], [] => some (a0, a1, a2, a3, a4, a5, a6, a7, a8, a9, a10, a11, a12, a13, a14, a15, a16, a17)
    | _, _ => none
  ecA := fun (a0, a1, a2, a3, a4, a5, a6, a7, a8, a9, a10, a11, a12, a13, a14, a15, a16, a17) => [(.agg [(.v (.s a0)), (.v (.i .i64 a1)), (.v (.i .i64 a2)), (.v (.i .u64 a3)), (.v (.i .u64 a4)), (.v (.sl 9 a5)), (.v (.b a6)), (.v (.i .i64 a7)), (.v (.sl 35 a8))]), (.agg [(.v (.s a9)), (.v (.i .i64 a10)), (.v (.i .i64 a11)), (.v (.i .u64 a12)), (.v (.i .u64 a13)), (.v (.sl 9 a14)), (.v (.b a15)), (.v (.i .i64 a16)), (.v (.sl 35 a17))])]
  ecH := fun (a0, a1, a2, a3, a4, a5, a6, a7, a8, a9, a10, a11, a12, a13, a14, a15, a16, a17) => []
  dcO o := match o with
    | .ret (.v (.b a0)) [] => some a0
    | _ => none
  goO := fun _ a0 k => k (.ret (.v (.b a0)) [])
  ecO := fun a0 => .ret (.v (.b a0)) []
theorem sp_tollbarref07_Same_6_ok : SpecOk sp_tollbarref07_Same_6 := by
  refine ⟨fun a H i h => ?_, fun o x h => ?_, fun R e k => by kernel_rfl⟩
  · simp only [sp_tollbarref07_Same_6] at h ⊢; split at h <;> first | (cases h; exact ⟨rfl, rfl⟩) | (cases h; done)
  · simp only [sp_tollbarref07_Same_6] at h ⊢; split at h <;> first | (cases h; rfl) | (cases h; done)
def p_tollbarref07_Same_6_0 : Piece T (ByteArray × Int × Int × Int × Int × (List ByteArray) × Bool × Int × (List Tollbarref07S) × ByteArray × Int × Int × Int × Int × (List ByteArray) × Bool × Int × (List Tollbarref07S)) (Bool × ByteArray × Int × Int × Int × Int × (List ByteArray) × Bool × Int × (List Tollbarref07S) × ByteArray × Int × Int × Int × Int × (List ByteArray) × Bool × Int × (List Tollbarref07S)) where
  dcS env H ds := match env 2, env 3, H, ds with
    | (.ptr 0 0), (.ptr 1 0), [(.cells 35 none [(.v (.s a0)), (.v (.i .i64 a1)), (.v (.i .i64 a2)), (.v (.i .u64 a3)), (.v (.i .u64 a4)), (.v (.sl 9 a5)), (.v (.b a6)), (.v (.i .i64 a7)), (.v (.sl 35 a8))]), (.cells 35 none [(.v (.s a9)), (.v (.i .i64 a10)), (.v (.i .i64 a11)), (.v (.i .u64 a12)), (.v (.i .u64 a13)), (.v (.sl 9 a14)), (.v (.b a15)), (.v (.i .i64 a16)), (.v (.sl 35 a17))])], [] => some (a0, a1, a2, a3, a4, a5, a6, a7, a8, a9, a10, a11, a12, a13, a14, a15, a16, a17)
    | _, _, _, _ => none
  slS := fun (a0, a1, a2, a3, a4, a5, a6, a7, a8, a9, a10, a11, a12, a13, a14, a15, a16, a17) => [(2, (.ptr 0 0)), (3, (.ptr 1 0))]
  obS := fun (a0, a1, a2, a3, a4, a5, a6, a7, a8, a9, a10, a11, a12, a13, a14, a15, a16, a17) => [(.cells 35 none [(.v (.s a0)), (.v (.i .i64 a1)), (.v (.i .i64 a2)), (.v (.i .u64 a3)), (.v (.i .u64 a4)), (.v (.sl 9 a5)), (.v (.b a6)), (.v (.i .i64 a7)), (.v (.sl 35 a8))]), (.cells 35 none [(.v (.s a9)), (.v (.i .i64 a10)), (.v (.i .i64 a11)), (.v (.i .u64 a12)), (.v (.i .u64 a13)), (.v (.sl 9 a14)), (.v (.b a15)), (.v (.i .i64 a16)), (.v (.sl 35 a17))])]
  dsS := fun (a0, a1, a2, a3, a4, a5, a6, a7, a8, a9, a10, a11, a12, a13, a14, a15, a16, a17) => []
  dcE x env H ds := match x, env 2, env 3, env 72, H, ds with
    | .normal, (.ptr 0 0), (.ptr 1 0), (.v (.b a0)), [(.cells 35 none [(.v (.s a1)), (.v (.i .i64 a2)), (.v (.i .i64 a3)), (.v (.i .u64 a4)), (.v (.i .u64 a5)), (.v (.sl 9 a6)), (.v (.b a7)), (.v (.i .i64 a8)), (.v (.sl 35 a9))]), (.cells 35 none [(.v (.s a10)), (.v (.i .i64 a11)), (.v (.i .i64 a12)), (.v (.i .u64 a13)), (.v (.i .u64 a14)), (.v (.sl 9 a15)), (.v (.b a16)), (.v (.i .i64 a17)), (.v (.sl 35 a18))])], [] => some (a0, a1, a2, a3, a4, a5, a6, a7, a8, a9, a10, a11, a12, a13, a14, a15, a16, a17, a18)
    | _, _, _, _, _, _ => none
  exE := fun (a0, a1, a2, a3, a4, a5, a6, a7, a8, a9, a10, a11, a12, a13, a14, a15, a16, a17, a18) => .normal
  slE := fun (a0, a1, a2, a3, a4, a5, a6, a7, a8, a9, a10, a11, a12, a13, a14, a15, a16, a17, a18) => [(2, (.ptr 0 0)), (3, (.ptr 1 0)), (72, (.v (.b a0)))]
  obE := fun (a0, a1, a2, a3, a4, a5, a6, a7, a8, a9, a10, a11, a12, a13, a14, a15, a16, a17, a18) => [(.cells 35 none [(.v (.s a1)), (.v (.i .i64 a2)), (.v (.i .i64 a3)), (.v (.i .u64 a4)), (.v (.i .u64 a5)), (.v (.sl 9 a6)), (.v (.b a7)), (.v (.i .i64 a8)), (.v (.sl 35 a9))]), (.cells 35 none [(.v (.s a10)), (.v (.i .i64 a11)), (.v (.i .i64 a12)), (.v (.i .u64 a13)), (.v (.i .u64 a14)), (.v (.sl 9 a15)), (.v (.b a16)), (.v (.i .i64 a17)), (.v (.sl 35 a18))])]
  dsE := fun (a0, a1, a2, a3, a4, a5, a6, a7, a8, a9, a10, a11, a12, a13, a14, a15, a16, a17, a18) => []
  goE := fun _ (a0, a1, a2, a3, a4, a5, a6, a7, a8, a9, a10, a11, a12, a13, a14, a15, a16, a17, a18) k => k .normal [(2, (.ptr 0 0)), (3, (.ptr 1 0)), (72, (.v (.b a0)))] [(.cells 35 none [(.v (.s a1)), (.v (.i .i64 a2)), (.v (.i .i64 a3)), (.v (.i .u64 a4)), (.v (.i .u64 a5)), (.v (.sl 9 a6)), (.v (.b a7)), (.v (.i .i64 a8)), (.v (.sl 35 a9))]), (.cells 35 none [(.v (.s a10)), (.v (.i .i64 a11)), (.v (.i .i64 a12)), (.v (.i .u64 a13)), (.v (.i .u64 a14)), (.v (.sl 9 a15)), (.v (.b a16)), (.v (.i .i64 a17)), (.v (.sl 35 a18))])] []
theorem p_tollbarref07_Same_6_0_ok : PieceOk p_tollbarref07_Same_6_0 := by
  refine ⟨fun env H ds s h => ?_, fun x env H ds e h => ?_, fun R e k => by kernel_rfl⟩
  · simp only [p_tollbarref07_Same_6_0] at h ⊢; split at h <;> first | (cases h; simp only [List.forall_mem_cons]; simp_all; done) | (cases h; done)
  · simp only [p_tollbarref07_Same_6_0] at h ⊢; split at h <;> first | (cases h; simp only [List.forall_mem_cons]; simp_all; done) | (cases h; done)
theorem p_tollbarref07_Same_6_0_ct (κ : Nat) (m : Int) (rec_tollbarref07_Same_6 : (ByteArray × Int × Int × Int × Int × (List ByteArray) × Bool × Int × (List Tollbarref07S) × ByteArray × Int × Int × Int × Int × (List ByteArray) × Bool × Int × (List Tollbarref07S)) → Option (Bool)) (hrec_tollbarref07_Same_6 : EOk Tryd.prog C (G m) 10 (sp_tollbarref07_Same_6.entry rec_tollbarref07_Same_6)) : CutOk Tryd.prog C (G m) Tryd.f10.ntmps 0 (pieceOf (.reg 1) (getBody Tryd.f10)) (p_tollbarref07_Same_6_0.cut (gcN 0 [2, 3]) (fun (a0, a1, a2, a3, a4, a5, a6, a7, a8, a9, a10, a11, a12, a13, a14, a15, a16, a17) => tollbarref07_Same_6.v0 κ rec_tollbarref07_Same_6 a0 a1 a2 a3 a4 a5 a6 a7 a8 a9 a10 a11 a12 a13 a14 a15 a16 a17)) :=
  Piece.join p_tollbarref07_Same_6_0_ok C_ok mixed ((gam30_ok κ m).addS hrec_tollbarref07_Same_6) gcN_ok (xN_ok gcN_ok (ex_nil) gcN_ok gcN_ok) (cut := noCut) (X := (xN (gcN 0 [2, 3, 72]) [] (gcN 0 [4]) (gcN 0 [1000000]))) (cuts_by (l := []) (by kernel_rfl) (all_nil)) (fun s => by kernel_rfl)
def cc_tollbarref07_Same_6_1 (κ : Nat) (rec_tollbarref07_Same_6 : (ByteArray × Int × Int × Int × Int × (List ByteArray) × Bool × Int × (List Tollbarref07S) × ByteArray × Int × Int × Int × Int × (List ByteArray) × Bool × Int × (List Tollbarref07S)) → Option (Bool)) : Cut T := p_tollbarref07_Same_6_0.cut (gcN 0 [2, 3]) (fun (a0, a1, a2, a3, a4, a5, a6, a7, a8, a9, a10, a11, a12, a13, a14, a15, a16, a17) => tollbarref07_Same_6.v0 κ rec_tollbarref07_Same_6 a0 a1 a2 a3 a4 a5 a6 a7 a8 a9 a10 a11 a12 a13 a14 a15 a16 a17)
theorem cc_tollbarref07_Same_6_1_ok (κ : Nat) (m : Int) (rec_tollbarref07_Same_6 : (ByteArray × Int × Int × Int × Int × (List ByteArray) × Bool × Int × (List Tollbarref07S) × ByteArray × Int × Int × Int × Int × (List ByteArray) × Bool × Int × (List Tollbarref07S)) → Option (Bool)) (hrec_tollbarref07_Same_6 : EOk Tryd.prog C (G m) 10 (sp_tollbarref07_Same_6.entry rec_tollbarref07_Same_6)) : CutOk Tryd.prog C (G m) Tryd.f10.ntmps 0 (pieceOf (.reg 1) (getBody Tryd.f10)) (cc_tollbarref07_Same_6_1 κ rec_tollbarref07_Same_6) := p_tollbarref07_Same_6_0_ct κ m rec_tollbarref07_Same_6 hrec_tollbarref07_Same_6
def ct_tollbarref07_Same_6_1 (κ : Nat) (rec_tollbarref07_Same_6 : (ByteArray × Int × Int × Int × Int × (List ByteArray) × Bool × Int × (List Tollbarref07S) × ByteArray × Int × Int × Int × Int × (List ByteArray) × Bool × Int × (List Tollbarref07S)) → Option (Bool)) : Key → Option (Cut T) := addCut noCut (.reg 1) (cc_tollbarref07_Same_6_1 κ rec_tollbarref07_Same_6)
def p_tollbarref07_Same_6_2 : Piece T (Int × ByteArray × Int × Int × Int × Int × (List ByteArray) × Bool × Int × (List Tollbarref07S) × ByteArray × Int × Int × Int × Int × (List ByteArray) × Bool × Int × (List Tollbarref07S)) ((ByteArray × Int × Int × Int × Int × (List ByteArray) × Bool × Int × (List Tollbarref07S) × ByteArray × Int × Int × Int × Int × (List ByteArray) × Bool × Int × (List Tollbarref07S)) ⊕ (Bool)) where
  dcS env H ds := match env 2, env 3, env 5, H, ds with
    | (.ptr 0 0), (.ptr 1 0), (.v (.i .i64 a0)), [(.cells 35 none [(.v (.s a1)), (.v (.i .i64 a2)), (.v (.i .i64 a3)), (.v (.i .u64 a4)), (.v (.i .u64 a5)), (.v (.sl 9 a6)), (.v (.b a7)), (.v (.i .i64 a8)), (.v (.sl 35 a9))]), (.cells 35 none [(.v (.s a10)), (.v (.i .i64 a11)), (.v (.i .i64 a12)), (.v (.i .u64 a13)), (.v (.i .u64 a14)), (.v (.sl 9 a15)), (.v (.b a16)), (.v (.i .i64 a17)), (.v (.sl 35 a18))])], [] => some (a0, a1, a2, a3, a4, a5, a6, a7, a8, a9, a10, a11, a12, a13, a14, a15, a16, a17, a18)
    | _, _, _, _, _ => none
  slS := fun (a0, a1, a2, a3, a4, a5, a6, a7, a8, a9, a10, a11, a12, a13, a14, a15, a16, a17, a18) => [(2, (.ptr 0 0)), (3, (.ptr 1 0)), (5, (.v (.i .i64 a0)))]
  obS := fun (a0, a1, a2, a3, a4, a5, a6, a7, a8, a9, a10, a11, a12, a13, a14, a15, a16, a17, a18) => [(.cells 35 none [(.v (.s a1)), (.v (.i .i64 a2)), (.v (.i .i64 a3)), (.v (.i .u64 a4)), (.v (.i .u64 a5)), (.v (.sl 9 a6)), (.v (.b a7)), (.v (.i .i64 a8)), (.v (.sl 35 a9))]), (.cells 35 none [(.v (.s a10)), (.v (.i .i64 a11)), (.v (.i .i64 a12)), (.v (.i .u64 a13)), (.v (.i .u64 a14)), (.v (.sl 9 a15)), (.v (.b a16)), (.v (.i .i64 a17)), (.v (.sl 35 a18))])]
  dsS := fun (a0, a1, a2, a3, a4, a5, a6, a7, a8, a9, a10, a11, a12, a13, a14, a15, a16, a17, a18) => []
  dcE x env H ds := match x, env 2, env 3, env 4, H, ds with
    | .normal, (.ptr 0 0), (.ptr 1 0), _, [(.cells 35 none [(.v (.s a0)), (.v (.i .i64 a1)), (.v (.i .i64 a2)), (.v (.i .u64 a3)), (.v (.i .u64 a4)), (.v (.sl 9 a5)), (.v (.b a6)), (.v (.i .i64 a7)), (.v (.sl 35 a8))]), (.cells 35 none [(.v (.s a9)), (.v (.i .i64 a10)), (.v (.i .i64 a11)), (.v (.i .u64 a12)), (.v (.i .u64 a13)), (.v (.sl 9 a14)), (.v (.b a15)), (.v (.i .i64 a16)), (.v (.sl 35 a17))])], [] => some (.inl (a0, a1, a2, a3, a4, a5, a6, a7, a8, a9, a10, a11, a12, a13, a14, a15, a16, a17))
    | .ret, _, _, (.v (.b a0)), [], [] => some (.inr a0)
    | _, _, _, _, _, _ => none
  exE := fun x => match x with
    | (.inl (a0, a1, a2, a3, a4, a5, a6, a7, a8, a9, a10, a11, a12, a13, a14, a15, a16, a17)) => .normal
    | (.inr a0) => .ret
  slE := fun x => match x with
    | (.inl (a0, a1, a2, a3, a4, a5, a6, a7, a8, a9, a10, a11, a12, a13, a14, a15, a16, a17)) => [(2, (.ptr 0 0)), (3, (.ptr 1 0))]
    | (.inr a0) => [(4, (.v (.b a0)))]
  obE := fun x => match x with
    | (.inl (a0, a1, a2, a3, a4, a5, a6, a7, a8, a9, a10, a11, a12, a13, a14, a15, a16, a17)) => [(.cells 35 none [(.v (.s a0)), (.v (.i .i64 a1)), (.v (.i .i64 a2)), (.v (.i .u64 a3)), (.v (.i .u64 a4)), (.v (.sl 9 a5)), (.v (.b a6)), (.v (.i .i64 a7)), (.v (.sl 35 a8))]), (.cells 35 none [(.v (.s a9)), (.v (.i .i64 a10)), (.v (.i .i64 a11)), (.v (.i .u64 a12)), (.v (.i .u64 a13)), (.v (.sl 9 a14)), (.v (.b a15)), (.v (.i .i64 a16)), (.v (.sl 35 a17))])]
    | (.inr a0) => []
  dsE := fun x => match x with
    | (.inl (a0, a1, a2, a3, a4, a5, a6, a7, a8, a9, a10, a11, a12, a13, a14, a15, a16, a17)) => []
    | (.inr a0) => []
  goE := fun _ x k => match x with
    | (.inl (a0, a1, a2, a3, a4, a5, a6, a7, a8, a9, a10, a11, a12, a13, a14, a15, a16, a17)) => k .normal [(2, (.ptr 0 0)), (3, (.ptr 1 0))] [(.cells 35 none [(.v (.s a0)), (.v (.i .i64 a1)), (.v (.i .i64 a2)), (.v (.i .u64 a3)), (.v (.i .u64 a4)), (.v (.sl 9 a5)), (.v (.b a6)), (.v (.i .i64 a7)), (.v (.sl 35 a8))]), (.cells 35 none [(.v (.s a9)), (.v (.i .i64 a10)), (.v (.i .i64 a11)), (.v (.i .u64 a12)), (.v (.i .u64 a13)), (.v (.sl 9 a14)), (.v (.b a15)), (.v (.i .i64 a16)), (.v (.sl 35 a17))])] []
    | (.inr a0) => k .ret [(4, (.v (.b a0)))] [] []
theorem p_tollbarref07_Same_6_2_ok : PieceOk p_tollbarref07_Same_6_2 := by
  refine ⟨fun env H ds s h => ?_, fun x env H ds e h => ?_, fun R e k => by rcases e with e | e <;> kernel_rfl⟩
  · simp only [p_tollbarref07_Same_6_2] at h ⊢; split at h <;> first | (cases h; simp only [List.forall_mem_cons]; simp_all; done) | (cases h; done)
  · simp only [p_tollbarref07_Same_6_2] at h ⊢; split at h <;> first | (cases h; simp only [List.forall_mem_cons]; simp_all; done) | (cases h; done)
theorem p_tollbarref07_Same_6_2_ct (κ : Nat) (m : Int) (rec_tollbarref07_Same_6 : (ByteArray × Int × Int × Int × Int × (List ByteArray) × Bool × Int × (List Tollbarref07S) × ByteArray × Int × Int × Int × Int × (List ByteArray) × Bool × Int × (List Tollbarref07S)) → Option (Bool)) (hrec_tollbarref07_Same_6 : EOk Tryd.prog C (G m) 10 (sp_tollbarref07_Same_6.entry rec_tollbarref07_Same_6)) : CutOk Tryd.prog C (G m) Tryd.f10.ntmps 0 (pieceOf (.blk 0) (getBody Tryd.f10)) (p_tollbarref07_Same_6_2.cut (gcN 0 [2, 3, 5]) (tollbarref07_Same_6.l2 κ rec_tollbarref07_Same_6 κ)) :=
  Piece.loop p_tollbarref07_Same_6_2_ok C_ok mixed ((gam30_ok κ m).addS hrec_tollbarref07_Same_6) gcN_ok (xN_ok gcN_ok (ex_nil) gcN_ok gcN_ok) (cut := (ct_tollbarref07_Same_6_1 κ rec_tollbarref07_Same_6)) (X := (xN (gcN 0 [2, 3]) [] (gcN 0 [4]) (gcN 0 [1000000]))) (id := 0) (body := bodyOf (pieceOf (.blk 0) (getBody Tryd.f10))) (cuts_by (l := []) (by kernel_rfl) (all_nil)) (f := tollbarref07_Same_6.l2 κ rec_tollbarref07_Same_6) (fun s => by kernel_rfl) (fun k s => by kernel_rfl) κ
def cc_tollbarref07_Same_6_3 (κ : Nat) (rec_tollbarref07_Same_6 : (ByteArray × Int × Int × Int × Int × (List ByteArray) × Bool × Int × (List Tollbarref07S) × ByteArray × Int × Int × Int × Int × (List ByteArray) × Bool × Int × (List Tollbarref07S)) → Option (Bool)) : Cut T := p_tollbarref07_Same_6_2.cut (gcN 0 [2, 3, 5]) (tollbarref07_Same_6.l2 κ rec_tollbarref07_Same_6 κ)
theorem cc_tollbarref07_Same_6_3_ok (κ : Nat) (m : Int) (rec_tollbarref07_Same_6 : (ByteArray × Int × Int × Int × Int × (List ByteArray) × Bool × Int × (List Tollbarref07S) × ByteArray × Int × Int × Int × Int × (List ByteArray) × Bool × Int × (List Tollbarref07S)) → Option (Bool)) (hrec_tollbarref07_Same_6 : EOk Tryd.prog C (G m) 10 (sp_tollbarref07_Same_6.entry rec_tollbarref07_Same_6)) : CutOk Tryd.prog C (G m) Tryd.f10.ntmps 0 (pieceOf (.blk 0) (getBody Tryd.f10)) (cc_tollbarref07_Same_6_3 κ rec_tollbarref07_Same_6) := p_tollbarref07_Same_6_2_ct κ m rec_tollbarref07_Same_6 hrec_tollbarref07_Same_6
def ct_tollbarref07_Same_6_3 (κ : Nat) (rec_tollbarref07_Same_6 : (ByteArray × Int × Int × Int × Int × (List ByteArray) × Bool × Int × (List Tollbarref07S) × ByteArray × Int × Int × Int × Int × (List ByteArray) × Bool × Int × (List Tollbarref07S)) → Option (Bool)) : Key → Option (Cut T) := addCut (ct_tollbarref07_Same_6_1 κ rec_tollbarref07_Same_6) (.blk 0) (cc_tollbarref07_Same_6_3 κ rec_tollbarref07_Same_6)
def p_tollbarref07_Same_6_4 : Piece T (Int × ByteArray × Int × Int × Int × Int × (List ByteArray) × Bool × Int × (List Tollbarref07S) × ByteArray × Int × Int × Int × Int × (List ByteArray) × Bool × Int × (List Tollbarref07S)) ((Unit) ⊕ (Bool)) where
  dcS env H ds := match env 2, env 3, env 6, H, ds with
    | (.ptr 0 0), (.ptr 1 0), (.v (.i .i64 a0)), [(.cells 35 none [(.v (.s a1)), (.v (.i .i64 a2)), (.v (.i .i64 a3)), (.v (.i .u64 a4)), (.v (.i .u64 a5)), (.v (.sl 9 a6)), (.v (.b a7)), (.v (.i .i64 a8)), (.v (.sl 35 a9))]), (.cells 35 none [(.v (.s a10)), (.v (.i .i64 a11)), (.v (.i .i64 a12)), (.v (.i .u64 a13)), (.v (.i .u64 a14)), (.v (.sl 9 a15)), (.v (.b a16)), (.v (.i .i64 a17)), (.v (.sl 35 a18))])], [] => some (a0, a1, a2, a3, a4, a5, a6, a7, a8, a9, a10, a11, a12, a13, a14, a15, a16, a17, a18)
    | _, _, _, _, _ => none
  slS := fun (a0, a1, a2, a3, a4, a5, a6, a7, a8, a9, a10, a11, a12, a13, a14, a15, a16, a17, a18) => [(2, (.ptr 0 0)), (3, (.ptr 1 0)), (6, (.v (.i .i64 a0)))]
  obS := fun (a0, a1, a2, a3, a4, a5, a6, a7, a8, a9, a10, a11, a12, a13, a14, a15, a16, a17, a18) => [(.cells 35 none [(.v (.s a1)), (.v (.i .i64 a2)), (.v (.i .i64 a3)), (.v (.i .u64 a4)), (.v (.i .u64 a5)), (.v (.sl 9 a6)), (.v (.b a7)), (.v (.i .i64 a8)), (.v (.sl 35 a9))]), (.cells 35 none [(.v (.s a10)), (.v (.i .i64 a11)), (.v (.i .i64 a12)), (.v (.i .u64 a13)), (.v (.i .u64 a14)), (.v (.sl 9 a15)), (.v (.b a16)), (.v (.i .i64 a17)), (.v (.sl 35 a18))])]
  dsS := fun (a0, a1, a2, a3, a4, a5, a6, a7, a8, a9, a10, a11, a12, a13, a14, a15, a16, a17, a18) => []
  dcE x env H ds := match x, env 4, H, ds with
    | .normal, _, [], [] => some (.inl ())
    | .ret, (.v (.b a0)), [], [] => some (.inr a0)
    | _, _, _, _ => none
  exE := fun x => match x with
    | (.inl _) => .normal
    | (.inr a0) => .ret
  slE := fun x => match x with
    | (.inl _) => []
    | (.inr a0) => [(4, (.v (.b a0)))]
  obE := fun x => match x with
    | (.inl _) => []
    | (.inr a0) => []
  dsE := fun x => match x with
    | (.inl _) => []
    | (.inr a0) => []
  goE := fun _ x k => match x with
    | (.inl _) => k .normal [] [] []
    | (.inr a0) => k .ret [(4, (.v (.b a0)))] [] []
theorem p_tollbarref07_Same_6_4_ok : PieceOk p_tollbarref07_Same_6_4 := by
  refine ⟨fun env H ds s h => ?_, fun x env H ds e h => ?_, fun R e k => by rcases e with e | e <;> kernel_rfl⟩
  · simp only [p_tollbarref07_Same_6_4] at h ⊢; split at h <;> first | (cases h; simp only [List.forall_mem_cons]; simp_all; done) | (cases h; done)
  · simp only [p_tollbarref07_Same_6_4] at h ⊢; split at h <;> first | (cases h; simp only [List.forall_mem_cons]; simp_all; done) | (cases h; done)
theorem p_tollbarref07_Same_6_4_ct (κ : Nat) (m : Int) (rec_tollbarref07_Same_6 : (ByteArray × Int × Int × Int × Int × (List ByteArray) × Bool × Int × (List Tollbarref07S) × ByteArray × Int × Int × Int × Int × (List ByteArray) × Bool × Int × (List Tollbarref07S)) → Option (Bool)) (hrec_tollbarref07_Same_6 : EOk Tryd.prog C (G m) 10 (sp_tollbarref07_Same_6.entry rec_tollbarref07_Same_6)) : CutOk Tryd.prog C (G m) Tryd.f10.ntmps 0 (pieceOf (.blk 2) (getBody Tryd.f10)) (p_tollbarref07_Same_6_4.cut (gcN 0 [2, 3, 6]) (tollbarref07_Same_6.l4 κ rec_tollbarref07_Same_6 κ)) :=
  Piece.loop p_tollbarref07_Same_6_4_ok C_ok mixed ((gam30_ok κ m).addS hrec_tollbarref07_Same_6) gcN_ok (xN_ok gcN_ok (ex_nil) gcN_ok gcN_ok) (cut := (ct_tollbarref07_Same_6_3 κ rec_tollbarref07_Same_6)) (X := (xN (gcN 0 []) [] (gcN 0 [4]) (gcN 0 [1000000]))) (id := 2) (body := bodyOf (pieceOf (.blk 2) (getBody Tryd.f10))) (cuts_by (l := []) (by kernel_rfl) (all_nil)) (f := tollbarref07_Same_6.l4 κ rec_tollbarref07_Same_6) (fun s => by kernel_rfl) (fun k s => by kernel_rfl) κ
def cc_tollbarref07_Same_6_5 (κ : Nat) (rec_tollbarref07_Same_6 : (ByteArray × Int × Int × Int × Int × (List ByteArray) × Bool × Int × (List Tollbarref07S) × ByteArray × Int × Int × Int × Int × (List ByteArray) × Bool × Int × (List Tollbarref07S)) → Option (Bool)) : Cut T := p_tollbarref07_Same_6_4.cut (gcN 0 [2, 3, 6]) (tollbarref07_Same_6.l4 κ rec_tollbarref07_Same_6 κ)
theorem cc_tollbarref07_Same_6_5_ok (κ : Nat) (m : Int) (rec_tollbarref07_Same_6 : (ByteArray × Int × Int × Int × Int × (List ByteArray) × Bool × Int × (List Tollbarref07S) × ByteArray × Int × Int × Int × Int × (List ByteArray) × Bool × Int × (List Tollbarref07S)) → Option (Bool)) (hrec_tollbarref07_Same_6 : EOk Tryd.prog C (G m) 10 (sp_tollbarref07_Same_6.entry rec_tollbarref07_Same_6)) : CutOk Tryd.prog C (G m) Tryd.f10.ntmps 0 (pieceOf (.blk 2) (getBody Tryd.f10)) (cc_tollbarref07_Same_6_5 κ rec_tollbarref07_Same_6) := p_tollbarref07_Same_6_4_ct κ m rec_tollbarref07_Same_6 hrec_tollbarref07_Same_6
def ct_tollbarref07_Same_6_5 (κ : Nat) (rec_tollbarref07_Same_6 : (ByteArray × Int × Int × Int × Int × (List ByteArray) × Bool × Int × (List Tollbarref07S) × ByteArray × Int × Int × Int × Int × (List ByteArray) × Bool × Int × (List Tollbarref07S)) → Option (Bool)) : Key → Option (Cut T) := addCut (ct_tollbarref07_Same_6_3 κ rec_tollbarref07_Same_6) (.blk 2) (cc_tollbarref07_Same_6_5 κ rec_tollbarref07_Same_6)
theorem okb_tollbarref07_Same_6 (κ : Nat) (m : Int) (rec_tollbarref07_Same_6 : (ByteArray × Int × Int × Int × Int × (List ByteArray) × Bool × Int × (List Tollbarref07S) × ByteArray × Int × Int × Int × Int × (List ByteArray) × Bool × Int × (List Tollbarref07S)) → Option (Bool)) (hrec_tollbarref07_Same_6 : EOk Tryd.prog C (G m) 10 (sp_tollbarref07_Same_6.entry rec_tollbarref07_Same_6)) : EOk Tryd.prog C (G m) 10 (sp_tollbarref07_Same_6.entry (fun (a0, a1, a2, a3, a4, a5, a6, a7, a8, a9, a10, a11, a12, a13, a14, a15, a16, a17) => tollbarref07_Same_6.b κ rec_tollbarref07_Same_6 a0 a1 a2 a3 a4 a5 a6 a7 a8 a9 a10 a11 a12 a13 a14 a15 a16 a17)) :=
  Spec.ok sp_tollbarref07_Same_6_ok C_ok mixed ((gam30_ok κ m).addS hrec_tollbarref07_Same_6) (cut := (ct_tollbarref07_Same_6_5 κ rec_tollbarref07_Same_6)) (NR := (gcN 0 [0])) (NP := (gcN 0 [0])) (nB := 0) Tryd.func10 (c := (getBody Tryd.f10)) (by kernel_rfl) (by kernel_rfl) (fun i => by kernel_rfl) gcN_ok gcN_ok (cuts_by (l := [(pieceOf (.reg 1) (getBody Tryd.f10), cc_tollbarref07_Same_6_1 κ rec_tollbarref07_Same_6), (pieceOf (.blk 0) (getBody Tryd.f10), cc_tollbarref07_Same_6_3 κ rec_tollbarref07_Same_6), (pieceOf (.blk 2) (getBody Tryd.f10), cc_tollbarref07_Same_6_5 κ rec_tollbarref07_Same_6)]) (by kernel_rfl) (all_cons (cc_tollbarref07_Same_6_1_ok κ m rec_tollbarref07_Same_6 hrec_tollbarref07_Same_6) (all_cons (cc_tollbarref07_Same_6_3_ok κ m rec_tollbarref07_Same_6 hrec_tollbarref07_Same_6) (all_cons (cc_tollbarref07_Same_6_5_ok κ m rec_tollbarref07_Same_6 hrec_tollbarref07_Same_6) (all_nil))))) (fun i => by kernel_rfl)
theorem ok_tollbarref07_Same_6 (κ : Nat) (m : Int) : EOk Tryd.prog C (G m) 10 (sp_tollbarref07_Same_6.entry (fun (a0, a1, a2, a3, a4, a5, a6, a7, a8, a9, a10, a11, a12, a13, a14, a15, a16, a17) => tollbarref07_Same_6 κ a0 a1 a2 a3 a4 a5 a6 a7 a8 a9 a10 a11 a12 a13 a14 a15 a16 a17)) :=
  eok_rec (s := sp_tollbarref07_Same_6) (f := tollbarref07_Same_6.r κ) (fun i => rfl) (fun k h => okb_tollbarref07_Same_6 κ m (tollbarref07_Same_6.r κ k) h) κ
noncomputable def gam31 (κ : Nat) : Gam T := (gam30 κ).addS 10 sp_tollbarref07_Same_6 (fun (a0, a1, a2, a3, a4, a5, a6, a7, a8, a9, a10, a11, a12, a13, a14, a15, a16, a17) => tollbarref07_Same_6 κ a0 a1 a2 a3 a4 a5 a6 a7 a8 a9 a10 a11 a12 a13 a14 a15 a16 a17)
theorem gam31_ok (κ : Nat) (m : Int) : GOk Tryd.prog C (G m) (gam31 κ) := (gam30_ok κ m).addS (ok_tollbarref07_Same_6 κ m)
def p_tollbarlaw15_PathFronts_0 : Piece T (Int × (List ApiStep)) (Int × (List ApiStep) × Bool) where
  dcS env H ds := match env 0, env 1, H, ds with
    | (.v (.i .i64 a0)), (.v (.sl 46 a1)), [], [] => some (a0, a1)
    | _, _, _, _ => none
  slS := fun (a0, a1) => [(0, (.v (.i .i64 a0))), (1, (.v (.sl 46 a1)))]
  obS := fun (a0, a1) => []
  dsS := fun (a0, a1) => []
  dcE x env H ds := match x, env 0, env 1, env 23, H, ds with
    | .normal, (.v (.i .i64 a0)), (.v (.sl 46 a1)), (.v (.b a2)), [], [] => some (a0, a1, a2)
    | _, _, _, _, _, _ => none
  exE := fun (a0, a1, a2) => .normal
  slE := fun (a0, a1, a2) => [(0, (.v (.i .i64 a0))), (1, (.v (.sl 46 a1))), (23, (.v (.b a2)))]
  obE := fun (a0, a1, a2) => []
  dsE := fun (a0, a1, a2) => []
  goE := fun _ (a0, a1, a2) k => k .normal [(0, (.v (.i .i64 a0))), (1, (.v (.sl 46 a1))), (23, (.v (.b a2)))] [] []
theorem p_tollbarlaw15_PathFronts_0_ok : PieceOk p_tollbarlaw15_PathFronts_0 := by
  refine ⟨fun env H ds s h => ?_, fun x env H ds e h => ?_, fun R e k => by kernel_rfl⟩
  · simp only [p_tollbarlaw15_PathFronts_0] at h ⊢; split at h <;> first | (cases h; simp only [List.forall_mem_cons]; simp_all; done) | (cases h; done)
  · simp only [p_tollbarlaw15_PathFronts_0] at h ⊢; split at h <;> first | (cases h; simp only [List.forall_mem_cons]; simp_all; done) | (cases h; done)
theorem p_tollbarlaw15_PathFronts_0_ct (κ : Nat) (m : Int) : CutOk Tryd.prog C (G m) Tryd.f4.ntmps 0 (pieceOf (.reg 4) (getBody Tryd.f4)) (p_tollbarlaw15_PathFronts_0.cut (gcN 0 [0, 1]) (fun (a0, a1) => tollbarlaw15_PathFronts.v0 κ a0 a1)) :=
  Piece.join p_tollbarlaw15_PathFronts_0_ok C_ok mixed (gam26_ok κ m) gcN_ok (xN_ok gcN_ok (ex_nil) gcN_ok gcN_ok) (cut := noCut) (X := (xN (gcN 0 [0, 1, 23]) [] (gcN 0 [4]) (gcN 0 [1000000]))) (cuts_by (l := []) (by kernel_rfl) (all_nil)) (fun s => by kernel_rfl)
def cc_tollbarlaw15_PathFronts_1 (κ : Nat) : Cut T := p_tollbarlaw15_PathFronts_0.cut (gcN 0 [0, 1]) (fun (a0, a1) => tollbarlaw15_PathFronts.v0 κ a0 a1)
theorem cc_tollbarlaw15_PathFronts_1_ok (κ : Nat) (m : Int) : CutOk Tryd.prog C (G m) Tryd.f4.ntmps 0 (pieceOf (.reg 4) (getBody Tryd.f4)) (cc_tollbarlaw15_PathFronts_1 κ) := p_tollbarlaw15_PathFronts_0_ct κ m
def ct_tollbarlaw15_PathFronts_1 (κ : Nat) : Key → Option (Cut T) := addCut noCut (.reg 4) (cc_tollbarlaw15_PathFronts_1 κ)
def p_tollbarlaw15_PathFronts_2 : Piece T (Int × Int × ByteArray × Int × Int × Int × Int × (List ByteArray) × Bool × Int × (List SpecSpec) × ByteArray × Int × Int × Int × Int × (List ByteArray) × Bool × Int × (List SpecSpec)) (Bool) where
  dcS env H ds := match env 7, env 8, env 9, env 10, H, ds with
    | (.ptr 0 0), (.v (.i .i64 a0)), (.ptr 1 0), (.v (.i .i64 a1)), [(.cells 29 none [(.v (.s a2)), (.v (.i .i64 a3)), (.v (.i .i64 a4)), (.v (.i .u64 a5)), (.v (.i .u64 a6)), (.v (.sl 9 a7)), (.v (.b a8)), (.v (.i .i64 a9)), (.v (.sl 29 a10))]), (.cells 29 none [(.v (.s a11)), (.v (.i .i64 a12)), (.v (.i .i64 a13)), (.v (.i .u64 a14)), (.v (.i .u64 a15)), (.v (.sl 9 a16)), (.v (.b a17)), (.v (.i .i64 a18)), (.v (.sl 29 a19))])], [] => some (a0, a1, a2, a3, a4, a5, a6, a7, a8, a9, a10, a11, a12, a13, a14, a15, a16, a17, a18, a19)
    | _, _, _, _, _, _ => none
  slS := fun (a0, a1, a2, a3, a4, a5, a6, a7, a8, a9, a10, a11, a12, a13, a14, a15, a16, a17, a18, a19) => [(7, (.ptr 0 0)), (8, (.v (.i .i64 a0))), (9, (.ptr 1 0)), (10, (.v (.i .i64 a1)))]
  obS := fun (a0, a1, a2, a3, a4, a5, a6, a7, a8, a9, a10, a11, a12, a13, a14, a15, a16, a17, a18, a19) => [(.cells 29 none [(.v (.s a2)), (.v (.i .i64 a3)), (.v (.i .i64 a4)), (.v (.i .u64 a5)), (.v (.i .u64 a6)), (.v (.sl 9 a7)), (.v (.b a8)), (.v (.i .i64 a9)), (.v (.sl 29 a10))]), (.cells 29 none [(.v (.s a11)), (.v (.i .i64 a12)), (.v (.i .i64 a13)), (.v (.i .u64 a14)), (.v (.i .u64 a15)), (.v (.sl 9 a16)), (.v (.b a17)), (.v (.i .i64 a18)), (.v (.sl 29 a19))])]
  dsS := fun (a0, a1, a2, a3, a4, a5, a6, a7, a8, a9, a10, a11, a12, a13, a14, a15, a16, a17, a18, a19) => []
  dcE x env H ds := match x, env 4, H, ds with
    | .normal, (.v (.b a0)), [], [] => some a0
    | _, _, _, _ => none
  exE := fun a0 => .normal
  slE := fun a0 => [(4, (.v (.b a0)))]
  obE := fun a0 => []
  dsE := fun a0 => []
  goE := fun _ a0 k => k .normal [(4, (.v (.b a0)))] [] []
theorem p_tollbarlaw15_PathFronts_2_ok : PieceOk p_tollbarlaw15_PathFronts_2 := by
  refine ⟨fun env H ds s h => ?_, fun x env H ds e h => ?_, fun R e k => by kernel_rfl⟩
  · simp only [p_tollbarlaw15_PathFronts_2] at h ⊢; split at h <;> first | (cases h; simp only [List.forall_mem_cons]; simp_all; done) | (cases h; done)
  · simp only [p_tollbarlaw15_PathFronts_2] at h ⊢; split at h <;> first | (cases h; simp only [List.forall_mem_cons]; simp_all; done) | (cases h; done)
theorem p_tollbarlaw15_PathFronts_2_ct (κ : Nat) (m : Int) : CutOk Tryd.prog C (G m) Tryd.f4.ntmps 0 (pieceOf (.reg 10) (getBody Tryd.f4)) (p_tollbarlaw15_PathFronts_2.cut (gcN 0 [7, 8, 9, 10]) (fun (a0, a1, a2, a3, a4, a5, a6, a7, a8, a9, a10, a11, a12, a13, a14, a15, a16, a17, a18, a19) => tollbarlaw15_PathFronts.v2 κ a0 a1 a2 a3 a4 a5 a6 a7 a8 a9 a10 a11 a12 a13 a14 a15 a16 a17 a18 a19)) :=
  Piece.join p_tollbarlaw15_PathFronts_2_ok C_ok mixed (gam31_ok κ m) gcN_ok (xN_ok gcN_ok (ex_nil) gcN_ok gcN_ok) (cut := (ct_tollbarlaw15_PathFronts_1 κ)) (X := (xN (gcN 0 [4]) [] (gcN 0 [4]) (gcN 0 [1000000]))) (cuts_by (l := []) (by kernel_rfl) (all_nil)) (fun s => by kernel_rfl)
def cc_tollbarlaw15_PathFronts_3 (κ : Nat) : Cut T := p_tollbarlaw15_PathFronts_2.cut (gcN 0 [7, 8, 9, 10]) (fun (a0, a1, a2, a3, a4, a5, a6, a7, a8, a9, a10, a11, a12, a13, a14, a15, a16, a17, a18, a19) => tollbarlaw15_PathFronts.v2 κ a0 a1 a2 a3 a4 a5 a6 a7 a8 a9 a10 a11 a12 a13 a14 a15 a16 a17 a18 a19)
theorem cc_tollbarlaw15_PathFronts_3_ok (κ : Nat) (m : Int) : CutOk Tryd.prog C (G m) Tryd.f4.ntmps 0 (pieceOf (.reg 10) (getBody Tryd.f4)) (cc_tollbarlaw15_PathFronts_3 κ) := p_tollbarlaw15_PathFronts_2_ct κ m
def ct_tollbarlaw15_PathFronts_3 (κ : Nat) : Key → Option (Cut T) := addCut (ct_tollbarlaw15_PathFronts_1 κ) (.reg 10) (cc_tollbarlaw15_PathFronts_3 κ)
def p_tollbarlaw15_PathFronts_4 : Piece T ((List ApiStep) × Int × Int × Bool × ByteArray × Int × Int × Int × Int × (List ByteArray) × Bool × Int × (List SpecSpec) × ByteArray × Int × Int × Int × Int × (List ByteArray) × Bool × Int × (List SpecSpec)) (Bool) where
  dcS env H ds := match env 1, env 6, env 7, env 9, env 11, env 12, H, ds with
    | (.v (.sl 46 a0)), (.v (.i .i64 a1)), (.ptr 0 0), (.ptr 1 0), (.v (.i .i64 a2)), (.v (.b a3)), [(.cells 29 none [(.v (.s a4)), (.v (.i .i64 a5)), (.v (.i .i64 a6)), (.v (.i .u64 a7)), (.v (.i .u64 a8)), (.v (.sl 9 a9)), (.v (.b a10)), (.v (.i .i64 a11)), (.v (.sl 29 a12))]), (.cells 29 none [(.v (.s a13)), (.v (.i .i64 a14)), (.v (.i .i64 a15)), (.v (.i .u64 a16)), (.v (.i .u64 a17)), (.v (.sl 9 a18)), (.v (.b a19)), (.v (.i .i64 a20)), (.v (.sl 29 a21))])], [] => some (a0, a1, a2, a3, a4, a5, a6, a7, a8, a9, a10, a11, a12, a13, a14, a15, a16, a17, a18, a19, a20, a21)
    | _, _, _, _, _, _, _, _ => none
  slS := fun (a0, a1, a2, a3, a4, a5, a6, a7, a8, a9, a10, a11, a12, a13, a14, a15, a16, a17, a18, a19, a20, a21) => [(1, (.v (.sl 46 a0))), (6, (.v (.i .i64 a1))), (7, (.ptr 0 0)), (9, (.ptr 1 0)), (11, (.v (.i .i64 a2))), (12, (.v (.b a3)))]
  obS := fun (a0, a1, a2, a3, a4, a5, a6, a7, a8, a9, a10, a11, a12, a13, a14, a15, a16, a17, a18, a19, a20, a21) => [(.cells 29 none [(.v (.s a4)), (.v (.i .i64 a5)), (.v (.i .i64 a6)), (.v (.i .u64 a7)), (.v (.i .u64 a8)), (.v (.sl 9 a9)), (.v (.b a10)), (.v (.i .i64 a11)), (.v (.sl 29 a12))]), (.cells 29 none [(.v (.s a13)), (.v (.i .i64 a14)), (.v (.i .i64 a15)), (.v (.i .u64 a16)), (.v (.i .u64 a17)), (.v (.sl 9 a18)), (.v (.b a19)), (.v (.i .i64 a20)), (.v (.sl 29 a21))])]
  dsS := fun (a0, a1, a2, a3, a4, a5, a6, a7, a8, a9, a10, a11, a12, a13, a14, a15, a16, a17, a18, a19, a20, a21) => []
  dcE x env H ds := match x, env 4, H, ds with
    | .normal, (.v (.b a0)), [], [] => some a0
    | _, _, _, _ => none
  exE := fun a0 => .normal
  slE := fun a0 => [(4, (.v (.b a0)))]
  obE := fun a0 => []
  dsE := fun a0 => []
  goE := fun _ a0 k => k .normal [(4, (.v (.b a0)))] [] []
theorem p_tollbarlaw15_PathFronts_4_ok : PieceOk p_tollbarlaw15_PathFronts_4 := by
  refine ⟨fun env H ds s h => ?_, fun x env H ds e h => ?_, fun R e k => by kernel_rfl⟩
  · simp only [p_tollbarlaw15_PathFronts_4] at h ⊢; split at h <;> first | (cases h; simp only [List.forall_mem_cons]; simp_all; done) | (cases h; done)
  · simp only [p_tollbarlaw15_PathFronts_4] at h ⊢; split at h <;> first | (cases h; simp only [List.forall_mem_cons]; simp_all; done) | (cases h; done)
theorem p_tollbarlaw15_PathFronts_4_ct (κ : Nat) (m : Int) : CutOk Tryd.prog C (G m) Tryd.f4.ntmps 0 (pieceOf (.reg 16) (getBody Tryd.f4)) (p_tollbarlaw15_PathFronts_4.cut (gcN 0 [1, 6, 7, 9, 11, 12]) (fun (a0, a1, a2, a3, a4, a5, a6, a7, a8, a9, a10, a11, a12, a13, a14, a15, a16, a17, a18, a19, a20, a21) => tollbarlaw15_PathFronts.v4 κ a0 a1 a2 a3 a4 a5 a6 a7 a8 a9 a10 a11 a12 a13 a14 a15 a16 a17 a18 a19 a20 a21)) :=
  Piece.join p_tollbarlaw15_PathFronts_4_ok C_ok mixed (gam31_ok κ m) gcN_ok (xN_ok gcN_ok (ex_nil) gcN_ok gcN_ok) (cut := (ct_tollbarlaw15_PathFronts_3 κ)) (X := (xN (gcN 0 [4]) [] (gcN 0 [4]) (gcN 0 [1000000]))) (cuts_by (l := []) (by kernel_rfl) (all_nil)) (fun s => by kernel_rfl)
def cc_tollbarlaw15_PathFronts_5 (κ : Nat) : Cut T := p_tollbarlaw15_PathFronts_4.cut (gcN 0 [1, 6, 7, 9, 11, 12]) (fun (a0, a1, a2, a3, a4, a5, a6, a7, a8, a9, a10, a11, a12, a13, a14, a15, a16, a17, a18, a19, a20, a21) => tollbarlaw15_PathFronts.v4 κ a0 a1 a2 a3 a4 a5 a6 a7 a8 a9 a10 a11 a12 a13 a14 a15 a16 a17 a18 a19 a20 a21)
theorem cc_tollbarlaw15_PathFronts_5_ok (κ : Nat) (m : Int) : CutOk Tryd.prog C (G m) Tryd.f4.ntmps 0 (pieceOf (.reg 16) (getBody Tryd.f4)) (cc_tollbarlaw15_PathFronts_5 κ) := p_tollbarlaw15_PathFronts_4_ct κ m
def ct_tollbarlaw15_PathFronts_5 (κ : Nat) : Key → Option (Cut T) := addCut (ct_tollbarlaw15_PathFronts_3 κ) (.reg 16) (cc_tollbarlaw15_PathFronts_5 κ)
def p_tollbarlaw15_PathFronts_6 : Piece T ((List ApiStep) × Int × Int × Bool) (Bool) where
  dcS env H ds := match env 1, env 6, env 10, env 12, H, ds with
    | (.v (.sl 46 a0)), (.v (.i .i64 a1)), (.v (.i .i64 a2)), (.v (.b a3)), [], [] => some (a0, a1, a2, a3)
    | _, _, _, _, _, _ => none
  slS := fun (a0, a1, a2, a3) => [(1, (.v (.sl 46 a0))), (6, (.v (.i .i64 a1))), (10, (.v (.i .i64 a2))), (12, (.v (.b a3)))]
  obS := fun (a0, a1, a2, a3) => []
  dsS := fun (a0, a1, a2, a3) => []
  dcE x env H ds := match x, env 4, H, ds with
    | .normal, (.v (.b a0)), [], [] => some a0
    | _, _, _, _ => none
  exE := fun a0 => .normal
  slE := fun a0 => [(4, (.v (.b a0)))]
  obE := fun a0 => []
  dsE := fun a0 => []
  goE := fun _ a0 k => k .normal [(4, (.v (.b a0)))] [] []
theorem p_tollbarlaw15_PathFronts_6_ok : PieceOk p_tollbarlaw15_PathFronts_6 := by
  refine ⟨fun env H ds s h => ?_, fun x env H ds e h => ?_, fun R e k => by kernel_rfl⟩
  · simp only [p_tollbarlaw15_PathFronts_6] at h ⊢; split at h <;> first | (cases h; simp only [List.forall_mem_cons]; simp_all; done) | (cases h; done)
  · simp only [p_tollbarlaw15_PathFronts_6] at h ⊢; split at h <;> first | (cases h; simp only [List.forall_mem_cons]; simp_all; done) | (cases h; done)
theorem p_tollbarlaw15_PathFronts_6_ct (κ : Nat) (m : Int) : CutOk Tryd.prog C (G m) Tryd.f4.ntmps 0 (pieceOf (.reg 17) (getBody Tryd.f4)) (p_tollbarlaw15_PathFronts_6.cut (gcN 0 [1, 6, 10, 12]) (fun (a0, a1, a2, a3) => tollbarlaw15_PathFronts.v6 κ a0 a1 a2 a3)) :=
  Piece.join p_tollbarlaw15_PathFronts_6_ok C_ok mixed (gam31_ok κ m) gcN_ok (xN_ok gcN_ok (ex_nil) gcN_ok gcN_ok) (cut := (ct_tollbarlaw15_PathFronts_5 κ)) (X := (xN (gcN 0 [4]) [] (gcN 0 [4]) (gcN 0 [1000000]))) (cuts_by (l := []) (by kernel_rfl) (all_nil)) (fun s => by kernel_rfl)
def cc_tollbarlaw15_PathFronts_7 (κ : Nat) : Cut T := p_tollbarlaw15_PathFronts_6.cut (gcN 0 [1, 6, 10, 12]) (fun (a0, a1, a2, a3) => tollbarlaw15_PathFronts.v6 κ a0 a1 a2 a3)
theorem cc_tollbarlaw15_PathFronts_7_ok (κ : Nat) (m : Int) : CutOk Tryd.prog C (G m) Tryd.f4.ntmps 0 (pieceOf (.reg 17) (getBody Tryd.f4)) (cc_tollbarlaw15_PathFronts_7 κ) := p_tollbarlaw15_PathFronts_6_ct κ m
def ct_tollbarlaw15_PathFronts_7 (κ : Nat) : Key → Option (Cut T) := addCut (ct_tollbarlaw15_PathFronts_5 κ) (.reg 17) (cc_tollbarlaw15_PathFronts_7 κ)
def sp_tollbarlaw15_PathFronts : Spec T (Int × (List ApiStep)) (Bool) where
  dcI a H := match a, H with
    | [(.v (.i .i64 a0)), (.v (.sl 46 a1))], [] => some (a0, a1)
    | _, _ => none
  ecA := fun (a0, a1) => [(.v (.i .i64 a0)), (.v (.sl 46 a1))]
  ecH := fun (a0, a1) => []
  dcO o := match o with
    | .ret (.v (.b a0)) [] => some a0
    | _ => none
  goO := fun _ a0 k => k (.ret (.v (.b a0)) [])
  ecO := fun a0 => .ret (.v (.b a0)) []
theorem sp_tollbarlaw15_PathFronts_ok : SpecOk sp_tollbarlaw15_PathFronts := by
  refine ⟨fun a H i h => ?_, fun o x h => ?_, fun R e k => by kernel_rfl⟩
  · simp only [sp_tollbarlaw15_PathFronts] at h ⊢; split at h <;> first | (cases h; exact ⟨rfl, rfl⟩) | (cases h; done)
  · simp only [sp_tollbarlaw15_PathFronts] at h ⊢; split at h <;> first | (cases h; rfl) | (cases h; done)
theorem ok_tollbarlaw15_PathFronts (κ : Nat) (m : Int) : EOk Tryd.prog C (G m) 4 (sp_tollbarlaw15_PathFronts.entry (fun (a0, a1) => tollbarlaw15_PathFronts κ a0 a1)) :=
  Spec.ok sp_tollbarlaw15_PathFronts_ok C_ok mixed (gam31_ok κ m) (cut := (ct_tollbarlaw15_PathFronts_7 κ)) (NR := (gcN 0 [0])) (NP := (gcN 0 [0])) (nB := 0) Tryd.func4 (c := (getBody Tryd.f4)) (by kernel_rfl) (by kernel_rfl) (fun i => by kernel_rfl) gcN_ok gcN_ok (cuts_by (l := [(pieceOf (.reg 4) (getBody Tryd.f4), cc_tollbarlaw15_PathFronts_1 κ), (pieceOf (.reg 10) (getBody Tryd.f4), cc_tollbarlaw15_PathFronts_3 κ), (pieceOf (.reg 16) (getBody Tryd.f4), cc_tollbarlaw15_PathFronts_5 κ), (pieceOf (.reg 17) (getBody Tryd.f4), cc_tollbarlaw15_PathFronts_7 κ)]) (by kernel_rfl) (all_cons (cc_tollbarlaw15_PathFronts_1_ok κ m) (all_cons (cc_tollbarlaw15_PathFronts_3_ok κ m) (all_cons (cc_tollbarlaw15_PathFronts_5_ok κ m) (all_cons (cc_tollbarlaw15_PathFronts_7_ok κ m) (all_nil)))))) (fun i => by kernel_rfl)
noncomputable def gam32 (κ : Nat) : Gam T := (gam31 κ).addS 4 sp_tollbarlaw15_PathFronts (fun (a0, a1) => tollbarlaw15_PathFronts κ a0 a1)
theorem gam32_ok (κ : Nat) (m : Int) : GOk Tryd.prog C (G m) (gam32 κ) := (gam31_ok κ m).addS (ok_tollbarlaw15_PathFronts κ m)
def sp_tollbarref07_num : Spec T (ByteArray × Int × Int × Int) (ByteArray × Int × Int × Int × Int × Bool × Int) where
  dcI a H := match a, H with
    | [(.v (.s a0)), (.v (.i .i64 a1)), (.v (.i .u64 a2)), (.v (.i .u64 a3))], [] => some (a0, a1, a2, a3)
    | _, _ => none
  ecA := fun (a0, a1, a2, a3) => [(.v (.s a0)), (.v (.i .i64 a1)), (.v (.i .u64 a2)), (.v (.i .u64 a3))]
  ecH := fun (a0, a1, a2, a3) => []
  dcO o := match o with
    | .ret (.agg [(.v (.s a0)), (.v (.i .i64 a1)), (.v (.i .i64 a2)), (.v (.i .u64 a3)), (.v (.i .u64 a4)), .cap0, (.v (.b a5)), (.v (.i .i64 a6)), .cap0]) [] => some (a0, a1, a2, a3, a4, a5, a6)
    | _ => none
  goO := fun _ (a0, a1, a2, a3, a4, a5, a6) k => k (.ret (.agg [(.v (.s a0)), (.v (.i .i64 a1)), (.v (.i .i64 a2)), (.v (.i .u64 a3)), (.v (.i .u64 a4)), .cap0, (.v (.b a5)), (.v (.i .i64 a6)), .cap0]) [])
  ecO := fun (a0, a1, a2, a3, a4, a5, a6) => .ret (.agg [(.v (.s a0)), (.v (.i .i64 a1)), (.v (.i .i64 a2)), (.v (.i .u64 a3)), (.v (.i .u64 a4)), .cap0, (.v (.b a5)), (.v (.i .i64 a6)), .cap0]) []
theorem sp_tollbarref07_num_ok : SpecOk sp_tollbarref07_num := by
  refine ⟨fun a H i h => ?_, fun o x h => ?_, fun R e k => by kernel_rfl⟩
  · simp only [sp_tollbarref07_num] at h ⊢; split at h <;> first | (cases h; exact ⟨rfl, rfl⟩) | (cases h; done)
  · simp only [sp_tollbarref07_num] at h ⊢; split at h <;> first | (cases h; rfl) | (cases h; done)
theorem ok_tollbarref07_num (κ : Nat) (m : Int) : EOk Tryd.prog C (G m) 32 (sp_tollbarref07_num.entry (fun (a0, a1, a2, a3) => tollbarref07_num κ a0 a1 a2 a3)) :=
  Spec.ok sp_tollbarref07_num_ok C_ok mixed (gam32_ok κ m) (cut := noCut) (NR := (gcN 0 [0])) (NP := (gcN 0 [0])) (nB := 0) Tryd.func32 (c := (getBody Tryd.f32)) (by kernel_rfl) (by kernel_rfl) (fun i => by kernel_rfl) gcN_ok gcN_ok (cuts_by (l := []) (by kernel_rfl) (all_nil)) (fun i => by kernel_rfl)
noncomputable def gam33 (κ : Nat) : Gam T := (gam32 κ).addS 32 sp_tollbarref07_num (fun (a0, a1, a2, a3) => tollbarref07_num κ a0 a1 a2 a3)
theorem gam33_ok (κ : Nat) (m : Int) : GOk Tryd.prog C (G m) (gam33 κ) := (gam32_ok κ m).addS (ok_tollbarref07_num κ m)
end Go.Proofs.YtooefkbecoopdaaDoor.Ev.Seat
