import Derived.Test.YthmohmmbhjpbcaaGreatDoorEvPlain
set_option linter.unusedVariables false
set_option linter.unusedSimpArgs false
set_option maxHeartbeats 1000000
namespace Go.Proofs.YthmohmmbhjpbcaaGreatDoor.Ev.Seat
open Go Ev Go.Proofs
noncomputable def gamB (κ : Nat) : Gam T := ((gamScal (gamLib gam0 κ) κ).addS 33 sp_spec_Root spec_Root).give []
theorem gamB_ok (κ : Nat) (m : Int) : GOk Tryz.prog C (G m) (gamB κ) := ((gamScal_ok κ m (gamLib_ok κ m gam0_ok)).addS (ok_spec_Root m)).give
def p_internal_stringslite_HasSuffix_0 : Piece T (ByteArray × ByteArray) (Bool) where
 dcS env H ds := match env 0, env 1, H, ds with
  | .v (.s a0), .v (.s a1), [], [] => some (a0, a1)
  | _, _, _, _ => none
 slS := fun (a0, a1) => [(0, .v (.s a0)), (1, .v (.s a1))]
 obS := fun _ => []
 dsS := fun _ => []
 dcE x env H ds := match x, env 4, H, ds with
  | .normal, .v (.b a0), [], [] => some a0
  | _, _, _, _ => none
 exE := fun a0 => .normal
 slE := fun a0 => [(4, .v (.b a0))]
 obE := fun a0 => []
 dsE := fun a0 => []
 goE := fun _ a0 k => k .normal [(4, .v (.b a0))] [] []
theorem p_internal_stringslite_HasSuffix_0_ok : PieceOk p_internal_stringslite_HasSuffix_0 := by
 refine ⟨fun env H ds s h => ?_, fun x env H ds e h => ?_, fun R e k => by kernel_rfl⟩ <;> (simp only [p_internal_stringslite_HasSuffix_0] at h ⊢; split at h <;> first | (cases h; simp only [List.forall_mem_cons]; simp_all; done) | (cases h; done))
theorem p_internal_stringslite_HasSuffix_0_ct (κ : Nat) (m : Int) : CutOk Tryz.prog C (G m) Tryz.f76.ntmps 0 (pieceOf (.reg 1) (getBody Tryz.f76)) (p_internal_stringslite_HasSuffix_0.cut (gcN 0 [0, 1]) (fun (a0, a1) => internal_stringslite_HasSuffix.v0 κ a0 a1)) :=
 Piece.join p_internal_stringslite_HasSuffix_0_ok C_ok mixed (gamB_ok κ m) gcN_ok (xN_ok gcN_ok (ex_nil) gcN_ok gcN_ok) (cut := noCut) (X := (xN (gcN 0 [4]) [] (gcN 0 [4]) (gcN 0 [1000000]))) (cuts_by (l := []) (by kernel_rfl) (all_nil)) (fun s => by kernel_rfl)
def cc_internal_stringslite_HasSuffix_1 (κ : Nat) : Cut T := p_internal_stringslite_HasSuffix_0.cut (gcN 0 [0, 1]) (fun (a0, a1) => internal_stringslite_HasSuffix.v0 κ a0 a1)
theorem cc_internal_stringslite_HasSuffix_1_ok (κ : Nat) (m : Int) : CutOk Tryz.prog C (G m) Tryz.f76.ntmps 0 (pieceOf (.reg 1) (getBody Tryz.f76)) (cc_internal_stringslite_HasSuffix_1 κ) := p_internal_stringslite_HasSuffix_0_ct κ m
def ct_internal_stringslite_HasSuffix_1 (κ : Nat) : Key → Option (Cut T) := addCut noCut (.reg 1) (cc_internal_stringslite_HasSuffix_1 κ)
def sp_internal_stringslite_HasSuffix : Spec T (ByteArray × ByteArray) (Bool) where
 dcI a H := match a, H with
  | [.v (.s a0), .v (.s a1)], [] => some (a0, a1)
  | _, _ => none
 ecA := fun (a0, a1) => [.v (.s a0), .v (.s a1)]
 ecH := fun _ => []
 dcO o := match o with
  | .ret (.v (.b a0)) [] => some a0
  | _ => none
 goO := fun _ a0 k => k (.ret (.v (.b a0)) [])
 ecO := fun a0 => .ret (.v (.b a0)) []
theorem sp_internal_stringslite_HasSuffix_ok : SpecOk sp_internal_stringslite_HasSuffix := by
 refine ⟨fun a H i h => ?_, fun o x h => ?_, fun R e k => by kernel_rfl⟩ <;> (simp only [sp_internal_stringslite_HasSuffix] at h ⊢; split at h <;> first | (cases h; exact ⟨rfl, rfl⟩) | (cases h; rfl) | (cases h; done))
theorem ok_internal_stringslite_HasSuffix (κ : Nat) (m : Int) : EOk Tryz.prog C (G m) 76 (sp_internal_stringslite_HasSuffix.entry (fun (a0, a1) => internal_stringslite_HasSuffix κ a0 a1)) :=
 Spec.ok sp_internal_stringslite_HasSuffix_ok C_ok mixed (gamB_ok κ m) (cut := (ct_internal_stringslite_HasSuffix_1 κ)) (NR := (gcN 0 [0])) (NP := (gcN 0 [0])) (nB := 0) Tryz.func76 (c := (getBody Tryz.f76)) (by kernel_rfl) (by kernel_rfl) (fun i => by kernel_rfl) gcN_ok gcN_ok (cuts_by (l := [(pieceOf (.reg 1) (getBody Tryz.f76), cc_internal_stringslite_HasSuffix_1 κ)]) (by kernel_rfl) (all_cons (cc_internal_stringslite_HasSuffix_1_ok κ m) (all_nil))) (fun i => by kernel_rfl)
noncomputable def gam1 (κ : Nat) : Gam T := (gamB κ).addS 76 sp_internal_stringslite_HasSuffix (fun (a0, a1) => internal_stringslite_HasSuffix κ a0 a1)
theorem gam1_ok (κ : Nat) (m : Int) : GOk Tryz.prog C (G m) (gam1 κ) := (gamB_ok κ m).addS (ok_internal_stringslite_HasSuffix κ m)
def sp_internal_stringslite_CutSuffix : Spec T (ByteArray × ByteArray) (ByteArray × Bool) where
 dcI a H := match a, H with
  | [.v (.s a0), .v (.s a1)], [] => some (a0, a1)
  | _, _ => none
 ecA := fun (a0, a1) => [.v (.s a0), .v (.s a1)]
 ecH := fun _ => []
 dcO o := match o with
  | .ret (.tup [.v (.s a0), .v (.b a1)]) [] => some (a0, a1)
  | _ => none
 goO := fun _ (a0, a1) k => k (.ret (.tup [.v (.s a0), .v (.b a1)]) [])
 ecO := fun (a0, a1) => .ret (.tup [.v (.s a0), .v (.b a1)]) []
theorem sp_internal_stringslite_CutSuffix_ok : SpecOk sp_internal_stringslite_CutSuffix := by
 refine ⟨fun a H i h => ?_, fun o x h => ?_, fun R e k => by kernel_rfl⟩ <;> (simp only [sp_internal_stringslite_CutSuffix] at h ⊢; split at h <;> first | (cases h; exact ⟨rfl, rfl⟩) | (cases h; rfl) | (cases h; done))
theorem ok_internal_stringslite_CutSuffix (κ : Nat) (m : Int) : EOk Tryz.prog C (G m) 63 (sp_internal_stringslite_CutSuffix.entry (fun (a0, a1) => internal_stringslite_CutSuffix κ a0 a1)) :=
 Spec.ok sp_internal_stringslite_CutSuffix_ok C_ok mixed (gam1_ok κ m) (cut := noCut) (NR := (gcN 0 [0])) (NP := (gcN 0 [0])) (nB := 0) Tryz.func63 (c := (getBody Tryz.f63)) (by kernel_rfl) (by kernel_rfl) (fun i => by kernel_rfl) gcN_ok gcN_ok (cuts_by (l := []) (by kernel_rfl) (all_nil)) (fun i => by kernel_rfl)
noncomputable def gam2 (κ : Nat) : Gam T := (gam1 κ).addS 63 sp_internal_stringslite_CutSuffix (fun (a0, a1) => internal_stringslite_CutSuffix κ a0 a1)
theorem gam2_ok (κ : Nat) (m : Int) : GOk Tryz.prog C (G m) (gam2 κ) := (gam1_ok κ m).addS (ok_internal_stringslite_CutSuffix κ m)
def sp_strings_CutSuffix : Spec T (ByteArray × ByteArray) (ByteArray × Bool) where
 dcI a H := match a, H with
  | [.v (.s a0), .v (.s a1)], [] => some (a0, a1)
  | _, _ => none
 ecA := fun (a0, a1) => [.v (.s a0), .v (.s a1)]
 ecH := fun _ => []
 dcO o := match o with
  | .ret (.tup [.v (.s a0), .v (.b a1)]) [] => some (a0, a1)
  | _ => none
 goO := fun _ (a0, a1) k => k (.ret (.tup [.v (.s a0), .v (.b a1)]) [])
 ecO := fun (a0, a1) => .ret (.tup [.v (.s a0), .v (.b a1)]) []
theorem sp_strings_CutSuffix_ok : SpecOk sp_strings_CutSuffix := by
 refine ⟨fun a H i h => ?_, fun o x h => ?_, fun R e k => by kernel_rfl⟩ <;> (simp only [sp_strings_CutSuffix] at h ⊢; split at h <;> first | (cases h; exact ⟨rfl, rfl⟩) | (cases h; rfl) | (cases h; done))
theorem ok_strings_CutSuffix (κ : Nat) (m : Int) : EOk Tryz.prog C (G m) 50 (sp_strings_CutSuffix.entry (fun (a0, a1) => strings_CutSuffix κ a0 a1)) :=
 Spec.ok sp_strings_CutSuffix_ok C_ok mixed (gam2_ok κ m) (cut := noCut) (NR := (gcN 0 [0])) (NP := (gcN 0 [0])) (nB := 0) Tryz.func50 (c := (getBody Tryz.f50)) (by kernel_rfl) (by kernel_rfl) (fun i => by kernel_rfl) gcN_ok gcN_ok (cuts_by (l := []) (by kernel_rfl) (all_nil)) (fun i => by kernel_rfl)
noncomputable def gam3 (κ : Nat) : Gam T := (gam2 κ).addS 50 sp_strings_CutSuffix (fun (a0, a1) => strings_CutSuffix κ a0 a1)
theorem gam3_ok (κ : Nat) (m : Int) : GOk Tryz.prog C (G m) (gam3 κ) := (gam2_ok κ m).addS (ok_strings_CutSuffix κ m)
noncomputable def cc_scalar_ShowRate_0 (κ : Nat) (m : Int) : Cut T := fun R env H ds K => loopU C Tryz.prog (G m) (gam3 κ) Tryz.f39.ntmps noCut 0 (bodyOf (pieceOf (.blk 0) (getBody Tryz.f39))) 3 env H ds K
theorem cc_scalar_ShowRate_0_ok (κ : Nat) (m : Int) : CutOk Tryz.prog C (G m) Tryz.f39.ntmps 0 (pieceOf (.blk 0) (getBody Tryz.f39)) (cc_scalar_ShowRate_0 κ m) := loopU_ok C_ok (gam3_ok κ m) mixed (cuts_by (l := []) (by kernel_rfl) all_nil) 3
noncomputable def ct_scalar_ShowRate_0 (κ : Nat) (m : Int) : Key → Option (Cut T) := addCut noCut (.blk 0) (cc_scalar_ShowRate_0 κ m)
def sp_scalar_ShowRate : Spec T (Int) (ByteArray) where
 dcI a H := match a, H with
  | [.v (.i .u64 a0)], [] => some a0
  | _, _ => none
 ecA := fun a0 => [.v (.i .u64 a0)]
 ecH := fun a0 => []
 dcO o := match o with
  | .ret (.v (.s a0)) [] => some a0
  | _ => none
 goO := fun _ a0 k => k (.ret (.v (.s a0)) [])
 ecO := fun a0 => .ret (.v (.s a0)) []
theorem sp_scalar_ShowRate_ok : SpecOk sp_scalar_ShowRate := by
 refine ⟨fun a H i h => ?_, fun o x h => ?_, fun R e k => by kernel_rfl⟩ <;> (simp only [sp_scalar_ShowRate] at h ⊢; split at h <;> first | (cases h; exact ⟨rfl, rfl⟩) | (cases h; rfl) | (cases h; done))
theorem ok_scalar_ShowRate (κ : Nat) (m : Int) : EOk Tryz.prog C (G m) 39 (sp_scalar_ShowRate.entry (fun a0 => scalar_ShowRate κ a0)) :=
 Spec.ok sp_scalar_ShowRate_ok C_ok mixed (gam3_ok κ m) (cut := (ct_scalar_ShowRate_0 κ m)) (NR := (gcN 0 [0])) (NP := (gcN 0 [0])) (nB := 0) Tryz.func39 (c := (getBody Tryz.f39)) (by kernel_rfl) (by kernel_rfl) (fun i => by kernel_rfl) gcN_ok gcN_ok (cuts_by (l := [(pieceOf (.blk 0) (getBody Tryz.f39), cc_scalar_ShowRate_0 κ m)]) (by kernel_rfl) (all_cons (cc_scalar_ShowRate_0_ok κ m) (all_nil))) (fun i => by kernel_rfl)
noncomputable def gam4 (κ : Nat) : Gam T := (gam3 κ).addS 39 sp_scalar_ShowRate (fun a0 => scalar_ShowRate κ a0)
theorem gam4_ok (κ : Nat) (m : Int) : GOk Tryz.prog C (G m) (gam4 κ) := (gam3_ok κ m).addS (ok_scalar_ShowRate κ m)
noncomputable def cc_scalar_Rate_0 (κ : Nat) (m : Int) : Cut T := fun R env H ds K => loopU C Tryz.prog (G m) (gam4 κ) Tryz.f40.ntmps noCut 0 (bodyOf (pieceOf (.blk 0) (getBody Tryz.f40))) 3 env H ds K
theorem cc_scalar_Rate_0_ok (κ : Nat) (m : Int) : CutOk Tryz.prog C (G m) Tryz.f40.ntmps 0 (pieceOf (.blk 0) (getBody Tryz.f40)) (cc_scalar_Rate_0 κ m) := loopU_ok C_ok (gam4_ok κ m) mixed (cuts_by (l := []) (by kernel_rfl) all_nil) 3
noncomputable def ct_scalar_Rate_0 (κ : Nat) (m : Int) : Key → Option (Cut T) := addCut noCut (.blk 0) (cc_scalar_Rate_0 κ m)
def p_scalar_Rate_1 : Piece T (Int × Int × Bool × Int) (Int × Bool) where
 dcS env H ds := match env 4, env 9, env 10, env 11, H, ds with
  | .v (.i .u64 a0), .v (.i .u64 a1), .v (.b a2), .v (.i .u64 a3), [], [] => some (a0, a1, a2, a3)
  | _, _, _, _, _, _ => none
 slS := fun (a0, a1, a2, a3) => [(4, .v (.i .u64 a0)), (9, .v (.i .u64 a1)), (10, .v (.b a2)), (11, .v (.i .u64 a3))]
 obS := fun _ => []
 dsS := fun _ => []
 dcE x env H ds := match x, env 11, env 43, H, ds with
  | .normal, .v (.i .u64 a0), .v (.b a1), [], [] => some (a0, a1)
  | _, _, _, _, _ => none
 exE := fun _ => .normal
 slE := fun (a0, a1) => [(11, .v (.i .u64 a0)), (43, .v (.b a1))]
 obE := fun _ => []
 dsE := fun _ => []
 goE := fun _ (a0, a1) k => k .normal [(11, .v (.i .u64 a0)), (43, .v (.b a1))] [] []
theorem p_scalar_Rate_1_ok : PieceOk p_scalar_Rate_1 := by
 refine ⟨fun env H ds s h => ?_, fun x env H ds e h => ?_, fun R e k => by kernel_rfl⟩ <;> (simp only [p_scalar_Rate_1] at h ⊢; split at h <;> first | (cases h; simp only [List.forall_mem_cons]; simp_all; done) | (cases h; done))
theorem p_scalar_Rate_1_ct (κ : Nat) (m : Int) : CutOk Tryz.prog C (G m) Tryz.f40.ntmps 0 (pieceOf (.reg 11) (getBody Tryz.f40)) (p_scalar_Rate_1.cut (gcN 0 [4, 9, 10, 11]) (fun (a0, a1, a2, a3) => scalar_Rate.v1 κ a0 a1 a2 a3)) :=
 Piece.join p_scalar_Rate_1_ok C_ok mixed (gam4_ok κ m) gcN_ok (xN_ok gcN_ok (ex_nil) gcN_ok gcN_ok) (cut := (ct_scalar_Rate_0 κ m)) (X := (xN (gcN 0 [11, 43]) [] (gcN 0 [2, 3]) (gcN 0 [1000000]))) (cuts_by (l := []) (by kernel_rfl) (all_nil)) (fun s => by kernel_rfl)
def cc_scalar_Rate_2 (κ : Nat) : Cut T := p_scalar_Rate_1.cut (gcN 0 [4, 9, 10, 11]) (fun (a0, a1, a2, a3) => scalar_Rate.v1 κ a0 a1 a2 a3)
theorem cc_scalar_Rate_2_ok (κ : Nat) (m : Int) : CutOk Tryz.prog C (G m) Tryz.f40.ntmps 0 (pieceOf (.reg 11) (getBody Tryz.f40)) (cc_scalar_Rate_2 κ) := p_scalar_Rate_1_ct κ m
noncomputable def ct_scalar_Rate_2 (κ : Nat) (m : Int) : Key → Option (Cut T) := addCut (ct_scalar_Rate_0 κ m) (.reg 11) (cc_scalar_Rate_2 κ)
def sp_scalar_Rate : Spec T (ByteArray) (Int × Bool) where
 dcI a H := match a, H with
  | [.v (.s a0)], [] => some a0
  | _, _ => none
 ecA := fun a0 => [.v (.s a0)]
 ecH := fun a0 => []
 dcO o := match o with
  | .ret (.tup [.v (.i .u64 a0), .v (.b a1)]) [] => some (a0, a1)
  | _ => none
 goO := fun _ (a0, a1) k => k (.ret (.tup [.v (.i .u64 a0), .v (.b a1)]) [])
 ecO := fun (a0, a1) => .ret (.tup [.v (.i .u64 a0), .v (.b a1)]) []
theorem sp_scalar_Rate_ok : SpecOk sp_scalar_Rate := by
 refine ⟨fun a H i h => ?_, fun o x h => ?_, fun R e k => by kernel_rfl⟩ <;> (simp only [sp_scalar_Rate] at h ⊢; split at h <;> first | (cases h; exact ⟨rfl, rfl⟩) | (cases h; rfl) | (cases h; done))
theorem ok_scalar_Rate (κ : Nat) (m : Int) : EOk Tryz.prog C (G m) 40 (sp_scalar_Rate.entry (fun a0 => scalar_Rate κ a0)) :=
 Spec.ok sp_scalar_Rate_ok C_ok mixed (gam4_ok κ m) (cut := (ct_scalar_Rate_2 κ m)) (NR := (gcN 0 [0])) (NP := (gcN 0 [0])) (nB := 0) Tryz.func40 (c := (getBody Tryz.f40)) (by kernel_rfl) (by kernel_rfl) (fun i => by kernel_rfl) gcN_ok gcN_ok (cuts_by (l := [(pieceOf (.blk 0) (getBody Tryz.f40), cc_scalar_Rate_0 κ m), (pieceOf (.reg 11) (getBody Tryz.f40), cc_scalar_Rate_2 κ)]) (by kernel_rfl) (all_cons (cc_scalar_Rate_0_ok κ m) (all_cons (cc_scalar_Rate_2_ok κ m) (all_nil)))) (fun i => by kernel_rfl)
noncomputable def gam5 (κ : Nat) : Gam T := (gam4 κ).addS 40 sp_scalar_Rate (fun a0 => scalar_Rate κ a0)
theorem gam5_ok (κ : Nat) (m : Int) : GOk Tryz.prog C (G m) (gam5 κ) := (gam4_ok κ m).addS (ok_scalar_Rate κ m)
def sp_spec_Find_1 : Spec T (ByteArray × Int × Int × Int × Int × (List ByteArray) × Bool × Int × (List SpecSpec) × ByteArray) (Bool × ByteArray) where
 dcI a H := match a, H with
  | [(.agg [.v (.s a0), .v (.i .i64 a1), .v (.i .i64 a2), .v (.i .u64 a3), .v (.i .u64 a4), .v (.sl 9 a5), .v (.b a6), .v (.i .i64 a7), .v (.sl 31 a8)]), .ptr 0 0], [.cells 9 none [.v (.s a9)]] => some (a0, a1, a2, a3, a4, a5, a6, a7, a8, a9)
  | _, _ => none
 ecA := fun (a0, a1, a2, a3, a4, a5, a6, a7, a8, _) => [(.agg [.v (.s a0), .v (.i .i64 a1), .v (.i .i64 a2), .v (.i .u64 a3), .v (.i .u64 a4), .v (.sl 9 a5), .v (.b a6), .v (.i .i64 a7), .v (.sl 31 a8)]), .ptr 0 0]
 ecH := fun (_, _, _, _, _, _, _, _, _, a9) => [.cells 9 none [.v (.s a9)]]
 dcO o := match o with
  | .ret (.v (.b a0)) [.cells 9 none [.v (.s a1)]] => some (a0, a1)
  | _ => none
 goO := fun _ (a0, a1) k => k (.ret (.v (.b a0)) [.cells 9 none [.v (.s a1)]])
 ecO := fun (a0, a1) => .ret (.v (.b a0)) [.cells 9 none [.v (.s a1)]]
theorem sp_spec_Find_1_ok : SpecOk sp_spec_Find_1 := by
 refine ⟨fun a H i h => ?_, fun o x h => ?_, fun R e k => by kernel_rfl⟩ <;> (simp only [sp_spec_Find_1] at h ⊢; split at h <;> first | (cases h; exact ⟨rfl, rfl⟩) | (cases h; rfl) | (cases h; done))
theorem ok_spec_Find_1 (κ : Nat) (m : Int) : EOk Tryz.prog C (G m) 45 (sp_spec_Find_1.entry (fun (a0, a1, a2, a3, a4, a5, a6, a7, a8, a9) => spec_Find_1 κ a0 a1 a2 a3 a4 a5 a6 a7 a8 a9)) :=
 Spec.ok sp_spec_Find_1_ok C_ok mixed (gam5_ok κ m) (cut := noCut) (NR := (gcN 1 [0])) (NP := (gcN 1 [0])) (nB := 1) Tryz.func45 (c := (getBody Tryz.f45)) (by kernel_rfl) (by kernel_rfl) (fun i => by kernel_rfl) gcN_ok gcN_ok (cuts_by (l := []) (by kernel_rfl) (all_nil)) (fun i => by kernel_rfl)
noncomputable def gam6 (κ : Nat) : Gam T := (gam5 κ).addS 45 sp_spec_Find_1 (fun (a0, a1, a2, a3, a4, a5, a6, a7, a8, a9) => spec_Find_1 κ a0 a1 a2 a3 a4 a5 a6 a7 a8 a9)
theorem gam6_ok (κ : Nat) (m : Int) : GOk Tryz.prog C (G m) (gam6 κ) := (gam5_ok κ m).addS (ok_spec_Find_1 κ m)
def p_slices_IndexFunc_0 : Piece T ((List SpecSpec) × Int × Int × ByteArray) ((ByteArray) ⊕ (Int × ByteArray)) where
 dcS env H ds := match env 0, env 1, env 7, env 8, H, ds with
  | .v (.sl 31 a0), (.fn (.func 45) [] [.ptr 0 0]), .v (.i .i64 a1), .v (.i .i64 a2), [.cells 9 none [.v (.s a3)]], [] => some (a0, a1, a2, a3)
  | _, _, _, _, _, _ => none
 slS := fun (a0, a1, a2, _) => [(0, .v (.sl 31 a0)), (1, .fn (.func 45) [] [.ptr 0 0]), (7, .v (.i .i64 a1)), (8, .v (.i .i64 a2))]
 obS := fun (_, _, _, a3) => [.cells 9 none [.v (.s a3)]]
 dsS := fun _ => []
 dcE x env H ds := match x, env 4, H, ds with
  | .normal, _, [.cells 9 none [.v (.s a0)]], [] => some (.inl a0)
  | .ret, .v (.i .i64 a0), [.cells 9 none [.v (.s a1)]], [] => some (.inr (a0, a1))
  | _, _, _, _ => none
 exE := fun x => match x with
  | (.inl a0) => .normal
  | (.inr (a0, a1)) => .ret
 slE := fun x => match x with
  | (.inl a0) => []
  | (.inr (a0, a1)) => [(4, .v (.i .i64 a0))]
 obE := fun x => match x with
  | (.inl a0) => [.cells 9 none [.v (.s a0)]]
  | (.inr (a0, a1)) => [.cells 9 none [.v (.s a1)]]
 dsE := fun x => match x with
  | (.inl a0) => []
  | (.inr (a0, a1)) => []
 goE := fun _ x k => match x with
  | (.inl a0) => k .normal [] [.cells 9 none [.v (.s a0)]] []
  | (.inr (a0, a1)) => k .ret [(4, .v (.i .i64 a0))] [.cells 9 none [.v (.s a1)]] []
theorem p_slices_IndexFunc_0_ok : PieceOk p_slices_IndexFunc_0 := by
 refine ⟨fun env H ds s h => ?_, fun x env H ds e h => ?_, fun R e k => by rcases e with e | e <;> kernel_rfl⟩
 · simp only [p_slices_IndexFunc_0] at h ⊢; split at h <;> first | (cases h; simp only [List.forall_mem_cons]; simp_all; done) | (cases h; done)
 · simp only [p_slices_IndexFunc_0] at h ⊢; split at h <;> first | (cases h; simp only [List.forall_mem_cons]; simp_all; done) | (cases h; done)
theorem p_slices_IndexFunc_0_ct (κ : Nat) (m : Int) : CutOk Tryz.prog C (G m) Tryz.f44.ntmps 1 (pieceOf (.blk 0) (getBody Tryz.f44)) (p_slices_IndexFunc_0.cut (gcN 1 [0, 1, 7, 8]) (slices_IndexFunc.l0 κ κ)) :=
 Piece.loop p_slices_IndexFunc_0_ok C_ok mixed (gam6_ok κ m) gcN_ok (xN_ok gcN_ok (ex_nil) gcN_ok gcN_ok) (cut := noCut) (X := (xN (gcN 1 []) [] (gcN 1 [4]) (gcN 1 [1000000]))) (id := 0) (body := bodyOf (pieceOf (.blk 0) (getBody Tryz.f44))) (cuts_by (l := []) (by kernel_rfl) (all_nil)) (f := slices_IndexFunc.l0 κ) (fun s => by kernel_rfl) (fun k s => by kernel_rfl) κ
def cc_slices_IndexFunc_1 (κ : Nat) : Cut T := p_slices_IndexFunc_0.cut (gcN 1 [0, 1, 7, 8]) (slices_IndexFunc.l0 κ κ)
theorem cc_slices_IndexFunc_1_ok (κ : Nat) (m : Int) : CutOk Tryz.prog C (G m) Tryz.f44.ntmps 1 (pieceOf (.blk 0) (getBody Tryz.f44)) (cc_slices_IndexFunc_1 κ) := p_slices_IndexFunc_0_ct κ m
def ct_slices_IndexFunc_1 (κ : Nat) : Key → Option (Cut T) := addCut noCut (.blk 0) (cc_slices_IndexFunc_1 κ)
def sp_slices_IndexFunc : Spec T ((List SpecSpec) × ByteArray) (Int × ByteArray) where
 dcI a H := match a, H with
  | [.v (.sl 31 a0), (.fn (.func 45) [] [.ptr 0 0])], [.cells 9 none [.v (.s a1)]] => some (a0, a1)
  | _, _ => none
 ecA := fun (a0, _) => [.v (.sl 31 a0), (.fn (.func 45) [] [.ptr 0 0])]
 ecH := fun (_, a1) => [.cells 9 none [.v (.s a1)]]
 dcO o := match o with
  | .ret (.v (.i .i64 a0)) [.cells 9 none [.v (.s a1)]] => some (a0, a1)
  | _ => none
 goO := fun _ (a0, a1) k => k (.ret (.v (.i .i64 a0)) [.cells 9 none [.v (.s a1)]])
 ecO := fun (a0, a1) => .ret (.v (.i .i64 a0)) [.cells 9 none [.v (.s a1)]]
theorem sp_slices_IndexFunc_ok : SpecOk sp_slices_IndexFunc := by
 refine ⟨fun a H i h => ?_, fun o x h => ?_, fun R e k => by kernel_rfl⟩ <;> (simp only [sp_slices_IndexFunc] at h ⊢; split at h <;> first | (cases h; exact ⟨rfl, rfl⟩) | (cases h; rfl) | (cases h; done))
theorem ok_slices_IndexFunc (κ : Nat) (m : Int) : EOk Tryz.prog C (G m) 44 (sp_slices_IndexFunc.entry (fun (a0, a1) => slices_IndexFunc κ a0 a1)) :=
 Spec.ok sp_slices_IndexFunc_ok C_ok mixed (gam6_ok κ m) (cut := (ct_slices_IndexFunc_1 κ)) (NR := (gcN 1 [0])) (NP := (gcN 1 [0])) (nB := 1) Tryz.func44 (c := (getBody Tryz.f44)) (by kernel_rfl) (by kernel_rfl) (fun i => by kernel_rfl) gcN_ok gcN_ok (cuts_by (l := [(pieceOf (.blk 0) (getBody Tryz.f44), cc_slices_IndexFunc_1 κ)]) (by kernel_rfl) (all_cons (cc_slices_IndexFunc_1_ok κ m) (all_nil))) (fun i => by kernel_rfl)
noncomputable def gam7 (κ : Nat) : Gam T := (gam6 κ).addS 44 sp_slices_IndexFunc (fun (a0, a1) => slices_IndexFunc κ a0 a1)
theorem gam7_ok (κ : Nat) (m : Int) : GOk Tryz.prog C (G m) (gam7 κ) := (gam6_ok κ m).addS (ok_slices_IndexFunc κ m)
def sp_spec_Find : Spec T (ByteArray × Int × Int × Int × Int × (List ByteArray) × Bool × Int × (List SpecSpec) × ByteArray) (Int) where
 dcI a H := match a, H with
  | [(.agg [.v (.s a0), .v (.i .i64 a1), .v (.i .i64 a2), .v (.i .u64 a3), .v (.i .u64 a4), .v (.sl 9 a5), .v (.b a6), .v (.i .i64 a7), .v (.sl 31 a8)]), .v (.s a9)], [] => some (a0, a1, a2, a3, a4, a5, a6, a7, a8, a9)
  | _, _ => none
 ecA := fun (a0, a1, a2, a3, a4, a5, a6, a7, a8, a9) => [(.agg [.v (.s a0), .v (.i .i64 a1), .v (.i .i64 a2), .v (.i .u64 a3), .v (.i .u64 a4), .v (.sl 9 a5), .v (.b a6), .v (.i .i64 a7), .v (.sl 31 a8)]), .v (.s a9)]
 ecH := fun _ => []
 dcO o := match o with
  | .ret (.v (.i .i64 a0)) [] => some a0
  | _ => none
 goO := fun _ a0 k => k (.ret (.v (.i .i64 a0)) [])
 ecO := fun a0 => .ret (.v (.i .i64 a0)) []
theorem sp_spec_Find_ok : SpecOk sp_spec_Find := by
 refine ⟨fun a H i h => ?_, fun o x h => ?_, fun R e k => by kernel_rfl⟩ <;> (simp only [sp_spec_Find] at h ⊢; split at h <;> first | (cases h; exact ⟨rfl, rfl⟩) | (cases h; rfl) | (cases h; done))
theorem ok_spec_Find (κ : Nat) (m : Int) : EOk Tryz.prog C (G m) 34 (sp_spec_Find.entry (fun (a0, a1, a2, a3, a4, a5, a6, a7, a8, a9) => spec_Find κ a0 a1 a2 a3 a4 a5 a6 a7 a8 a9)) :=
 Spec.ok sp_spec_Find_ok C_ok mixed (gam7_ok κ m) (cut := noCut) (NR := (gcN 0 [0])) (NP := (gcN 0 [0])) (nB := 0) Tryz.func34 (c := (getBody Tryz.f34)) (by kernel_rfl) (by kernel_rfl) (fun i => by kernel_rfl) gcN_ok gcN_ok (cuts_by (l := []) (by kernel_rfl) (all_nil)) (fun i => by kernel_rfl)
noncomputable def gam8 (κ : Nat) : Gam T := (gam7 κ).addS 34 sp_spec_Find (fun (a0, a1, a2, a3, a4, a5, a6, a7, a8, a9) => spec_Find κ a0 a1 a2 a3 a4 a5 a6 a7 a8 a9)
theorem gam8_ok (κ : Nat) (m : Int) : GOk Tryz.prog C (G m) (gam8 κ) := (gam7_ok κ m).addS (ok_spec_Find κ m)
def p_spec_At_0 : Piece T ((List ByteArray) × Int × Int × ByteArray × Int × Int × Int × Int × Bool × Int × ByteArray × Int × Int × Int × Int × (List ByteArray) × Bool × Int × (List SpecSpec)) ((ByteArray × Int × Int × Int × Int × Bool × Int × ByteArray × Int × Int × Int × Int × (List ByteArray) × Bool × Int × (List SpecSpec)) ⊕ (Int × ByteArray × Int × Int × Int × Int × Bool × Int)) where
 dcS env H ds := match env 4, env 6, env 20, env 21, env 22, H, ds with
  | .ptr 0 0, .ptr 1 0, .v (.sl 9 a0), .v (.i .i64 a1), .v (.i .i64 a2), [.cells 31 none [.v (.s a3), .v (.i .i64 a4), .v (.i .i64 a5), .v (.i .u64 a6), .v (.i .u64 a7), .cap0, .v (.b a8), .v (.i .i64 a9), .cap0], .cells 31 none [.v (.s a10), .v (.i .i64 a11), .v (.i .i64 a12), .v (.i .u64 a13), .v (.i .u64 a14), .v (.sl 9 a15), .v (.b a16), .v (.i .i64 a17), .v (.sl 31 a18)]], [] => some (a0, a1, a2, a3, a4, a5, a6, a7, a8, a9, a10, a11, a12, a13, a14, a15, a16, a17, a18)
  | _, _, _, _, _, _, _ => none
 slS := fun (a0, a1, a2, _) => [(4, .ptr 0 0), (6, .ptr 1 0), (20, .v (.sl 9 a0)), (21, .v (.i .i64 a1)), (22, .v (.i .i64 a2))]
 obS := fun (_, _, _, a3, a4, a5, a6, a7, a8, a9, a10, a11, a12, a13, a14, a15, a16, a17, a18) => [.cells 31 none [.v (.s a3), .v (.i .i64 a4), .v (.i .i64 a5), .v (.i .u64 a6), .v (.i .u64 a7), .cap0, .v (.b a8), .v (.i .i64 a9), .cap0], .cells 31 none [.v (.s a10), .v (.i .i64 a11), .v (.i .i64 a12), .v (.i .u64 a13), .v (.i .u64 a14), .v (.sl 9 a15), .v (.b a16), .v (.i .i64 a17), .v (.sl 31 a18)]]
 dsS := fun _ => []
 dcE x env H ds := match x, env 4, env 5, env 6, H, ds with
  | .normal, .ptr 0 0, _, .ptr 1 0, [.cells 31 none [.v (.s a0), .v (.i .i64 a1), .v (.i .i64 a2), .v (.i .u64 a3), .v (.i .u64 a4), .cap0, .v (.b a5), .v (.i .i64 a6), .cap0], .cells 31 none [.v (.s a7), .v (.i .i64 a8), .v (.i .i64 a9), .v (.i .u64 a10), .v (.i .u64 a11), .v (.sl 9 a12), .v (.b a13), .v (.i .i64 a14), .v (.sl 31 a15)]], [] => some (.inl (a0, a1, a2, a3, a4, a5, a6, a7, a8, a9, a10, a11, a12, a13, a14, a15))
  | .ret, .ptr 0 0, .v (.i .i64 a0), _, [.cells 31 none [.v (.s a1), .v (.i .i64 a2), .v (.i .i64 a3), .v (.i .u64 a4), .v (.i .u64 a5), .cap0, .v (.b a6), .v (.i .i64 a7), .cap0]], [] => some (.inr (a0, a1, a2, a3, a4, a5, a6, a7))
  | _, _, _, _, _, _ => none
 exE := fun x => match x with
  | (.inl (a0, a1, a2, a3, a4, a5, a6, a7, a8, a9, a10, a11, a12, a13, a14, a15)) => .normal
  | (.inr (a0, a1, a2, a3, a4, a5, a6, a7)) => .ret
 slE := fun x => match x with
  | (.inl (a0, a1, a2, a3, a4, a5, a6, a7, a8, a9, a10, a11, a12, a13, a14, a15)) => [(4, .ptr 0 0), (6, .ptr 1 0)]
  | (.inr (a0, a1, a2, a3, a4, a5, a6, a7)) => [(4, .ptr 0 0), (5, .v (.i .i64 a0))]
 obE := fun x => match x with
  | (.inl (a0, a1, a2, a3, a4, a5, a6, a7, a8, a9, a10, a11, a12, a13, a14, a15)) => [.cells 31 none [.v (.s a0), .v (.i .i64 a1), .v (.i .i64 a2), .v (.i .u64 a3), .v (.i .u64 a4), .cap0, .v (.b a5), .v (.i .i64 a6), .cap0], .cells 31 none [.v (.s a7), .v (.i .i64 a8), .v (.i .i64 a9), .v (.i .u64 a10), .v (.i .u64 a11), .v (.sl 9 a12), .v (.b a13), .v (.i .i64 a14), .v (.sl 31 a15)]]
  | (.inr (a0, a1, a2, a3, a4, a5, a6, a7)) => [.cells 31 none [.v (.s a1), .v (.i .i64 a2), .v (.i .i64 a3), .v (.i .u64 a4), .v (.i .u64 a5), .cap0, .v (.b a6), .v (.i .i64 a7), .cap0]]
 dsE := fun x => match x with
  | (.inl (a0, a1, a2, a3, a4, a5, a6, a7, a8, a9, a10, a11, a12, a13, a14, a15)) => []
  | (.inr (a0, a1, a2, a3, a4, a5, a6, a7)) => []
 goE := fun _ x k => match x with
  | (.inl (a0, a1, a2, a3, a4, a5, a6, a7, a8, a9, a10, a11, a12, a13, a14, a15)) => k .normal [(4, .ptr 0 0), (6, .ptr 1 0)] [.cells 31 none [.v (.s a0), .v (.i .i64 a1), .v (.i .i64 a2), .v (.i .u64 a3), .v (.i .u64 a4), .cap0, .v (.b a5), .v (.i .i64 a6), .cap0], .cells 31 none [.v (.s a7), .v (.i .i64 a8), .v (.i .i64 a9), .v (.i .u64 a10), .v (.i .u64 a11), .v (.sl 9 a12), .v (.b a13), .v (.i .i64 a14), .v (.sl 31 a15)]] []
  | (.inr (a0, a1, a2, a3, a4, a5, a6, a7)) => k .ret [(4, .ptr 0 0), (5, .v (.i .i64 a0))] [.cells 31 none [.v (.s a1), .v (.i .i64 a2), .v (.i .i64 a3), .v (.i .u64 a4), .v (.i .u64 a5), .cap0, .v (.b a6), .v (.i .i64 a7), .cap0]] []
theorem p_spec_At_0_ok : PieceOk p_spec_At_0 := by
 refine ⟨fun env H ds s h => ?_, fun x env H ds e h => ?_, fun R e k => by rcases e with e | e <;> kernel_rfl⟩
 · simp only [p_spec_At_0] at h ⊢; split at h <;> first | (cases h; simp only [List.forall_mem_cons]; simp_all; done) | (cases h; done)
 · simp only [p_spec_At_0] at h ⊢; split at h <;> first | (cases h; simp only [List.forall_mem_cons]; simp_all; done) | (cases h; done)
theorem p_spec_At_0_ct (κ : Nat) (m : Int) : CutOk Tryz.prog C (G m) Tryz.f19.ntmps 0 (pieceOf (.blk 0) (getBody Tryz.f19)) (p_spec_At_0.cut (gcN 0 [4, 6, 20, 21, 22]) (spec_At.l0 κ κ)) :=
 Piece.loop p_spec_At_0_ok C_ok mixed (gam8_ok κ m) gcN_ok (xN_ok gcN_ok (ex_nil) gcN_ok gcN_ok) (cut := noCut) (X := (xN (gcN 0 [4, 6]) [] (gcN 0 [4, 5]) (gcN 0 [1000000]))) (id := 0) (body := bodyOf (pieceOf (.blk 0) (getBody Tryz.f19))) (cuts_by (l := []) (by kernel_rfl) (all_nil)) (f := spec_At.l0 κ) (fun s => by kernel_rfl) (fun k s => by kernel_rfl) κ
def cc_spec_At_1 (κ : Nat) : Cut T := p_spec_At_0.cut (gcN 0 [4, 6, 20, 21, 22]) (spec_At.l0 κ κ)
theorem cc_spec_At_1_ok (κ : Nat) (m : Int) : CutOk Tryz.prog C (G m) Tryz.f19.ntmps 0 (pieceOf (.blk 0) (getBody Tryz.f19)) (cc_spec_At_1 κ) := p_spec_At_0_ct κ m
def ct_spec_At_1 (κ : Nat) : Key → Option (Cut T) := addCut noCut (.blk 0) (cc_spec_At_1 κ)
def sp_spec_At : Spec T (Int × (List ByteArray)) (ByteArray × Int × Int × Int × Int × (List ByteArray) × Bool × Int × (List SpecSpec) × Int) where
 dcI a H := match a, H with
  | [.v (.i .i64 a0), .v (.sl 9 a1)], [] => some (a0, a1)
  | _, _ => none
 ecA := fun (a0, a1) => [.v (.i .i64 a0), .v (.sl 9 a1)]
 ecH := fun _ => []
 dcO o := match o with
  | .ret (.tup [(.agg [.v (.s a0), .v (.i .i64 a1), .v (.i .i64 a2), .v (.i .u64 a3), .v (.i .u64 a4), .v (.sl 9 a5), .v (.b a6), .v (.i .i64 a7), .v (.sl 31 a8)]), .v (.i .i64 a9)]) [] => some (a0, a1, a2, a3, a4, a5, a6, a7, a8, a9)
  | _ => none
 goO := fun _ (a0, a1, a2, a3, a4, a5, a6, a7, a8, a9) k => k (.ret (.tup [(.agg [.v (.s a0), .v (.i .i64 a1), .v (.i .i64 a2), .v (.i .u64 a3), .v (.i .u64 a4), .v (.sl 9 a5), .v (.b a6), .v (.i .i64 a7), .v (.sl 31 a8)]), .v (.i .i64 a9)]) [])
 ecO := fun (a0, a1, a2, a3, a4, a5, a6, a7, a8, a9) => .ret (.tup [(.agg [.v (.s a0), .v (.i .i64 a1), .v (.i .i64 a2), .v (.i .u64 a3), .v (.i .u64 a4), .v (.sl 9 a5), .v (.b a6), .v (.i .i64 a7), .v (.sl 31 a8)]), .v (.i .i64 a9)]) []
theorem sp_spec_At_ok : SpecOk sp_spec_At := by
 refine ⟨fun a H i h => ?_, fun o x h => ?_, fun R e k => by kernel_rfl⟩ <;> (simp only [sp_spec_At] at h ⊢; split at h <;> first | (cases h; exact ⟨rfl, rfl⟩) | (cases h; rfl) | (cases h; done))
theorem ok_spec_At (κ : Nat) (m : Int) : EOk Tryz.prog C (G m) 19 (sp_spec_At.entry (fun (a0, a1) => spec_At κ a0 a1)) :=
 Spec.ok sp_spec_At_ok C_ok mixed (gam8_ok κ m) (cut := (ct_spec_At_1 κ)) (NR := (andN (slS 0 [0, 5] 9) (andN (slS 0 [0, 8] 31) (gcN 0 [0])))) (NP := (gcN 0 [0])) (nB := 0) Tryz.func19 (c := (getBody Tryz.f19)) (by kernel_rfl) (by kernel_rfl) (fun i => by kernel_rfl) (andN_ok (slS_ok C_ok) (andN_ok (slS_ok C_ok) gcN_ok)) gcN_ok (cuts_by (l := [(pieceOf (.blk 0) (getBody Tryz.f19), cc_spec_At_1 κ)]) (by kernel_rfl) (all_cons (cc_spec_At_1_ok κ m) (all_nil))) (fun i => by kernel_rfl)
noncomputable def gam9 (κ : Nat) : Gam T := (gam8 κ).addS 19 sp_spec_At (fun (a0, a1) => spec_At κ a0 a1)
theorem gam9_ok (κ : Nat) (m : Int) : GOk Tryz.prog C (G m) (gam9 κ) := (gam8_ok κ m).addS (ok_spec_At κ m)
def p_value_of_0 : Piece T (Int × Bool) (Bool) where
 dcS env H ds := match env 7, env 24, H, ds with
  | .v (.i .i64 a0), .v (.b a1), [], [] => some (a0, a1)
  | _, _, _, _ => none
 slS := fun (a0, a1) => [(7, .v (.i .i64 a0)), (24, .v (.b a1))]
 obS := fun _ => []
 dsS := fun _ => []
 dcE x env H ds := match x, env 24, H, ds with
  | .normal, .v (.b a0), [], [] => some a0
  | _, _, _, _ => none
 exE := fun a0 => .normal
 slE := fun a0 => [(24, .v (.b a0))]
 obE := fun a0 => []
 dsE := fun a0 => []
 goE := fun _ a0 k => k .normal [(24, .v (.b a0))] [] []
theorem p_value_of_0_ok : PieceOk p_value_of_0 := by
 refine ⟨fun env H ds s h => ?_, fun x env H ds e h => ?_, fun R e k => by kernel_rfl⟩ <;> (simp only [p_value_of_0] at h ⊢; split at h <;> first | (cases h; simp only [List.forall_mem_cons]; simp_all; done) | (cases h; done))
theorem p_value_of_0_ct (κ : Nat) (m : Int) : CutOk Tryz.prog C (G m) Tryz.f21.ntmps 0 (pieceOf (.cnd 24 14) (getBody Tryz.f21)) (p_value_of_0.cut (gcN 0 [7, 24]) (fun (a0, a1) => value_of.v0 κ a0 a1)) :=
 Piece.join p_value_of_0_ok C_ok mixed (gam9_ok κ m) gcN_ok (xN_ok gcN_ok (ex_cons gcN_ok (ex_nil)) gcN_ok gcN_ok) (cut := noCut) (X := (xN (gcN 0 [24]) [(0, (gcN 0 []))] (gcN 0 [2]) (gcN 0 [1000000]))) (cuts_by (l := []) (by kernel_rfl) (all_nil)) (fun s => by kernel_rfl)
def cc_value_of_1 (κ : Nat) : Cut T := p_value_of_0.cut (gcN 0 [7, 24]) (fun (a0, a1) => value_of.v0 κ a0 a1)
theorem cc_value_of_1_ok (κ : Nat) (m : Int) : CutOk Tryz.prog C (G m) Tryz.f21.ntmps 0 (pieceOf (.cnd 24 14) (getBody Tryz.f21)) (cc_value_of_1 κ) := p_value_of_0_ct κ m
def ct_value_of_1 (κ : Nat) : Key → Option (Cut T) := addCut noCut (.cnd 24 14) (cc_value_of_1 κ)
def sp_value_of : Spec T (ByteArray × Int × Int × Int × Int × (List ByteArray) × Bool × Int × (List SpecSpec)) ((Unit) ⊕ ((Unit) ⊕ ((Unit) ⊕ ((Unit) ⊕ ((Unit) ⊕ (Unit)))))) where
 dcI a H := match a, H with
  | [(.agg [.v (.s a0), .v (.i .i64 a1), .v (.i .i64 a2), .v (.i .u64 a3), .v (.i .u64 a4), .v (.sl 9 a5), .v (.b a6), .v (.i .i64 a7), .v (.sl 31 a8)])], [] => some (a0, a1, a2, a3, a4, a5, a6, a7, a8)
  | _, _ => none
 ecA := fun (a0, a1, a2, a3, a4, a5, a6, a7, a8) => [(.agg [.v (.s a0), .v (.i .i64 a1), .v (.i .i64 a2), .v (.i .u64 a3), .v (.i .u64 a4), .v (.sl 9 a5), .v (.b a6), .v (.i .i64 a7), .v (.sl 31 a8)])]
 ecH := fun _ => []
 dcO o := match o with
  | .ret (.v .if0) [] => some (.inl ())
  | .ret (.ifc 80 (.agg [])) [] => some (.inr (.inl ()))
  | .ret (.ifc 79 (.agg [])) [] => some (.inr (.inr (.inl ())))
  | .ret (.ifc 78 (.agg [])) [] => some (.inr (.inr (.inr (.inl ()))))
  | .ret (.ifc 76 (.agg [(.fn (.func 39) [] []), (.fn (.func 40) [] [])])) [] => some (.inr (.inr (.inr (.inr (.inl ())))))
  | .ret (.ifc 76 (.agg [(.fn (.func 37) [] []), (.fn (.func 38) [] [])])) [] => some (.inr (.inr (.inr (.inr (.inr ())))))
  | _ => none
 goO := fun _ x k => match x with
  | (.inl _) => k (.ret (.v .if0) [])
  | (.inr (.inl _)) => k (.ret (.ifc 80 (.agg [])) [])
  | (.inr (.inr (.inl _))) => k (.ret (.ifc 79 (.agg [])) [])
  | (.inr (.inr (.inr (.inl _)))) => k (.ret (.ifc 78 (.agg [])) [])
  | (.inr (.inr (.inr (.inr (.inl _))))) => k (.ret (.ifc 76 (.agg [(.fn (.func 39) [] []), (.fn (.func 40) [] [])])) [])
  | (.inr (.inr (.inr (.inr (.inr _))))) => k (.ret (.ifc 76 (.agg [(.fn (.func 37) [] []), (.fn (.func 38) [] [])])) [])
 ecO := fun x => match x with
  | (.inl _) => .ret (.v .if0) []
  | (.inr (.inl _)) => .ret (.ifc 80 (.agg [])) []
  | (.inr (.inr (.inl _))) => .ret (.ifc 79 (.agg [])) []
  | (.inr (.inr (.inr (.inl _)))) => .ret (.ifc 78 (.agg [])) []
  | (.inr (.inr (.inr (.inr (.inl _))))) => .ret (.ifc 76 (.agg [(.fn (.func 39) [] []), (.fn (.func 40) [] [])])) []
  | (.inr (.inr (.inr (.inr (.inr _))))) => .ret (.ifc 76 (.agg [(.fn (.func 37) [] []), (.fn (.func 38) [] [])])) []
theorem sp_value_of_ok : SpecOk sp_value_of := by
 refine ⟨fun a H i h => ?_, fun o x h => ?_, fun R e k => by rcases e with e | e | e | e | e | e <;> kernel_rfl⟩
 · simp only [sp_value_of] at h ⊢; split at h <;> first | (cases h; exact ⟨rfl, rfl⟩) | (cases h; done)
 · simp only [sp_value_of] at h ⊢; split at h <;> first | (cases h; rfl) | (cases h; done)
theorem ok_value_of (κ : Nat) (m : Int) : EOk Tryz.prog C (G m) 21 (sp_value_of.entry (fun (a0, a1, a2, a3, a4, a5, a6, a7, a8) => value_of κ a0 a1 a2 a3 a4 a5 a6 a7 a8)) :=
 Spec.ok sp_value_of_ok C_ok mixed (gam9_ok κ m) (cut := (ct_value_of_1 κ)) (NR := (gcN 0 [0])) (NP := (gcN 0 [0])) (nB := 0) Tryz.func21 (c := (getBody Tryz.f21)) (by kernel_rfl) (by kernel_rfl) (fun i => by kernel_rfl) gcN_ok gcN_ok (cuts_by (l := [(pieceOf (.cnd 24 14) (getBody Tryz.f21), cc_value_of_1 κ)]) (by kernel_rfl) (all_cons (cc_value_of_1_ok κ m) (all_nil))) (fun i => by kernel_rfl)
noncomputable def gam10 (κ : Nat) : Gam T := (gam9 κ).addS 21 sp_value_of (fun (a0, a1, a2, a3, a4, a5, a6, a7, a8) => value_of κ a0 a1 a2 a3 a4 a5 a6 a7 a8)
theorem gam10_ok (κ : Nat) (m : Int) : GOk Tryz.prog C (G m) (gam10 κ) := (gam9_ok κ m).addS (ok_value_of κ m)
def sp_value_name_parse : Spec T (ByteArray) (Int × Int × ByteArray × Bool) where
 dcI a H := match a, H with
  | [(.agg []), .v (.s a0)], [] => some a0
  | _, _ => none
 ecA := fun a0 => [(.agg []), .v (.s a0)]
 ecH := fun a0 => []
 dcO o := match o with
  | .ret (.tup [(.agg [.v (.i .i64 a0), .v (.i .u64 a1), .v (.s a2)]), .v (.b a3)]) [] => some (a0, a1, a2, a3)
  | _ => none
 goO := fun _ (a0, a1, a2, a3) k => k (.ret (.tup [(.agg [.v (.i .i64 a0), .v (.i .u64 a1), .v (.s a2)]), .v (.b a3)]) [])
 ecO := fun (a0, a1, a2, a3) => .ret (.tup [(.agg [.v (.i .i64 a0), .v (.i .u64 a1), .v (.s a2)]), .v (.b a3)]) []
theorem sp_value_name_parse_ok : SpecOk sp_value_name_parse := by
 refine ⟨fun a H i h => ?_, fun o x h => ?_, fun R e k => by kernel_rfl⟩ <;> (simp only [sp_value_name_parse] at h ⊢; split at h <;> first | (cases h; exact ⟨rfl, rfl⟩) | (cases h; rfl) | (cases h; done))
theorem ok_value_name_parse (κ : Nat) (m : Int) : EOk Tryz.prog C (G m) 127 (sp_value_name_parse.entry (fun a0 => value_name_parse κ a0)) :=
 Spec.ok sp_value_name_parse_ok C_ok mixed (gam10_ok κ m) (cut := noCut) (NR := (gcN 0 [0])) (NP := (gcN 0 [0])) (nB := 0) Tryz.func127 (c := (getBody Tryz.f127)) (by kernel_rfl) (by kernel_rfl) (fun i => by kernel_rfl) gcN_ok gcN_ok (cuts_by (l := []) (by kernel_rfl) (all_nil)) (fun i => by kernel_rfl)
noncomputable def gam11 (κ : Nat) : Gam T := (gam10 κ).addS 127 sp_value_name_parse (fun a0 => value_name_parse κ a0)
theorem gam11_ok (κ : Nat) (m : Int) : GOk Tryz.prog C (G m) (gam11 κ) := (gam10_ok κ m).addS (ok_value_name_parse κ m)
def p_scalar_Ident_0 : Piece T (ByteArray) (Bool) where
 dcS env H ds := match env 0, H, ds with
  | .v (.s a0), [], [] => some a0
  | _, _, _ => none
 slS := fun a0 => [(0, .v (.s a0))]
 obS := fun a0 => []
 dsS := fun a0 => []
 dcE x env H ds := match x, env 2, H, ds with
  | .normal, .v (.b a0), [], [] => some a0
  | _, _, _, _ => none
 exE := fun a0 => .normal
 slE := fun a0 => [(2, .v (.b a0))]
 obE := fun a0 => []
 dsE := fun a0 => []
 goE := fun _ a0 k => k .normal [(2, .v (.b a0))] [] []
theorem p_scalar_Ident_0_ok : PieceOk p_scalar_Ident_0 := by
 refine ⟨fun env H ds s h => ?_, fun x env H ds e h => ?_, fun R e k => by kernel_rfl⟩ <;> (simp only [p_scalar_Ident_0] at h ⊢; split at h <;> first | (cases h; simp only [List.forall_mem_cons]; simp_all; done) | (cases h; done))
theorem p_scalar_Ident_0_ct (κ : Nat) (m : Int) : CutOk Tryz.prog C (G m) Tryz.f131.ntmps 0 (pieceOf (.reg 1) (getBody Tryz.f131)) (p_scalar_Ident_0.cut (gcN 0 [0]) (fun a0 => scalar_Ident.v0 κ a0)) :=
 Piece.join p_scalar_Ident_0_ok C_ok mixed (gam11_ok κ m) gcN_ok (xN_ok gcN_ok (ex_nil) gcN_ok gcN_ok) (cut := noCut) (X := (xN (gcN 0 [2]) [] (gcN 0 [2]) (gcN 0 [1000000]))) (cuts_by (l := []) (by kernel_rfl) (all_nil)) (fun s => by kernel_rfl)
def cc_scalar_Ident_1 (κ : Nat) : Cut T := p_scalar_Ident_0.cut (gcN 0 [0]) (fun a0 => scalar_Ident.v0 κ a0)
theorem cc_scalar_Ident_1_ok (κ : Nat) (m : Int) : CutOk Tryz.prog C (G m) Tryz.f131.ntmps 0 (pieceOf (.reg 1) (getBody Tryz.f131)) (cc_scalar_Ident_1 κ) := p_scalar_Ident_0_ct κ m
def ct_scalar_Ident_1 (κ : Nat) : Key → Option (Cut T) := addCut noCut (.reg 1) (cc_scalar_Ident_1 κ)
def sp_scalar_Ident : Spec T (ByteArray) (Bool) where
 dcI a H := match a, H with
  | [.v (.s a0)], [] => some a0
  | _, _ => none
 ecA := fun a0 => [.v (.s a0)]
 ecH := fun a0 => []
 dcO o := match o with
  | .ret (.v (.b a0)) [] => some a0
  | _ => none
 goO := fun _ a0 k => k (.ret (.v (.b a0)) [])
 ecO := fun a0 => .ret (.v (.b a0)) []
theorem sp_scalar_Ident_ok : SpecOk sp_scalar_Ident := by
 refine ⟨fun a H i h => ?_, fun o x h => ?_, fun R e k => by kernel_rfl⟩ <;> (simp only [sp_scalar_Ident] at h ⊢; split at h <;> first | (cases h; exact ⟨rfl, rfl⟩) | (cases h; rfl) | (cases h; done))
theorem ok_scalar_Ident (κ : Nat) (m : Int) : EOk Tryz.prog C (G m) 131 (sp_scalar_Ident.entry (fun a0 => scalar_Ident κ a0)) :=
 Spec.ok sp_scalar_Ident_ok C_ok mixed (gam11_ok κ m) (cut := (ct_scalar_Ident_1 κ)) (NR := (gcN 0 [0])) (NP := (gcN 0 [0])) (nB := 0) Tryz.func131 (c := (getBody Tryz.f131)) (by kernel_rfl) (by kernel_rfl) (fun i => by kernel_rfl) gcN_ok gcN_ok (cuts_by (l := [(pieceOf (.reg 1) (getBody Tryz.f131), cc_scalar_Ident_1 κ)]) (by kernel_rfl) (all_cons (cc_scalar_Ident_1_ok κ m) (all_nil))) (fun i => by kernel_rfl)
noncomputable def gam12 (κ : Nat) : Gam T := (gam11 κ).addS 131 sp_scalar_Ident (fun a0 => scalar_Ident κ a0)
theorem gam12_ok (κ : Nat) (m : Int) : GOk Tryz.prog C (G m) (gam12 κ) := (gam11_ok κ m).addS (ok_scalar_Ident κ m)
def p_value_name_right_0 : Piece T (Int × Int × ByteArray) (Bool) where
 dcS env H ds := match env 5, H, ds with
  | .ptr 0 0, [.cells 27 none [.v (.i .i64 a0), .v (.i .u64 a1), .v (.s a2)]], [] => some (a0, a1, a2)
  | _, _, _ => none
 slS := fun _ => [(5, .ptr 0 0)]
 obS := fun (a0, a1, a2) => [.cells 27 none [.v (.i .i64 a0), .v (.i .u64 a1), .v (.s a2)]]
 dsS := fun _ => []
 dcE x env H ds := match x, env 6, H, ds with
  | .normal, .v (.b a0), [], [] => some a0
  | _, _, _, _ => none
 exE := fun a0 => .normal
 slE := fun a0 => [(6, .v (.b a0))]
 obE := fun a0 => []
 dsE := fun a0 => []
 goE := fun _ a0 k => k .normal [(6, .v (.b a0))] [] []
theorem p_value_name_right_0_ok : PieceOk p_value_name_right_0 := by
 refine ⟨fun env H ds s h => ?_, fun x env H ds e h => ?_, fun R e k => by kernel_rfl⟩ <;> (simp only [p_value_name_right_0] at h ⊢; split at h <;> first | (cases h; simp only [List.forall_mem_cons]; simp_all; done) | (cases h; done))
theorem p_value_name_right_0_ct (κ : Nat) (m : Int) : CutOk Tryz.prog C (G m) Tryz.f128.ntmps 0 (pieceOf (.reg 1) (getBody Tryz.f128)) (p_value_name_right_0.cut (gcN 0 [5]) (fun (a0, a1, a2) => value_name_right.v0 κ a0 a1 a2)) :=
 Piece.join p_value_name_right_0_ok C_ok mixed (gam12_ok κ m) gcN_ok (xN_ok gcN_ok (ex_nil) gcN_ok gcN_ok) (cut := noCut) (X := (xN (gcN 0 [6]) [] (gcN 0 [6]) (gcN 0 [1000000]))) (cuts_by (l := []) (by kernel_rfl) (all_nil)) (fun s => by kernel_rfl)
def cc_value_name_right_1 (κ : Nat) : Cut T := p_value_name_right_0.cut (gcN 0 [5]) (fun (a0, a1, a2) => value_name_right.v0 κ a0 a1 a2)
theorem cc_value_name_right_1_ok (κ : Nat) (m : Int) : CutOk Tryz.prog C (G m) Tryz.f128.ntmps 0 (pieceOf (.reg 1) (getBody Tryz.f128)) (cc_value_name_right_1 κ) := p_value_name_right_0_ct κ m
def ct_value_name_right_1 (κ : Nat) : Key → Option (Cut T) := addCut noCut (.reg 1) (cc_value_name_right_1 κ)
def sp_value_name_right : Spec T (ByteArray × Int × Int × Int × Int × (List ByteArray) × Bool × Int × (List SpecSpec) × Int × Int × ByteArray) (Bool) where
 dcI a H := match a, H with
  | [(.agg []), (.agg [.v (.s a0), .v (.i .i64 a1), .v (.i .i64 a2), .v (.i .u64 a3), .v (.i .u64 a4), .v (.sl 9 a5), .v (.b a6), .v (.i .i64 a7), .v (.sl 31 a8)]), (.agg [.v (.i .i64 a9), .v (.i .u64 a10), .v (.s a11)])], [] => some (a0, a1, a2, a3, a4, a5, a6, a7, a8, a9, a10, a11)
  | _, _ => none
 ecA := fun (a0, a1, a2, a3, a4, a5, a6, a7, a8, a9, a10, a11) => [(.agg []), (.agg [.v (.s a0), .v (.i .i64 a1), .v (.i .i64 a2), .v (.i .u64 a3), .v (.i .u64 a4), .v (.sl 9 a5), .v (.b a6), .v (.i .i64 a7), .v (.sl 31 a8)]), (.agg [.v (.i .i64 a9), .v (.i .u64 a10), .v (.s a11)])]
 ecH := fun _ => []
 dcO o := match o with
  | .ret (.v (.b a0)) [] => some a0
  | _ => none
 goO := fun _ a0 k => k (.ret (.v (.b a0)) [])
 ecO := fun a0 => .ret (.v (.b a0)) []
theorem sp_value_name_right_ok : SpecOk sp_value_name_right := by
 refine ⟨fun a H i h => ?_, fun o x h => ?_, fun R e k => by kernel_rfl⟩ <;> (simp only [sp_value_name_right] at h ⊢; split at h <;> first | (cases h; exact ⟨rfl, rfl⟩) | (cases h; rfl) | (cases h; done))
theorem ok_value_name_right (κ : Nat) (m : Int) : EOk Tryz.prog C (G m) 128 (sp_value_name_right.entry (fun (a0, a1, a2, a3, a4, a5, a6, a7, a8, a9, a10, a11) => value_name_right κ a0 a1 a2 a3 a4 a5 a6 a7 a8 a9 a10 a11)) :=
 Spec.ok sp_value_name_right_ok C_ok mixed (gam12_ok κ m) (cut := (ct_value_name_right_1 κ)) (NR := (gcN 0 [0])) (NP := (gcN 0 [0])) (nB := 0) Tryz.func128 (c := (getBody Tryz.f128)) (by kernel_rfl) (by kernel_rfl) (fun i => by kernel_rfl) gcN_ok gcN_ok (cuts_by (l := [(pieceOf (.reg 1) (getBody Tryz.f128), cc_value_name_right_1 κ)]) (by kernel_rfl) (all_cons (cc_value_name_right_1_ok κ m) (all_nil))) (fun i => by kernel_rfl)
noncomputable def gam13 (κ : Nat) : Gam T := (gam12 κ).addS 128 sp_value_name_right (fun (a0, a1, a2, a3, a4, a5, a6, a7, a8, a9, a10, a11) => value_name_right κ a0 a1 a2 a3 a4 a5 a6 a7 a8 a9 a10 a11)
theorem gam13_ok (κ : Nat) (m : Int) : GOk Tryz.prog C (G m) (gam13 κ) := (gam12_ok κ m).addS (ok_value_name_right κ m)
def p_slices_Index_0 : Piece T ((List ByteArray) × ByteArray × Int × Int) ((Unit) ⊕ (Int)) where
 dcS env H ds := match env 0, env 1, env 7, env 8, H, ds with
  | .v (.sl 9 a0), .v (.s a1), .v (.i .i64 a2), .v (.i .i64 a3), [], [] => some (a0, a1, a2, a3)
  | _, _, _, _, _, _ => none
 slS := fun (a0, a1, a2, a3) => [(0, .v (.sl 9 a0)), (1, .v (.s a1)), (7, .v (.i .i64 a2)), (8, .v (.i .i64 a3))]
 obS := fun _ => []
 dsS := fun _ => []
 dcE x env H ds := match x, env 4, H, ds with
  | .normal, _, [], [] => some (.inl ())
  | .ret, .v (.i .i64 a0), [], [] => some (.inr a0)
  | _, _, _, _ => none
 exE := fun x => match x with
  | (.inl _) => .normal
  | (.inr a0) => .ret
 slE := fun x => match x with
  | (.inl _) => []
  | (.inr a0) => [(4, .v (.i .i64 a0))]
 obE := fun x => match x with
  | (.inl _) => []
  | (.inr a0) => []
 dsE := fun x => match x with
  | (.inl _) => []
  | (.inr a0) => []
 goE := fun _ x k => match x with
  | (.inl _) => k .normal [] [] []
  | (.inr a0) => k .ret [(4, .v (.i .i64 a0))] [] []
theorem p_slices_Index_0_ok : PieceOk p_slices_Index_0 := by
 refine ⟨fun env H ds s h => ?_, fun x env H ds e h => ?_, fun R e k => by rcases e with e | e <;> kernel_rfl⟩
 · simp only [p_slices_Index_0] at h ⊢; split at h <;> first | (cases h; simp only [List.forall_mem_cons]; simp_all; done) | (cases h; done)
 · simp only [p_slices_Index_0] at h ⊢; split at h <;> first | (cases h; simp only [List.forall_mem_cons]; simp_all; done) | (cases h; done)
theorem p_slices_Index_0_ct (κ : Nat) (m : Int) : CutOk Tryz.prog C (G m) Tryz.f118.ntmps 0 (pieceOf (.blk 0) (getBody Tryz.f118)) (p_slices_Index_0.cut (gcN 0 [0, 1, 7, 8]) (slices_Index.l0 κ κ)) :=
 Piece.loop p_slices_Index_0_ok C_ok mixed (gam13_ok κ m) gcN_ok (xN_ok gcN_ok (ex_nil) gcN_ok gcN_ok) (cut := noCut) (X := (xN (gcN 0 []) [] (gcN 0 [4]) (gcN 0 [1000000]))) (id := 0) (body := bodyOf (pieceOf (.blk 0) (getBody Tryz.f118))) (cuts_by (l := []) (by kernel_rfl) (all_nil)) (f := slices_Index.l0 κ) (fun s => by kernel_rfl) (fun k s => by kernel_rfl) κ
def cc_slices_Index_1 (κ : Nat) : Cut T := p_slices_Index_0.cut (gcN 0 [0, 1, 7, 8]) (slices_Index.l0 κ κ)
theorem cc_slices_Index_1_ok (κ : Nat) (m : Int) : CutOk Tryz.prog C (G m) Tryz.f118.ntmps 0 (pieceOf (.blk 0) (getBody Tryz.f118)) (cc_slices_Index_1 κ) := p_slices_Index_0_ct κ m
def ct_slices_Index_1 (κ : Nat) : Key → Option (Cut T) := addCut noCut (.blk 0) (cc_slices_Index_1 κ)
def sp_slices_Index : Spec T ((List ByteArray) × ByteArray) (Int) where
 dcI a H := match a, H with
  | [.v (.sl 9 a0), .v (.s a1)], [] => some (a0, a1)
  | _, _ => none
 ecA := fun (a0, a1) => [.v (.sl 9 a0), .v (.s a1)]
 ecH := fun _ => []
 dcO o := match o with
  | .ret (.v (.i .i64 a0)) [] => some a0
  | _ => none
 goO := fun _ a0 k => k (.ret (.v (.i .i64 a0)) [])
 ecO := fun a0 => .ret (.v (.i .i64 a0)) []
theorem sp_slices_Index_ok : SpecOk sp_slices_Index := by
 refine ⟨fun a H i h => ?_, fun o x h => ?_, fun R e k => by kernel_rfl⟩ <;> (simp only [sp_slices_Index] at h ⊢; split at h <;> first | (cases h; exact ⟨rfl, rfl⟩) | (cases h; rfl) | (cases h; done))
theorem ok_slices_Index (κ : Nat) (m : Int) : EOk Tryz.prog C (G m) 118 (sp_slices_Index.entry (fun (a0, a1) => slices_Index κ a0 a1)) :=
 Spec.ok sp_slices_Index_ok C_ok mixed (gam13_ok κ m) (cut := (ct_slices_Index_1 κ)) (NR := (gcN 0 [0])) (NP := (gcN 0 [0])) (nB := 0) Tryz.func118 (c := (getBody Tryz.f118)) (by kernel_rfl) (by kernel_rfl) (fun i => by kernel_rfl) gcN_ok gcN_ok (cuts_by (l := [(pieceOf (.blk 0) (getBody Tryz.f118), cc_slices_Index_1 κ)]) (by kernel_rfl) (all_cons (cc_slices_Index_1_ok κ m) (all_nil))) (fun i => by kernel_rfl)
noncomputable def gam14 (κ : Nat) : Gam T := (gam13 κ).addS 118 sp_slices_Index (fun (a0, a1) => slices_Index κ a0 a1)
theorem gam14_ok (κ : Nat) (m : Int) : GOk Tryz.prog C (G m) (gam14 κ) := (gam13_ok κ m).addS (ok_slices_Index κ m)
def sp_slices_Contains : Spec T ((List ByteArray) × ByteArray) (Bool) where
 dcI a H := match a, H with
  | [.v (.sl 9 a0), .v (.s a1)], [] => some (a0, a1)
  | _, _ => none
 ecA := fun (a0, a1) => [.v (.sl 9 a0), .v (.s a1)]
 ecH := fun _ => []
 dcO o := match o with
  | .ret (.v (.b a0)) [] => some a0
  | _ => none
 goO := fun _ a0 k => k (.ret (.v (.b a0)) [])
 ecO := fun a0 => .ret (.v (.b a0)) []
theorem sp_slices_Contains_ok : SpecOk sp_slices_Contains := by
 refine ⟨fun a H i h => ?_, fun o x h => ?_, fun R e k => by kernel_rfl⟩ <;> (simp only [sp_slices_Contains] at h ⊢; split at h <;> first | (cases h; exact ⟨rfl, rfl⟩) | (cases h; rfl) | (cases h; done))
theorem ok_slices_Contains (κ : Nat) (m : Int) : EOk Tryz.prog C (G m) 125 (sp_slices_Contains.entry (fun (a0, a1) => slices_Contains κ a0 a1)) :=
 Spec.ok sp_slices_Contains_ok C_ok mixed (gam14_ok κ m) (cut := noCut) (NR := (gcN 0 [0])) (NP := (gcN 0 [0])) (nB := 0) Tryz.func125 (c := (getBody Tryz.f125)) (by kernel_rfl) (by kernel_rfl) (fun i => by kernel_rfl) gcN_ok gcN_ok (cuts_by (l := []) (by kernel_rfl) (all_nil)) (fun i => by kernel_rfl)
noncomputable def gam15 (κ : Nat) : Gam T := (gam14 κ).addS 125 sp_slices_Contains (fun (a0, a1) => slices_Contains κ a0 a1)
theorem gam15_ok (κ : Nat) (m : Int) : GOk Tryz.prog C (G m) (gam15 κ) := (gam14_ok κ m).addS (ok_slices_Contains κ m)
def p_value_choice_right_0 : Piece T (ByteArray × Int × Int × Int × Int × (List ByteArray) × Bool × Int × (List SpecSpec) × Int × Int × ByteArray) (Bool) where
 dcS env H ds := match env 4, env 5, H, ds with
  | .ptr 0 0, .ptr 1 0, [.cells 31 none [.v (.s a0), .v (.i .i64 a1), .v (.i .i64 a2), .v (.i .u64 a3), .v (.i .u64 a4), .v (.sl 9 a5), .v (.b a6), .v (.i .i64 a7), .v (.sl 31 a8)], .cells 27 none [.v (.i .i64 a9), .v (.i .u64 a10), .v (.s a11)]], [] => some (a0, a1, a2, a3, a4, a5, a6, a7, a8, a9, a10, a11)
  | _, _, _, _ => none
 slS := fun _ => [(4, .ptr 0 0), (5, .ptr 1 0)]
 obS := fun (a0, a1, a2, a3, a4, a5, a6, a7, a8, a9, a10, a11) => [.cells 31 none [.v (.s a0), .v (.i .i64 a1), .v (.i .i64 a2), .v (.i .u64 a3), .v (.i .u64 a4), .v (.sl 9 a5), .v (.b a6), .v (.i .i64 a7), .v (.sl 31 a8)], .cells 27 none [.v (.i .i64 a9), .v (.i .u64 a10), .v (.s a11)]]
 dsS := fun _ => []
 dcE x env H ds := match x, env 6, H, ds with
  | .normal, .v (.b a0), [], [] => some a0
  | _, _, _, _ => none
 exE := fun a0 => .normal
 slE := fun a0 => [(6, .v (.b a0))]
 obE := fun a0 => []
 dsE := fun a0 => []
 goE := fun _ a0 k => k .normal [(6, .v (.b a0))] [] []
theorem p_value_choice_right_0_ok : PieceOk p_value_choice_right_0 := by
 refine ⟨fun env H ds s h => ?_, fun x env H ds e h => ?_, fun R e k => by kernel_rfl⟩ <;> (simp only [p_value_choice_right_0] at h ⊢; split at h <;> first | (cases h; simp only [List.forall_mem_cons]; simp_all; done) | (cases h; done))
theorem p_value_choice_right_0_ct (κ : Nat) (m : Int) : CutOk Tryz.prog C (G m) Tryz.f122.ntmps 0 (pieceOf (.reg 1) (getBody Tryz.f122)) (p_value_choice_right_0.cut (gcN 0 [4, 5]) (fun (a0, a1, a2, a3, a4, a5, a6, a7, a8, a9, a10, a11) => value_choice_right.v0 κ a0 a1 a2 a3 a4 a5 a6 a7 a8 a9 a10 a11)) :=
 Piece.join p_value_choice_right_0_ok C_ok mixed (gam15_ok κ m) gcN_ok (xN_ok gcN_ok (ex_nil) gcN_ok gcN_ok) (cut := noCut) (X := (xN (gcN 0 [6]) [] (gcN 0 [6]) (gcN 0 [1000000]))) (cuts_by (l := []) (by kernel_rfl) (all_nil)) (fun s => by kernel_rfl)
def cc_value_choice_right_1 (κ : Nat) : Cut T := p_value_choice_right_0.cut (gcN 0 [4, 5]) (fun (a0, a1, a2, a3, a4, a5, a6, a7, a8, a9, a10, a11) => value_choice_right.v0 κ a0 a1 a2 a3 a4 a5 a6 a7 a8 a9 a10 a11)
theorem cc_value_choice_right_1_ok (κ : Nat) (m : Int) : CutOk Tryz.prog C (G m) Tryz.f122.ntmps 0 (pieceOf (.reg 1) (getBody Tryz.f122)) (cc_value_choice_right_1 κ) := p_value_choice_right_0_ct κ m
def ct_value_choice_right_1 (κ : Nat) : Key → Option (Cut T) := addCut noCut (.reg 1) (cc_value_choice_right_1 κ)
def sp_value_choice_right : Spec T (ByteArray × Int × Int × Int × Int × (List ByteArray) × Bool × Int × (List SpecSpec) × Int × Int × ByteArray) (Bool) where
 dcI a H := match a, H with
  | [(.agg []), (.agg [.v (.s a0), .v (.i .i64 a1), .v (.i .i64 a2), .v (.i .u64 a3), .v (.i .u64 a4), .v (.sl 9 a5), .v (.b a6), .v (.i .i64 a7), .v (.sl 31 a8)]), (.agg [.v (.i .i64 a9), .v (.i .u64 a10), .v (.s a11)])], [] => some (a0, a1, a2, a3, a4, a5, a6, a7, a8, a9, a10, a11)
  | _, _ => none
 ecA := fun (a0, a1, a2, a3, a4, a5, a6, a7, a8, a9, a10, a11) => [(.agg []), (.agg [.v (.s a0), .v (.i .i64 a1), .v (.i .i64 a2), .v (.i .u64 a3), .v (.i .u64 a4), .v (.sl 9 a5), .v (.b a6), .v (.i .i64 a7), .v (.sl 31 a8)]), (.agg [.v (.i .i64 a9), .v (.i .u64 a10), .v (.s a11)])]
 ecH := fun _ => []
 dcO o := match o with
  | .ret (.v (.b a0)) [] => some a0
  | _ => none
 goO := fun _ a0 k => k (.ret (.v (.b a0)) [])
 ecO := fun a0 => .ret (.v (.b a0)) []
theorem sp_value_choice_right_ok : SpecOk sp_value_choice_right := by
 refine ⟨fun a H i h => ?_, fun o x h => ?_, fun R e k => by kernel_rfl⟩ <;> (simp only [sp_value_choice_right] at h ⊢; split at h <;> first | (cases h; exact ⟨rfl, rfl⟩) | (cases h; rfl) | (cases h; done))
theorem ok_value_choice_right (κ : Nat) (m : Int) : EOk Tryz.prog C (G m) 122 (sp_value_choice_right.entry (fun (a0, a1, a2, a3, a4, a5, a6, a7, a8, a9, a10, a11) => value_choice_right κ a0 a1 a2 a3 a4 a5 a6 a7 a8 a9 a10 a11)) :=
 Spec.ok sp_value_choice_right_ok C_ok mixed (gam15_ok κ m) (cut := (ct_value_choice_right_1 κ)) (NR := (gcN 0 [0])) (NP := (gcN 0 [0])) (nB := 0) Tryz.func122 (c := (getBody Tryz.f122)) (by kernel_rfl) (by kernel_rfl) (fun i => by kernel_rfl) gcN_ok gcN_ok (cuts_by (l := [(pieceOf (.reg 1) (getBody Tryz.f122), cc_value_choice_right_1 κ)]) (by kernel_rfl) (all_cons (cc_value_choice_right_1_ok κ m) (all_nil))) (fun i => by kernel_rfl)
noncomputable def gam16 (κ : Nat) : Gam T := (gam15 κ).addS 122 sp_value_choice_right (fun (a0, a1, a2, a3, a4, a5, a6, a7, a8, a9, a10, a11) => value_choice_right κ a0 a1 a2 a3 a4 a5 a6 a7 a8 a9 a10 a11)
theorem gam16_ok (κ : Nat) (m : Int) : GOk Tryz.prog C (G m) (gam16 κ) := (gam15_ok κ m).addS (ok_value_choice_right κ m)
def p_value_truth_right_0 : Piece T (Int × Int × ByteArray) (Bool) where
 dcS env H ds := match env 5, H, ds with
  | .ptr 0 0, [.cells 27 none [.v (.i .i64 a0), .v (.i .u64 a1), .v (.s a2)]], [] => some (a0, a1, a2)
  | _, _, _ => none
 slS := fun _ => [(5, .ptr 0 0)]
 obS := fun (a0, a1, a2) => [.cells 27 none [.v (.i .i64 a0), .v (.i .u64 a1), .v (.s a2)]]
 dsS := fun _ => []
 dcE x env H ds := match x, env 6, H, ds with
  | .normal, .v (.b a0), [], [] => some a0
  | _, _, _, _ => none
 exE := fun a0 => .normal
 slE := fun a0 => [(6, .v (.b a0))]
 obE := fun a0 => []
 dsE := fun a0 => []
 goE := fun _ a0 k => k .normal [(6, .v (.b a0))] [] []
theorem p_value_truth_right_0_ok : PieceOk p_value_truth_right_0 := by
 refine ⟨fun env H ds s h => ?_, fun x env H ds e h => ?_, fun R e k => by kernel_rfl⟩ <;> (simp only [p_value_truth_right_0] at h ⊢; split at h <;> first | (cases h; simp only [List.forall_mem_cons]; simp_all; done) | (cases h; done))
theorem p_value_truth_right_0_ct (κ : Nat) (m : Int) : CutOk Tryz.prog C (G m) Tryz.f115.ntmps 0 (pieceOf (.reg 1) (getBody Tryz.f115)) (p_value_truth_right_0.cut (gcN 0 [5]) (fun (a0, a1, a2) => value_truth_right.v0 κ a0 a1 a2)) :=
 Piece.join p_value_truth_right_0_ok C_ok mixed (gam16_ok κ m) gcN_ok (xN_ok gcN_ok (ex_nil) gcN_ok gcN_ok) (cut := noCut) (X := (xN (gcN 0 [6]) [] (gcN 0 [6]) (gcN 0 [1000000]))) (cuts_by (l := []) (by kernel_rfl) (all_nil)) (fun s => by kernel_rfl)
def cc_value_truth_right_1 (κ : Nat) : Cut T := p_value_truth_right_0.cut (gcN 0 [5]) (fun (a0, a1, a2) => value_truth_right.v0 κ a0 a1 a2)
theorem cc_value_truth_right_1_ok (κ : Nat) (m : Int) : CutOk Tryz.prog C (G m) Tryz.f115.ntmps 0 (pieceOf (.reg 1) (getBody Tryz.f115)) (cc_value_truth_right_1 κ) := p_value_truth_right_0_ct κ m
def ct_value_truth_right_1 (κ : Nat) : Key → Option (Cut T) := addCut noCut (.reg 1) (cc_value_truth_right_1 κ)
def sp_value_truth_right : Spec T (ByteArray × Int × Int × Int × Int × (List ByteArray) × Bool × Int × (List SpecSpec) × Int × Int × ByteArray) (Bool) where
 dcI a H := match a, H with
  | [(.agg []), (.agg [.v (.s a0), .v (.i .i64 a1), .v (.i .i64 a2), .v (.i .u64 a3), .v (.i .u64 a4), .v (.sl 9 a5), .v (.b a6), .v (.i .i64 a7), .v (.sl 31 a8)]), (.agg [.v (.i .i64 a9), .v (.i .u64 a10), .v (.s a11)])], [] => some (a0, a1, a2, a3, a4, a5, a6, a7, a8, a9, a10, a11)
  | _, _ => none
 ecA := fun (a0, a1, a2, a3, a4, a5, a6, a7, a8, a9, a10, a11) => [(.agg []), (.agg [.v (.s a0), .v (.i .i64 a1), .v (.i .i64 a2), .v (.i .u64 a3), .v (.i .u64 a4), .v (.sl 9 a5), .v (.b a6), .v (.i .i64 a7), .v (.sl 31 a8)]), (.agg [.v (.i .i64 a9), .v (.i .u64 a10), .v (.s a11)])]
 ecH := fun _ => []
 dcO o := match o with
  | .ret (.v (.b a0)) [] => some a0
  | _ => none
 goO := fun _ a0 k => k (.ret (.v (.b a0)) [])
 ecO := fun a0 => .ret (.v (.b a0)) []
theorem sp_value_truth_right_ok : SpecOk sp_value_truth_right := by
 refine ⟨fun a H i h => ?_, fun o x h => ?_, fun R e k => by kernel_rfl⟩ <;> (simp only [sp_value_truth_right] at h ⊢; split at h <;> first | (cases h; exact ⟨rfl, rfl⟩) | (cases h; rfl) | (cases h; done))
theorem ok_value_truth_right (κ : Nat) (m : Int) : EOk Tryz.prog C (G m) 115 (sp_value_truth_right.entry (fun (a0, a1, a2, a3, a4, a5, a6, a7, a8, a9, a10, a11) => value_truth_right κ a0 a1 a2 a3 a4 a5 a6 a7 a8 a9 a10 a11)) :=
 Spec.ok sp_value_truth_right_ok C_ok mixed (gam16_ok κ m) (cut := (ct_value_truth_right_1 κ)) (NR := (gcN 0 [0])) (NP := (gcN 0 [0])) (nB := 0) Tryz.func115 (c := (getBody Tryz.f115)) (by kernel_rfl) (by kernel_rfl) (fun i => by kernel_rfl) gcN_ok gcN_ok (cuts_by (l := [(pieceOf (.reg 1) (getBody Tryz.f115), cc_value_truth_right_1 κ)]) (by kernel_rfl) (all_cons (cc_value_truth_right_1_ok κ m) (all_nil))) (fun i => by kernel_rfl)
noncomputable def gam17 (κ : Nat) : Gam T := (gam16 κ).addS 115 sp_value_truth_right (fun (a0, a1, a2, a3, a4, a5, a6, a7, a8, a9, a10, a11) => value_truth_right κ a0 a1 a2 a3 a4 a5 a6 a7 a8 a9 a10 a11)
theorem gam17_ok (κ : Nat) (m : Int) : GOk Tryz.prog C (G m) (gam17 κ) := (gam16_ok κ m).addS (ok_value_truth_right κ m)
def p_value_number_right_0 : Piece T (ByteArray × Int × Int × Int × Int × (List ByteArray) × Bool × Int × (List SpecSpec) × Int × Int × ByteArray) (Bool) where
 dcS env H ds := match env 4, env 5, H, ds with
  | .ptr 0 0, .ptr 1 0, [.cells 31 none [.v (.s a0), .v (.i .i64 a1), .v (.i .i64 a2), .v (.i .u64 a3), .v (.i .u64 a4), .v (.sl 9 a5), .v (.b a6), .v (.i .i64 a7), .v (.sl 31 a8)], .cells 27 none [.v (.i .i64 a9), .v (.i .u64 a10), .v (.s a11)]], [] => some (a0, a1, a2, a3, a4, a5, a6, a7, a8, a9, a10, a11)
  | _, _, _, _ => none
 slS := fun _ => [(4, .ptr 0 0), (5, .ptr 1 0)]
 obS := fun (a0, a1, a2, a3, a4, a5, a6, a7, a8, a9, a10, a11) => [.cells 31 none [.v (.s a0), .v (.i .i64 a1), .v (.i .i64 a2), .v (.i .u64 a3), .v (.i .u64 a4), .v (.sl 9 a5), .v (.b a6), .v (.i .i64 a7), .v (.sl 31 a8)], .cells 27 none [.v (.i .i64 a9), .v (.i .u64 a10), .v (.s a11)]]
 dsS := fun _ => []
 dcE x env H ds := match x, env 6, H, ds with
  | .normal, .v (.b a0), [], [] => some a0
  | _, _, _, _ => none
 exE := fun a0 => .normal
 slE := fun a0 => [(6, .v (.b a0))]
 obE := fun a0 => []
 dsE := fun a0 => []
 goE := fun _ a0 k => k .normal [(6, .v (.b a0))] [] []
theorem p_value_number_right_0_ok : PieceOk p_value_number_right_0 := by
 refine ⟨fun env H ds s h => ?_, fun x env H ds e h => ?_, fun R e k => by kernel_rfl⟩ <;> (simp only [p_value_number_right_0] at h ⊢; split at h <;> first | (cases h; simp only [List.forall_mem_cons]; simp_all; done) | (cases h; done))
theorem p_value_number_right_0_ct (κ : Nat) (m : Int) : CutOk Tryz.prog C (G m) Tryz.f107.ntmps 0 (pieceOf (.reg 1) (getBody Tryz.f107)) (p_value_number_right_0.cut (gcN 0 [4, 5]) (fun (a0, a1, a2, a3, a4, a5, a6, a7, a8, a9, a10, a11) => value_number_right.v0 κ a0 a1 a2 a3 a4 a5 a6 a7 a8 a9 a10 a11)) :=
 Piece.join p_value_number_right_0_ok C_ok mixed (gam17_ok κ m) gcN_ok (xN_ok gcN_ok (ex_nil) gcN_ok gcN_ok) (cut := noCut) (X := (xN (gcN 0 [6]) [] (gcN 0 [6]) (gcN 0 [1000000]))) (cuts_by (l := []) (by kernel_rfl) (all_nil)) (fun s => by kernel_rfl)
def cc_value_number_right_1 (κ : Nat) : Cut T := p_value_number_right_0.cut (gcN 0 [4, 5]) (fun (a0, a1, a2, a3, a4, a5, a6, a7, a8, a9, a10, a11) => value_number_right.v0 κ a0 a1 a2 a3 a4 a5 a6 a7 a8 a9 a10 a11)
theorem cc_value_number_right_1_ok (κ : Nat) (m : Int) : CutOk Tryz.prog C (G m) Tryz.f107.ntmps 0 (pieceOf (.reg 1) (getBody Tryz.f107)) (cc_value_number_right_1 κ) := p_value_number_right_0_ct κ m
def ct_value_number_right_1 (κ : Nat) : Key → Option (Cut T) := addCut noCut (.reg 1) (cc_value_number_right_1 κ)
def sp_value_number_right : Spec T (ByteArray × Int × Int × Int × Int × (List ByteArray) × Bool × Int × (List SpecSpec) × Int × Int × ByteArray) (Bool) where
 dcI a H := match a, H with
  | [(.agg [(.fn (.func 39) [] []), (.fn (.func 40) [] [])]), (.agg [.v (.s a0), .v (.i .i64 a1), .v (.i .i64 a2), .v (.i .u64 a3), .v (.i .u64 a4), .v (.sl 9 a5), .v (.b a6), .v (.i .i64 a7), .v (.sl 31 a8)]), (.agg [.v (.i .i64 a9), .v (.i .u64 a10), .v (.s a11)])], [] => some (a0, a1, a2, a3, a4, a5, a6, a7, a8, a9, a10, a11)
  | _, _ => none
 ecA := fun (a0, a1, a2, a3, a4, a5, a6, a7, a8, a9, a10, a11) => [(.agg [(.fn (.func 39) [] []), (.fn (.func 40) [] [])]), (.agg [.v (.s a0), .v (.i .i64 a1), .v (.i .i64 a2), .v (.i .u64 a3), .v (.i .u64 a4), .v (.sl 9 a5), .v (.b a6), .v (.i .i64 a7), .v (.sl 31 a8)]), (.agg [.v (.i .i64 a9), .v (.i .u64 a10), .v (.s a11)])]
 ecH := fun _ => []
 dcO o := match o with
  | .ret (.v (.b a0)) [] => some a0
  | _ => none
 goO := fun _ a0 k => k (.ret (.v (.b a0)) [])
 ecO := fun a0 => .ret (.v (.b a0)) []
theorem sp_value_number_right_ok : SpecOk sp_value_number_right := by
 refine ⟨fun a H i h => ?_, fun o x h => ?_, fun R e k => by kernel_rfl⟩ <;> (simp only [sp_value_number_right] at h ⊢; split at h <;> first | (cases h; exact ⟨rfl, rfl⟩) | (cases h; rfl) | (cases h; done))
theorem ok_value_number_right (κ : Nat) (m : Int) : EOk Tryz.prog C (G m) 107 (sp_value_number_right.entry (fun (a0, a1, a2, a3, a4, a5, a6, a7, a8, a9, a10, a11) => value_number_right κ a0 a1 a2 a3 a4 a5 a6 a7 a8 a9 a10 a11)) :=
 Spec.ok sp_value_number_right_ok C_ok mixed (gam17_ok κ m) (cut := (ct_value_number_right_1 κ)) (NR := (gcN 0 [0])) (NP := (gcN 0 [0])) (nB := 0) Tryz.func107 (c := (getBody Tryz.f107)) (by kernel_rfl) (by kernel_rfl) (fun i => by kernel_rfl) gcN_ok gcN_ok (cuts_by (l := [(pieceOf (.reg 1) (getBody Tryz.f107), cc_value_number_right_1 κ)]) (by kernel_rfl) (all_cons (cc_value_number_right_1_ok κ m) (all_nil))) (fun i => by kernel_rfl)
noncomputable def gam18 (κ : Nat) : Gam T := (gam17 κ).addS 107 sp_value_number_right (fun (a0, a1, a2, a3, a4, a5, a6, a7, a8, a9, a10, a11) => value_number_right κ a0 a1 a2 a3 a4 a5 a6 a7 a8 a9 a10 a11)
theorem gam18_ok (κ : Nat) (m : Int) : GOk Tryz.prog C (G m) (gam18 κ) := (gam17_ok κ m).addS (ok_value_number_right κ m)
def p_value_number_right_2_0 : Piece T (ByteArray × Int × Int × Int × Int × (List ByteArray) × Bool × Int × (List SpecSpec) × Int × Int × ByteArray) (Bool) where
 dcS env H ds := match env 4, env 5, H, ds with
  | .ptr 0 0, .ptr 1 0, [.cells 31 none [.v (.s a0), .v (.i .i64 a1), .v (.i .i64 a2), .v (.i .u64 a3), .v (.i .u64 a4), .v (.sl 9 a5), .v (.b a6), .v (.i .i64 a7), .v (.sl 31 a8)], .cells 27 none [.v (.i .i64 a9), .v (.i .u64 a10), .v (.s a11)]], [] => some (a0, a1, a2, a3, a4, a5, a6, a7, a8, a9, a10, a11)
  | _, _, _, _ => none
 slS := fun _ => [(4, .ptr 0 0), (5, .ptr 1 0)]
 obS := fun (a0, a1, a2, a3, a4, a5, a6, a7, a8, a9, a10, a11) => [.cells 31 none [.v (.s a0), .v (.i .i64 a1), .v (.i .i64 a2), .v (.i .u64 a3), .v (.i .u64 a4), .v (.sl 9 a5), .v (.b a6), .v (.i .i64 a7), .v (.sl 31 a8)], .cells 27 none [.v (.i .i64 a9), .v (.i .u64 a10), .v (.s a11)]]
 dsS := fun _ => []
 dcE x env H ds := match x, env 6, H, ds with
  | .normal, .v (.b a0), [], [] => some a0
  | _, _, _, _ => none
 exE := fun a0 => .normal
 slE := fun a0 => [(6, .v (.b a0))]
 obE := fun a0 => []
 dsE := fun a0 => []
 goE := fun _ a0 k => k .normal [(6, .v (.b a0))] [] []
theorem p_value_number_right_2_0_ok : PieceOk p_value_number_right_2_0 := by
 refine ⟨fun env H ds s h => ?_, fun x env H ds e h => ?_, fun R e k => by kernel_rfl⟩ <;> (simp only [p_value_number_right_2_0] at h ⊢; split at h <;> first | (cases h; simp only [List.forall_mem_cons]; simp_all; done) | (cases h; done))
theorem p_value_number_right_2_0_ct (κ : Nat) (m : Int) : CutOk Tryz.prog C (G m) Tryz.f107.ntmps 0 (pieceOf (.reg 1) (getBody Tryz.f107)) (p_value_number_right_2_0.cut (gcN 0 [4, 5]) (fun (a0, a1, a2, a3, a4, a5, a6, a7, a8, a9, a10, a11) => value_number_right_2.v0 κ a0 a1 a2 a3 a4 a5 a6 a7 a8 a9 a10 a11)) :=
 Piece.join p_value_number_right_2_0_ok C_ok mixed (gam18_ok κ m) gcN_ok (xN_ok gcN_ok (ex_nil) gcN_ok gcN_ok) (cut := noCut) (X := (xN (gcN 0 [6]) [] (gcN 0 [6]) (gcN 0 [1000000]))) (cuts_by (l := []) (by kernel_rfl) (all_nil)) (fun s => by kernel_rfl)
def cc_value_number_right_2_1 (κ : Nat) : Cut T := p_value_number_right_2_0.cut (gcN 0 [4, 5]) (fun (a0, a1, a2, a3, a4, a5, a6, a7, a8, a9, a10, a11) => value_number_right_2.v0 κ a0 a1 a2 a3 a4 a5 a6 a7 a8 a9 a10 a11)
theorem cc_value_number_right_2_1_ok (κ : Nat) (m : Int) : CutOk Tryz.prog C (G m) Tryz.f107.ntmps 0 (pieceOf (.reg 1) (getBody Tryz.f107)) (cc_value_number_right_2_1 κ) := p_value_number_right_2_0_ct κ m
def ct_value_number_right_2_1 (κ : Nat) : Key → Option (Cut T) := addCut noCut (.reg 1) (cc_value_number_right_2_1 κ)
def sp_value_number_right_2 : Spec T (ByteArray × Int × Int × Int × Int × (List ByteArray) × Bool × Int × (List SpecSpec) × Int × Int × ByteArray) (Bool) where
 dcI a H := match a, H with
  | [(.agg [(.fn (.func 37) [] []), (.fn (.func 38) [] [])]), (.agg [.v (.s a0), .v (.i .i64 a1), .v (.i .i64 a2), .v (.i .u64 a3), .v (.i .u64 a4), .v (.sl 9 a5), .v (.b a6), .v (.i .i64 a7), .v (.sl 31 a8)]), (.agg [.v (.i .i64 a9), .v (.i .u64 a10), .v (.s a11)])], [] => some (a0, a1, a2, a3, a4, a5, a6, a7, a8, a9, a10, a11)
  | _, _ => none
 ecA := fun (a0, a1, a2, a3, a4, a5, a6, a7, a8, a9, a10, a11) => [(.agg [(.fn (.func 37) [] []), (.fn (.func 38) [] [])]), (.agg [.v (.s a0), .v (.i .i64 a1), .v (.i .i64 a2), .v (.i .u64 a3), .v (.i .u64 a4), .v (.sl 9 a5), .v (.b a6), .v (.i .i64 a7), .v (.sl 31 a8)]), (.agg [.v (.i .i64 a9), .v (.i .u64 a10), .v (.s a11)])]
 ecH := fun _ => []
 dcO o := match o with
  | .ret (.v (.b a0)) [] => some a0
  | _ => none
 goO := fun _ a0 k => k (.ret (.v (.b a0)) [])
 ecO := fun a0 => .ret (.v (.b a0)) []
theorem sp_value_number_right_2_ok : SpecOk sp_value_number_right_2 := by
 refine ⟨fun a H i h => ?_, fun o x h => ?_, fun R e k => by kernel_rfl⟩ <;> (simp only [sp_value_number_right_2] at h ⊢; split at h <;> first | (cases h; exact ⟨rfl, rfl⟩) | (cases h; rfl) | (cases h; done))
theorem ok_value_number_right_2 (κ : Nat) (m : Int) : EOk Tryz.prog C (G m) 107 (sp_value_number_right_2.entry (fun (a0, a1, a2, a3, a4, a5, a6, a7, a8, a9, a10, a11) => value_number_right_2 κ a0 a1 a2 a3 a4 a5 a6 a7 a8 a9 a10 a11)) :=
 Spec.ok sp_value_number_right_2_ok C_ok mixed (gam18_ok κ m) (cut := (ct_value_number_right_2_1 κ)) (NR := (gcN 0 [0])) (NP := (gcN 0 [0])) (nB := 0) Tryz.func107 (c := (getBody Tryz.f107)) (by kernel_rfl) (by kernel_rfl) (fun i => by kernel_rfl) gcN_ok gcN_ok (cuts_by (l := [(pieceOf (.reg 1) (getBody Tryz.f107), cc_value_number_right_2_1 κ)]) (by kernel_rfl) (all_cons (cc_value_number_right_2_1_ok κ m) (all_nil))) (fun i => by kernel_rfl)
noncomputable def gam19 (κ : Nat) : Gam T := (gam18 κ).addS 107 sp_value_number_right_2 (fun (a0, a1, a2, a3, a4, a5, a6, a7, a8, a9, a10, a11) => value_number_right_2 κ a0 a1 a2 a3 a4 a5 a6 a7 a8 a9 a10 a11)
theorem gam19_ok (κ : Nat) (m : Int) : GOk Tryz.prog C (G m) (gam19 κ) := (gam18_ok κ m).addS (ok_value_number_right_2 κ m)
def p_value_Right_0 : Piece T (ByteArray × Int × Int × Int × Int × (List ByteArray) × Bool × Int × (List SpecSpec) × Int × Int × ByteArray) (Bool) where
 dcS env H ds := match env 2, env 3, env 5, H, ds with
  | .ptr 0 0, .ptr 1 0, .v .if0, [.cells 31 none [.v (.s a0), .v (.i .i64 a1), .v (.i .i64 a2), .v (.i .u64 a3), .v (.i .u64 a4), .v (.sl 9 a5), .v (.b a6), .v (.i .i64 a7), .v (.sl 31 a8)], .cells 27 none [.v (.i .i64 a9), .v (.i .u64 a10), .v (.s a11)]], [] => some (a0, a1, a2, a3, a4, a5, a6, a7, a8, a9, a10, a11)
  | _, _, _, _, _ => none
 slS := fun _ => [(2, .ptr 0 0), (3, .ptr 1 0), (5, .v .if0)]
 obS := fun (a0, a1, a2, a3, a4, a5, a6, a7, a8, a9, a10, a11) => [.cells 31 none [.v (.s a0), .v (.i .i64 a1), .v (.i .i64 a2), .v (.i .u64 a3), .v (.i .u64 a4), .v (.sl 9 a5), .v (.b a6), .v (.i .i64 a7), .v (.sl 31 a8)], .cells 27 none [.v (.i .i64 a9), .v (.i .u64 a10), .v (.s a11)]]
 dsS := fun _ => []
 dcE x env H ds := match x, env 4, H, ds with
  | .normal, .v (.b a0), [], [] => some a0
  | _, _, _, _ => none
 exE := fun a0 => .normal
 slE := fun a0 => [(4, .v (.b a0))]
 obE := fun a0 => []
 dsE := fun a0 => []
 goE := fun _ a0 k => k .normal [(4, .v (.b a0))] [] []
theorem p_value_Right_0_ok : PieceOk p_value_Right_0 := by
 refine ⟨fun env H ds s h => ?_, fun x env H ds e h => ?_, fun R e k => by kernel_rfl⟩ <;> (simp only [p_value_Right_0] at h ⊢; split at h <;> first | (cases h; simp only [List.forall_mem_cons]; simp_all; done) | (cases h; done))
theorem p_value_Right_0_ct (κ : Nat) (m : Int) : CutOk Tryz.prog C (G m) Tryz.f11.ntmps 0 (pieceOf (.reg 2) (getBody Tryz.f11)) (p_value_Right_0.cut (gcN 0 [2, 3, 5]) (fun (a0, a1, a2, a3, a4, a5, a6, a7, a8, a9, a10, a11) => value_Right.v0 κ a0 a1 a2 a3 a4 a5 a6 a7 a8 a9 a10 a11)) :=
 Piece.join p_value_Right_0_ok C_ok mixed (gam11_ok κ m) gcN_ok (xN_ok gcN_ok (ex_nil) gcN_ok gcN_ok) (cut := noCut) (X := (xN (gcN 0 [4]) [] (gcN 0 [4]) (gcN 0 [1000000]))) (cuts_by (l := []) (by kernel_rfl) (all_nil)) (fun s => by kernel_rfl)
def p_value_Right_1 : Piece T (ByteArray × Int × Int × Int × Int × (List ByteArray) × Bool × Int × (List SpecSpec) × Int × Int × ByteArray) (Bool) where
 dcS env H ds := match env 2, env 3, env 5, H, ds with
  | .ptr 0 0, .ptr 1 0, (.ifc 80 (.agg [])), [.cells 31 none [.v (.s a0), .v (.i .i64 a1), .v (.i .i64 a2), .v (.i .u64 a3), .v (.i .u64 a4), .v (.sl 9 a5), .v (.b a6), .v (.i .i64 a7), .v (.sl 31 a8)], .cells 27 none [.v (.i .i64 a9), .v (.i .u64 a10), .v (.s a11)]], [] => some (a0, a1, a2, a3, a4, a5, a6, a7, a8, a9, a10, a11)
  | _, _, _, _, _ => none
 slS := fun _ => [(2, .ptr 0 0), (3, .ptr 1 0), (5, (.ifc 80 (.agg [])))]
 obS := fun (a0, a1, a2, a3, a4, a5, a6, a7, a8, a9, a10, a11) => [.cells 31 none [.v (.s a0), .v (.i .i64 a1), .v (.i .i64 a2), .v (.i .u64 a3), .v (.i .u64 a4), .v (.sl 9 a5), .v (.b a6), .v (.i .i64 a7), .v (.sl 31 a8)], .cells 27 none [.v (.i .i64 a9), .v (.i .u64 a10), .v (.s a11)]]
 dsS := fun _ => []
 dcE x env H ds := match x, env 4, H, ds with
  | .normal, .v (.b a0), [], [] => some a0
  | _, _, _, _ => none
 exE := fun a0 => .normal
 slE := fun a0 => [(4, .v (.b a0))]
 obE := fun a0 => []
 dsE := fun a0 => []
 goE := fun _ a0 k => k .normal [(4, .v (.b a0))] [] []
theorem p_value_Right_1_ok : PieceOk p_value_Right_1 := by
 refine ⟨fun env H ds s h => ?_, fun x env H ds e h => ?_, fun R e k => by kernel_rfl⟩ <;> (simp only [p_value_Right_1] at h ⊢; split at h <;> first | (cases h; simp only [List.forall_mem_cons]; simp_all; done) | (cases h; done))
theorem p_value_Right_1_ct (κ : Nat) (m : Int) : CutOk Tryz.prog C (G m) Tryz.f11.ntmps 0 (pieceOf (.reg 2) (getBody Tryz.f11)) (p_value_Right_1.cut (gcN 0 [2, 3, 5]) (fun (a0, a1, a2, a3, a4, a5, a6, a7, a8, a9, a10, a11) => value_Right.v1 κ a0 a1 a2 a3 a4 a5 a6 a7 a8 a9 a10 a11)) :=
 Piece.join p_value_Right_1_ok C_ok mixed (gam13_ok κ m) gcN_ok (xN_ok gcN_ok (ex_nil) gcN_ok gcN_ok) (cut := noCut) (X := (xN (gcN 0 [4]) [] (gcN 0 [4]) (gcN 0 [1000000]))) (cuts_by (l := []) (by kernel_rfl) (all_nil)) (fun s => by kernel_rfl)
def p_value_Right_2 : Piece T (ByteArray × Int × Int × Int × Int × (List ByteArray) × Bool × Int × (List SpecSpec) × Int × Int × ByteArray) (Bool) where
 dcS env H ds := match env 2, env 3, env 5, H, ds with
  | .ptr 0 0, .ptr 1 0, (.ifc 79 (.agg [])), [.cells 31 none [.v (.s a0), .v (.i .i64 a1), .v (.i .i64 a2), .v (.i .u64 a3), .v (.i .u64 a4), .v (.sl 9 a5), .v (.b a6), .v (.i .i64 a7), .v (.sl 31 a8)], .cells 27 none [.v (.i .i64 a9), .v (.i .u64 a10), .v (.s a11)]], [] => some (a0, a1, a2, a3, a4, a5, a6, a7, a8, a9, a10, a11)
  | _, _, _, _, _ => none
 slS := fun _ => [(2, .ptr 0 0), (3, .ptr 1 0), (5, (.ifc 79 (.agg [])))]
 obS := fun (a0, a1, a2, a3, a4, a5, a6, a7, a8, a9, a10, a11) => [.cells 31 none [.v (.s a0), .v (.i .i64 a1), .v (.i .i64 a2), .v (.i .u64 a3), .v (.i .u64 a4), .v (.sl 9 a5), .v (.b a6), .v (.i .i64 a7), .v (.sl 31 a8)], .cells 27 none [.v (.i .i64 a9), .v (.i .u64 a10), .v (.s a11)]]
 dsS := fun _ => []
 dcE x env H ds := match x, env 4, H, ds with
  | .normal, .v (.b a0), [], [] => some a0
  | _, _, _, _ => none
 exE := fun a0 => .normal
 slE := fun a0 => [(4, .v (.b a0))]
 obE := fun a0 => []
 dsE := fun a0 => []
 goE := fun _ a0 k => k .normal [(4, .v (.b a0))] [] []
theorem p_value_Right_2_ok : PieceOk p_value_Right_2 := by
 refine ⟨fun env H ds s h => ?_, fun x env H ds e h => ?_, fun R e k => by kernel_rfl⟩ <;> (simp only [p_value_Right_2] at h ⊢; split at h <;> first | (cases h; simp only [List.forall_mem_cons]; simp_all; done) | (cases h; done))
theorem p_value_Right_2_ct (κ : Nat) (m : Int) : CutOk Tryz.prog C (G m) Tryz.f11.ntmps 0 (pieceOf (.reg 2) (getBody Tryz.f11)) (p_value_Right_2.cut (gcN 0 [2, 3, 5]) (fun (a0, a1, a2, a3, a4, a5, a6, a7, a8, a9, a10, a11) => value_Right.v2 κ a0 a1 a2 a3 a4 a5 a6 a7 a8 a9 a10 a11)) :=
 Piece.join p_value_Right_2_ok C_ok mixed (gam16_ok κ m) gcN_ok (xN_ok gcN_ok (ex_nil) gcN_ok gcN_ok) (cut := noCut) (X := (xN (gcN 0 [4]) [] (gcN 0 [4]) (gcN 0 [1000000]))) (cuts_by (l := []) (by kernel_rfl) (all_nil)) (fun s => by kernel_rfl)
def p_value_Right_3 : Piece T (ByteArray × Int × Int × Int × Int × (List ByteArray) × Bool × Int × (List SpecSpec) × Int × Int × ByteArray) (Bool) where
 dcS env H ds := match env 2, env 3, env 5, H, ds with
  | .ptr 0 0, .ptr 1 0, (.ifc 78 (.agg [])), [.cells 31 none [.v (.s a0), .v (.i .i64 a1), .v (.i .i64 a2), .v (.i .u64 a3), .v (.i .u64 a4), .v (.sl 9 a5), .v (.b a6), .v (.i .i64 a7), .v (.sl 31 a8)], .cells 27 none [.v (.i .i64 a9), .v (.i .u64 a10), .v (.s a11)]], [] => some (a0, a1, a2, a3, a4, a5, a6, a7, a8, a9, a10, a11)
  | _, _, _, _, _ => none
 slS := fun _ => [(2, .ptr 0 0), (3, .ptr 1 0), (5, (.ifc 78 (.agg [])))]
 obS := fun (a0, a1, a2, a3, a4, a5, a6, a7, a8, a9, a10, a11) => [.cells 31 none [.v (.s a0), .v (.i .i64 a1), .v (.i .i64 a2), .v (.i .u64 a3), .v (.i .u64 a4), .v (.sl 9 a5), .v (.b a6), .v (.i .i64 a7), .v (.sl 31 a8)], .cells 27 none [.v (.i .i64 a9), .v (.i .u64 a10), .v (.s a11)]]
 dsS := fun _ => []
 dcE x env H ds := match x, env 4, H, ds with
  | .normal, .v (.b a0), [], [] => some a0
  | _, _, _, _ => none
 exE := fun a0 => .normal
 slE := fun a0 => [(4, .v (.b a0))]
 obE := fun a0 => []
 dsE := fun a0 => []
 goE := fun _ a0 k => k .normal [(4, .v (.b a0))] [] []
theorem p_value_Right_3_ok : PieceOk p_value_Right_3 := by
 refine ⟨fun env H ds s h => ?_, fun x env H ds e h => ?_, fun R e k => by kernel_rfl⟩ <;> (simp only [p_value_Right_3] at h ⊢; split at h <;> first | (cases h; simp only [List.forall_mem_cons]; simp_all; done) | (cases h; done))
theorem p_value_Right_3_ct (κ : Nat) (m : Int) : CutOk Tryz.prog C (G m) Tryz.f11.ntmps 0 (pieceOf (.reg 2) (getBody Tryz.f11)) (p_value_Right_3.cut (gcN 0 [2, 3, 5]) (fun (a0, a1, a2, a3, a4, a5, a6, a7, a8, a9, a10, a11) => value_Right.v3 κ a0 a1 a2 a3 a4 a5 a6 a7 a8 a9 a10 a11)) :=
 Piece.join p_value_Right_3_ok C_ok mixed (gam17_ok κ m) gcN_ok (xN_ok gcN_ok (ex_nil) gcN_ok gcN_ok) (cut := noCut) (X := (xN (gcN 0 [4]) [] (gcN 0 [4]) (gcN 0 [1000000]))) (cuts_by (l := []) (by kernel_rfl) (all_nil)) (fun s => by kernel_rfl)
def p_value_Right_4 : Piece T (ByteArray × Int × Int × Int × Int × (List ByteArray) × Bool × Int × (List SpecSpec) × Int × Int × ByteArray) (Bool) where
 dcS env H ds := match env 2, env 3, env 5, H, ds with
  | .ptr 0 0, .ptr 1 0, (.ifc 76 (.agg [(.fn (.func 39) [] []), (.fn (.func 40) [] [])])), [.cells 31 none [.v (.s a0), .v (.i .i64 a1), .v (.i .i64 a2), .v (.i .u64 a3), .v (.i .u64 a4), .v (.sl 9 a5), .v (.b a6), .v (.i .i64 a7), .v (.sl 31 a8)], .cells 27 none [.v (.i .i64 a9), .v (.i .u64 a10), .v (.s a11)]], [] => some (a0, a1, a2, a3, a4, a5, a6, a7, a8, a9, a10, a11)
  | _, _, _, _, _ => none
 slS := fun _ => [(2, .ptr 0 0), (3, .ptr 1 0), (5, (.ifc 76 (.agg [(.fn (.func 39) [] []), (.fn (.func 40) [] [])])))]
 obS := fun (a0, a1, a2, a3, a4, a5, a6, a7, a8, a9, a10, a11) => [.cells 31 none [.v (.s a0), .v (.i .i64 a1), .v (.i .i64 a2), .v (.i .u64 a3), .v (.i .u64 a4), .v (.sl 9 a5), .v (.b a6), .v (.i .i64 a7), .v (.sl 31 a8)], .cells 27 none [.v (.i .i64 a9), .v (.i .u64 a10), .v (.s a11)]]
 dsS := fun _ => []
 dcE x env H ds := match x, env 4, H, ds with
  | .normal, .v (.b a0), [], [] => some a0
  | _, _, _, _ => none
 exE := fun a0 => .normal
 slE := fun a0 => [(4, .v (.b a0))]
 obE := fun a0 => []
 dsE := fun a0 => []
 goE := fun _ a0 k => k .normal [(4, .v (.b a0))] [] []
theorem p_value_Right_4_ok : PieceOk p_value_Right_4 := by
 refine ⟨fun env H ds s h => ?_, fun x env H ds e h => ?_, fun R e k => by kernel_rfl⟩ <;> (simp only [p_value_Right_4] at h ⊢; split at h <;> first | (cases h; simp only [List.forall_mem_cons]; simp_all; done) | (cases h; done))
theorem p_value_Right_4_ct (κ : Nat) (m : Int) : CutOk Tryz.prog C (G m) Tryz.f11.ntmps 0 (pieceOf (.reg 2) (getBody Tryz.f11)) (p_value_Right_4.cut (gcN 0 [2, 3, 5]) (fun (a0, a1, a2, a3, a4, a5, a6, a7, a8, a9, a10, a11) => value_Right.v4 κ a0 a1 a2 a3 a4 a5 a6 a7 a8 a9 a10 a11)) :=
 Piece.join p_value_Right_4_ok C_ok mixed (gam18_ok κ m) gcN_ok (xN_ok gcN_ok (ex_nil) gcN_ok gcN_ok) (cut := noCut) (X := (xN (gcN 0 [4]) [] (gcN 0 [4]) (gcN 0 [1000000]))) (cuts_by (l := []) (by kernel_rfl) (all_nil)) (fun s => by kernel_rfl)
def p_value_Right_5 : Piece T (ByteArray × Int × Int × Int × Int × (List ByteArray) × Bool × Int × (List SpecSpec) × Int × Int × ByteArray) (Bool) where
 dcS env H ds := match env 2, env 3, env 5, H, ds with
  | .ptr 0 0, .ptr 1 0, (.ifc 76 (.agg [(.fn (.func 37) [] []), (.fn (.func 38) [] [])])), [.cells 31 none [.v (.s a0), .v (.i .i64 a1), .v (.i .i64 a2), .v (.i .u64 a3), .v (.i .u64 a4), .v (.sl 9 a5), .v (.b a6), .v (.i .i64 a7), .v (.sl 31 a8)], .cells 27 none [.v (.i .i64 a9), .v (.i .u64 a10), .v (.s a11)]], [] => some (a0, a1, a2, a3, a4, a5, a6, a7, a8, a9, a10, a11)
  | _, _, _, _, _ => none
 slS := fun _ => [(2, .ptr 0 0), (3, .ptr 1 0), (5, (.ifc 76 (.agg [(.fn (.func 37) [] []), (.fn (.func 38) [] [])])))]
 obS := fun (a0, a1, a2, a3, a4, a5, a6, a7, a8, a9, a10, a11) => [.cells 31 none [.v (.s a0), .v (.i .i64 a1), .v (.i .i64 a2), .v (.i .u64 a3), .v (.i .u64 a4), .v (.sl 9 a5), .v (.b a6), .v (.i .i64 a7), .v (.sl 31 a8)], .cells 27 none [.v (.i .i64 a9), .v (.i .u64 a10), .v (.s a11)]]
 dsS := fun _ => []
 dcE x env H ds := match x, env 4, H, ds with
  | .normal, .v (.b a0), [], [] => some a0
  | _, _, _, _ => none
 exE := fun a0 => .normal
 slE := fun a0 => [(4, .v (.b a0))]
 obE := fun a0 => []
 dsE := fun a0 => []
 goE := fun _ a0 k => k .normal [(4, .v (.b a0))] [] []
theorem p_value_Right_5_ok : PieceOk p_value_Right_5 := by
 refine ⟨fun env H ds s h => ?_, fun x env H ds e h => ?_, fun R e k => by kernel_rfl⟩ <;> (simp only [p_value_Right_5] at h ⊢; split at h <;> first | (cases h; simp only [List.forall_mem_cons]; simp_all; done) | (cases h; done))
theorem p_value_Right_5_ct (κ : Nat) (m : Int) : CutOk Tryz.prog C (G m) Tryz.f11.ntmps 0 (pieceOf (.reg 2) (getBody Tryz.f11)) (p_value_Right_5.cut (gcN 0 [2, 3, 5]) (fun (a0, a1, a2, a3, a4, a5, a6, a7, a8, a9, a10, a11) => value_Right.v5 κ a0 a1 a2 a3 a4 a5 a6 a7 a8 a9 a10 a11)) :=
 Piece.join p_value_Right_5_ok C_ok mixed (gam19_ok κ m) gcN_ok (xN_ok gcN_ok (ex_nil) gcN_ok gcN_ok) (cut := noCut) (X := (xN (gcN 0 [4]) [] (gcN 0 [4]) (gcN 0 [1000000]))) (cuts_by (l := []) (by kernel_rfl) (all_nil)) (fun s => by kernel_rfl)
def cc_value_Right_6 (κ : Nat) : Cut T := p_value_Right_0.cutOr (gcN 0 [2, 3, 5]) (fun (a0, a1, a2, a3, a4, a5, a6, a7, a8, a9, a10, a11) => value_Right.v0 κ a0 a1 a2 a3 a4 a5 a6 a7 a8 a9 a10 a11) (p_value_Right_1.cutOr (gcN 0 [2, 3, 5]) (fun (a0, a1, a2, a3, a4, a5, a6, a7, a8, a9, a10, a11) => value_Right.v1 κ a0 a1 a2 a3 a4 a5 a6 a7 a8 a9 a10 a11) (p_value_Right_2.cutOr (gcN 0 [2, 3, 5]) (fun (a0, a1, a2, a3, a4, a5, a6, a7, a8, a9, a10, a11) => value_Right.v2 κ a0 a1 a2 a3 a4 a5 a6 a7 a8 a9 a10 a11) (p_value_Right_3.cutOr (gcN 0 [2, 3, 5]) (fun (a0, a1, a2, a3, a4, a5, a6, a7, a8, a9, a10, a11) => value_Right.v3 κ a0 a1 a2 a3 a4 a5 a6 a7 a8 a9 a10 a11) (p_value_Right_4.cutOr (gcN 0 [2, 3, 5]) (fun (a0, a1, a2, a3, a4, a5, a6, a7, a8, a9, a10, a11) => value_Right.v4 κ a0 a1 a2 a3 a4 a5 a6 a7 a8 a9 a10 a11) (p_value_Right_5.cut (gcN 0 [2, 3, 5]) (fun (a0, a1, a2, a3, a4, a5, a6, a7, a8, a9, a10, a11) => value_Right.v5 κ a0 a1 a2 a3 a4 a5 a6 a7 a8 a9 a10 a11))))))
theorem cc_value_Right_6_ok (κ : Nat) (m : Int) : CutOk Tryz.prog C (G m) Tryz.f11.ntmps 0 (pieceOf (.reg 2) (getBody Tryz.f11)) (cc_value_Right_6 κ) := Piece.or_ok (p_value_Right_0_ct κ m) (Piece.or_ok (p_value_Right_1_ct κ m) (Piece.or_ok (p_value_Right_2_ct κ m) (Piece.or_ok (p_value_Right_3_ct κ m) (Piece.or_ok (p_value_Right_4_ct κ m) (p_value_Right_5_ct κ m)))))
def ct_value_Right_6 (κ : Nat) : Key → Option (Cut T) := addCut noCut (.reg 2) (cc_value_Right_6 κ)
def sp_value_Right : Spec T (ByteArray × Int × Int × Int × Int × (List ByteArray) × Bool × Int × (List SpecSpec) × Int × Int × ByteArray) (Bool) where
 dcI a H := match a, H with
  | [(.agg [.v (.s a0), .v (.i .i64 a1), .v (.i .i64 a2), .v (.i .u64 a3), .v (.i .u64 a4), .v (.sl 9 a5), .v (.b a6), .v (.i .i64 a7), .v (.sl 31 a8)]), (.agg [.v (.i .i64 a9), .v (.i .u64 a10), .v (.s a11)])], [] => some (a0, a1, a2, a3, a4, a5, a6, a7, a8, a9, a10, a11)
  | _, _ => none
 ecA := fun (a0, a1, a2, a3, a4, a5, a6, a7, a8, a9, a10, a11) => [(.agg [.v (.s a0), .v (.i .i64 a1), .v (.i .i64 a2), .v (.i .u64 a3), .v (.i .u64 a4), .v (.sl 9 a5), .v (.b a6), .v (.i .i64 a7), .v (.sl 31 a8)]), (.agg [.v (.i .i64 a9), .v (.i .u64 a10), .v (.s a11)])]
 ecH := fun _ => []
 dcO o := match o with
  | .ret (.v (.b a0)) [] => some a0
  | _ => none
 goO := fun _ a0 k => k (.ret (.v (.b a0)) [])
 ecO := fun a0 => .ret (.v (.b a0)) []
theorem sp_value_Right_ok : SpecOk sp_value_Right := by
 refine ⟨fun a H i h => ?_, fun o x h => ?_, fun R e k => by kernel_rfl⟩ <;> (simp only [sp_value_Right] at h ⊢; split at h <;> first | (cases h; exact ⟨rfl, rfl⟩) | (cases h; rfl) | (cases h; done))
theorem ok_value_Right (κ : Nat) (m : Int) : EOk Tryz.prog C (G m) 11 (sp_value_Right.entry (fun (a0, a1, a2, a3, a4, a5, a6, a7, a8, a9, a10, a11) => value_Right κ a0 a1 a2 a3 a4 a5 a6 a7 a8 a9 a10 a11)) :=
 Spec.ok sp_value_Right_ok C_ok mixed (gam19_ok κ m) (cut := (ct_value_Right_6 κ)) (NR := (gcN 0 [0])) (NP := (gcN 0 [0])) (nB := 0) Tryz.func11 (c := (getBody Tryz.f11)) (by kernel_rfl) (by kernel_rfl) (fun i => by kernel_rfl) gcN_ok gcN_ok (cuts_by (l := [(pieceOf (.reg 2) (getBody Tryz.f11), cc_value_Right_6 κ)]) (by kernel_rfl) (all_cons (cc_value_Right_6_ok κ m) (all_nil))) (fun i => by kernel_rfl)
noncomputable def gam20 (κ : Nat) : Gam T := (gam19 κ).addS 11 sp_value_Right (fun (a0, a1, a2, a3, a4, a5, a6, a7, a8, a9, a10, a11) => value_Right κ a0 a1 a2 a3 a4 a5 a6 a7 a8 a9 a10 a11)
theorem gam20_ok (κ : Nat) (m : Int) : GOk Tryz.prog C (G m) (gam20 κ) := (gam19_ok κ m).addS (ok_value_Right κ m)
def p_value_told_0 : Piece T (Bool × ByteArray × Int × Int × Int × Int × (List ByteArray) × Bool × Int × (List SpecSpec) × Int × Int × ByteArray × Int × Int × ByteArray) (Bool × Int × Int × ByteArray × Int × Int × ByteArray) where
 dcS env H ds := match env 2, env 3, env 4, env 6, H, ds with
  | .v (.b a0), .ptr 0 0, .ptr 1 0, .ptr 2 0, [.cells 31 none [.v (.s a1), .v (.i .i64 a2), .v (.i .i64 a3), .v (.i .u64 a4), .v (.i .u64 a5), .v (.sl 9 a6), .v (.b a7), .v (.i .i64 a8), .v (.sl 31 a9)], .cells 27 none [.v (.i .i64 a10), .v (.i .u64 a11), .v (.s a12)], .cells 27 none [.v (.i .i64 a13), .v (.i .u64 a14), .v (.s a15)]], [] => some (a0, a1, a2, a3, a4, a5, a6, a7, a8, a9, a10, a11, a12, a13, a14, a15)
  | _, _, _, _, _, _ => none
 slS := fun (a0, _) => [(2, .v (.b a0)), (3, .ptr 0 0), (4, .ptr 1 0), (6, .ptr 2 0)]
 obS := fun (_, a1, a2, a3, a4, a5, a6, a7, a8, a9, a10, a11, a12, a13, a14, a15) => [.cells 31 none [.v (.s a1), .v (.i .i64 a2), .v (.i .i64 a3), .v (.i .u64 a4), .v (.i .u64 a5), .v (.sl 9 a6), .v (.b a7), .v (.i .i64 a8), .v (.sl 31 a9)], .cells 27 none [.v (.i .i64 a10), .v (.i .u64 a11), .v (.s a12)], .cells 27 none [.v (.i .i64 a13), .v (.i .u64 a14), .v (.s a15)]]
 dsS := fun _ => []
 dcE x env H ds := match x, env 4, env 6, env 18, H, ds with
  | .normal, .ptr 0 0, .ptr 1 0, .v (.b a0), [.cells 27 none [.v (.i .i64 a1), .v (.i .u64 a2), .v (.s a3)], .cells 27 none [.v (.i .i64 a4), .v (.i .u64 a5), .v (.s a6)]], [] => some (a0, a1, a2, a3, a4, a5, a6)
  | _, _, _, _, _, _ => none
 exE := fun _ => .normal
 slE := fun (a0, _) => [(4, .ptr 0 0), (6, .ptr 1 0), (18, .v (.b a0))]
 obE := fun (_, a1, a2, a3, a4, a5, a6) => [.cells 27 none [.v (.i .i64 a1), .v (.i .u64 a2), .v (.s a3)], .cells 27 none [.v (.i .i64 a4), .v (.i .u64 a5), .v (.s a6)]]
 dsE := fun _ => []
 goE := fun _ (a0, a1, a2, a3, a4, a5, a6) k => k .normal [(4, .ptr 0 0), (6, .ptr 1 0), (18, .v (.b a0))] [.cells 27 none [.v (.i .i64 a1), .v (.i .u64 a2), .v (.s a3)], .cells 27 none [.v (.i .i64 a4), .v (.i .u64 a5), .v (.s a6)]] []
theorem p_value_told_0_ok : PieceOk p_value_told_0 := by
 refine ⟨fun env H ds s h => ?_, fun x env H ds e h => ?_, fun R e k => by kernel_rfl⟩ <;> (simp only [p_value_told_0] at h ⊢; split at h <;> first | (cases h; simp only [List.forall_mem_cons]; simp_all; done) | (cases h; done))
theorem p_value_told_0_ct (κ : Nat) (m : Int) : CutOk Tryz.prog C (G m) Tryz.f28.ntmps 0 (pieceOf (.reg 2) (getBody Tryz.f28)) (p_value_told_0.cut (gcN 0 [2, 3, 4, 6]) (fun (a0, a1, a2, a3, a4, a5, a6, a7, a8, a9, a10, a11, a12, a13, a14, a15) => value_told.v0 κ a0 a1 a2 a3 a4 a5 a6 a7 a8 a9 a10 a11 a12 a13 a14 a15)) :=
 Piece.join p_value_told_0_ok C_ok mixed (gam20_ok κ m) gcN_ok (xN_ok gcN_ok (ex_nil) gcN_ok gcN_ok) (cut := noCut) (X := (xN (gcN 0 [4, 6, 18]) [] (gcN 0 [6, 7]) (gcN 0 [1000000]))) (cuts_by (l := []) (by kernel_rfl) (all_nil)) (fun s => by kernel_rfl)
def cc_value_told_1 (κ : Nat) : Cut T := p_value_told_0.cut (gcN 0 [2, 3, 4, 6]) (fun (a0, a1, a2, a3, a4, a5, a6, a7, a8, a9, a10, a11, a12, a13, a14, a15) => value_told.v0 κ a0 a1 a2 a3 a4 a5 a6 a7 a8 a9 a10 a11 a12 a13 a14 a15)
theorem cc_value_told_1_ok (κ : Nat) (m : Int) : CutOk Tryz.prog C (G m) Tryz.f28.ntmps 0 (pieceOf (.reg 2) (getBody Tryz.f28)) (cc_value_told_1 κ) := p_value_told_0_ct κ m
def ct_value_told_1 (κ : Nat) : Key → Option (Cut T) := addCut noCut (.reg 2) (cc_value_told_1 κ)
def sp_value_told : Spec T (ByteArray × Int × Int × Int × Int × (List ByteArray) × Bool × Int × (List SpecSpec) × Int × Int × ByteArray × Bool) (Int × Int × ByteArray × Int) where
 dcI a H := match a, H with
  | [(.agg [.v (.s a0), .v (.i .i64 a1), .v (.i .i64 a2), .v (.i .u64 a3), .v (.i .u64 a4), .v (.sl 9 a5), .v (.b a6), .v (.i .i64 a7), .v (.sl 31 a8)]), (.agg [.v (.i .i64 a9), .v (.i .u64 a10), .v (.s a11)]), .v (.b a12)], [] => some (a0, a1, a2, a3, a4, a5, a6, a7, a8, a9, a10, a11, a12)
  | _, _ => none
 ecA := fun (a0, a1, a2, a3, a4, a5, a6, a7, a8, a9, a10, a11, a12) => [(.agg [.v (.s a0), .v (.i .i64 a1), .v (.i .i64 a2), .v (.i .u64 a3), .v (.i .u64 a4), .v (.sl 9 a5), .v (.b a6), .v (.i .i64 a7), .v (.sl 31 a8)]), (.agg [.v (.i .i64 a9), .v (.i .u64 a10), .v (.s a11)]), .v (.b a12)]
 ecH := fun _ => []
 dcO o := match o with
  | .ret (.tup [(.agg [.v (.i .i64 a0), .v (.i .u64 a1), .v (.s a2)]), .v (.i .i64 a3)]) [] => some (a0, a1, a2, a3)
  | _ => none
 goO := fun _ (a0, a1, a2, a3) k => k (.ret (.tup [(.agg [.v (.i .i64 a0), .v (.i .u64 a1), .v (.s a2)]), .v (.i .i64 a3)]) [])
 ecO := fun (a0, a1, a2, a3) => .ret (.tup [(.agg [.v (.i .i64 a0), .v (.i .u64 a1), .v (.s a2)]), .v (.i .i64 a3)]) []
theorem sp_value_told_ok : SpecOk sp_value_told := by
 refine ⟨fun a H i h => ?_, fun o x h => ?_, fun R e k => by kernel_rfl⟩ <;> (simp only [sp_value_told] at h ⊢; split at h <;> first | (cases h; exact ⟨rfl, rfl⟩) | (cases h; rfl) | (cases h; done))
theorem ok_value_told (κ : Nat) (m : Int) : EOk Tryz.prog C (G m) 28 (sp_value_told.entry (fun (a0, a1, a2, a3, a4, a5, a6, a7, a8, a9, a10, a11, a12) => value_told κ a0 a1 a2 a3 a4 a5 a6 a7 a8 a9 a10 a11 a12)) :=
 Spec.ok sp_value_told_ok C_ok mixed (gam20_ok κ m) (cut := (ct_value_told_1 κ)) (NR := (gcN 0 [0])) (NP := (gcN 0 [0])) (nB := 0) Tryz.func28 (c := (getBody Tryz.f28)) (by kernel_rfl) (by kernel_rfl) (fun i => by kernel_rfl) gcN_ok gcN_ok (cuts_by (l := [(pieceOf (.reg 2) (getBody Tryz.f28), cc_value_told_1 κ)]) (by kernel_rfl) (all_cons (cc_value_told_1_ok κ m) (all_nil))) (fun i => by kernel_rfl)
noncomputable def gam21 (κ : Nat) : Gam T := (gam20 κ).addS 28 sp_value_told (fun (a0, a1, a2, a3, a4, a5, a6, a7, a8, a9, a10, a11, a12) => value_told κ a0 a1 a2 a3 a4 a5 a6 a7 a8 a9 a10 a11 a12)
theorem gam21_ok (κ : Nat) (m : Int) : GOk Tryz.prog C (G m) (gam21 κ) := (gam20_ok κ m).addS (ok_value_told κ m)
def sp_value_choice_parse : Spec T (ByteArray) (Int × Int × ByteArray × Bool) where
 dcI a H := match a, H with
  | [(.agg []), .v (.s a0)], [] => some a0
  | _, _ => none
 ecA := fun a0 => [(.agg []), .v (.s a0)]
 ecH := fun a0 => []
 dcO o := match o with
  | .ret (.tup [(.agg [.v (.i .i64 a0), .v (.i .u64 a1), .v (.s a2)]), .v (.b a3)]) [] => some (a0, a1, a2, a3)
  | _ => none
 goO := fun _ (a0, a1, a2, a3) k => k (.ret (.tup [(.agg [.v (.i .i64 a0), .v (.i .u64 a1), .v (.s a2)]), .v (.b a3)]) [])
 ecO := fun (a0, a1, a2, a3) => .ret (.tup [(.agg [.v (.i .i64 a0), .v (.i .u64 a1), .v (.s a2)]), .v (.b a3)]) []
theorem sp_value_choice_parse_ok : SpecOk sp_value_choice_parse := by
 refine ⟨fun a H i h => ?_, fun o x h => ?_, fun R e k => by kernel_rfl⟩ <;> (simp only [sp_value_choice_parse] at h ⊢; split at h <;> first | (cases h; exact ⟨rfl, rfl⟩) | (cases h; rfl) | (cases h; done))
theorem ok_value_choice_parse (κ : Nat) (m : Int) : EOk Tryz.prog C (G m) 121 (sp_value_choice_parse.entry (fun a0 => value_choice_parse κ a0)) :=
 Spec.ok sp_value_choice_parse_ok C_ok mixed (gam21_ok κ m) (cut := noCut) (NR := (gcN 0 [0])) (NP := (gcN 0 [0])) (nB := 0) Tryz.func121 (c := (getBody Tryz.f121)) (by kernel_rfl) (by kernel_rfl) (fun i => by kernel_rfl) gcN_ok gcN_ok (cuts_by (l := []) (by kernel_rfl) (all_nil)) (fun i => by kernel_rfl)
noncomputable def gam22 (κ : Nat) : Gam T := (gam21 κ).addS 121 sp_value_choice_parse (fun a0 => value_choice_parse κ a0)
theorem gam22_ok (κ : Nat) (m : Int) : GOk Tryz.prog C (G m) (gam22 κ) := (gam21_ok κ m).addS (ok_value_choice_parse κ m)
def sp_value_truths : Spec T (Unit) ((List ByteArray)) where
 dcI a H := match a, H with
  | [], [] => some ()
  | _, _ => none
 ecA := fun _ => []
 ecH := fun _ => []
 dcO o := match o with
  | .ret (.own 0) [(.row 9 a0 true)] => some a0
  | _ => none
 goO := fun _ a0 k => k (.ret (.own 0) [(.row 9 a0 true)])
 ecO := fun a0 => .ret (.own 0) [(.row 9 a0 true)]
theorem sp_value_truths_ok : SpecOk sp_value_truths := by
 refine ⟨fun a H i h => ?_, fun o x h => ?_, fun R e k => by kernel_rfl⟩ <;> (simp only [sp_value_truths] at h ⊢; split at h <;> first | (cases h; exact ⟨rfl, rfl⟩) | (cases h; rfl) | (cases h; done))
theorem ok_value_truths (κ : Nat) (m : Int) : EOk Tryz.prog C (G m) 119 (sp_value_truths.entry (fun _ => value_truths κ )) :=
 Spec.ok sp_value_truths_ok C_ok mixed (gam22_ok κ m) (cut := noCut) (NR := (gcN 0 [0])) (NP := (gcN 0 [0])) (nB := 0) Tryz.func119 (c := (getBody Tryz.f119)) (by kernel_rfl) (by kernel_rfl) (fun i => by kernel_rfl) gcN_ok gcN_ok (cuts_by (l := []) (by kernel_rfl) (all_nil)) (fun i => by kernel_rfl)
noncomputable def gam23 (κ : Nat) : Gam T := (gam22 κ).addS 119 sp_value_truths (fun _ => value_truths κ )
theorem gam23_ok (κ : Nat) (m : Int) : GOk Tryz.prog C (G m) (gam23 κ) := (gam22_ok κ m).addS (ok_value_truths κ m)
def sp_value_truth_parse : Spec T (ByteArray) (Int × Int × ByteArray × Bool) where
 dcI a H := match a, H with
  | [(.agg []), .v (.s a0)], [] => some a0
  | _, _ => none
 ecA := fun a0 => [(.agg []), .v (.s a0)]
 ecH := fun a0 => []
 dcO o := match o with
  | .ret (.tup [(.agg [.v (.i .i64 a0), .v (.i .u64 a1), .v (.s a2)]), .v (.b a3)]) [] => some (a0, a1, a2, a3)
  | _ => none
 goO := fun _ (a0, a1, a2, a3) k => k (.ret (.tup [(.agg [.v (.i .i64 a0), .v (.i .u64 a1), .v (.s a2)]), .v (.b a3)]) [])
 ecO := fun (a0, a1, a2, a3) => .ret (.tup [(.agg [.v (.i .i64 a0), .v (.i .u64 a1), .v (.s a2)]), .v (.b a3)]) []
theorem sp_value_truth_parse_ok : SpecOk sp_value_truth_parse := by
 refine ⟨fun a H i h => ?_, fun o x h => ?_, fun R e k => by kernel_rfl⟩ <;> (simp only [sp_value_truth_parse] at h ⊢; split at h <;> first | (cases h; exact ⟨rfl, rfl⟩) | (cases h; rfl) | (cases h; done))
theorem ok_value_truth_parse (κ : Nat) (m : Int) : EOk Tryz.prog C (G m) 114 (sp_value_truth_parse.entry (fun a0 => value_truth_parse κ a0)) :=
 Spec.ok sp_value_truth_parse_ok C_ok mixed (gam23_ok κ m) (cut := noCut) (NR := (gcN 0 [0])) (NP := (gcN 0 [0])) (nB := 0) Tryz.func114 (c := (getBody Tryz.f114)) (by kernel_rfl) (by kernel_rfl) (fun i => by kernel_rfl) gcN_ok gcN_ok (cuts_by (l := []) (by kernel_rfl) (all_nil)) (fun i => by kernel_rfl)
noncomputable def gam24 (κ : Nat) : Gam T := (gam23 κ).addS 114 sp_value_truth_parse (fun a0 => value_truth_parse κ a0)
theorem gam24_ok (κ : Nat) (m : Int) : GOk Tryz.prog C (G m) (gam24 κ) := (gam23_ok κ m).addS (ok_value_truth_parse κ m)
def sp_value_number_parse : Spec T (ByteArray) (Int × Int × ByteArray × Bool) where
 dcI a H := match a, H with
  | [(.agg [(.fn (.func 39) [] []), (.fn (.func 40) [] [])]), .v (.s a0)], [] => some a0
  | _, _ => none
 ecA := fun a0 => [(.agg [(.fn (.func 39) [] []), (.fn (.func 40) [] [])]), .v (.s a0)]
 ecH := fun a0 => []
 dcO o := match o with
  | .ret (.tup [(.agg [.v (.i .i64 a0), .v (.i .u64 a1), .v (.s a2)]), .v (.b a3)]) [] => some (a0, a1, a2, a3)
  | _ => none
 goO := fun _ (a0, a1, a2, a3) k => k (.ret (.tup [(.agg [.v (.i .i64 a0), .v (.i .u64 a1), .v (.s a2)]), .v (.b a3)]) [])
 ecO := fun (a0, a1, a2, a3) => .ret (.tup [(.agg [.v (.i .i64 a0), .v (.i .u64 a1), .v (.s a2)]), .v (.b a3)]) []
theorem sp_value_number_parse_ok : SpecOk sp_value_number_parse := by
 refine ⟨fun a H i h => ?_, fun o x h => ?_, fun R e k => by kernel_rfl⟩ <;> (simp only [sp_value_number_parse] at h ⊢; split at h <;> first | (cases h; exact ⟨rfl, rfl⟩) | (cases h; rfl) | (cases h; done))
theorem ok_value_number_parse (κ : Nat) (m : Int) : EOk Tryz.prog C (G m) 106 (sp_value_number_parse.entry (fun a0 => value_number_parse κ a0)) :=
 Spec.ok sp_value_number_parse_ok C_ok mixed (gam24_ok κ m) (cut := noCut) (NR := (gcN 0 [0])) (NP := (gcN 0 [0])) (nB := 0) Tryz.func106 (c := (getBody Tryz.f106)) (by kernel_rfl) (by kernel_rfl) (fun i => by kernel_rfl) gcN_ok gcN_ok (cuts_by (l := []) (by kernel_rfl) (all_nil)) (fun i => by kernel_rfl)
noncomputable def gam25 (κ : Nat) : Gam T := (gam24 κ).addS 106 sp_value_number_parse (fun a0 => value_number_parse κ a0)
theorem gam25_ok (κ : Nat) (m : Int) : GOk Tryz.prog C (G m) (gam25 κ) := (gam24_ok κ m).addS (ok_value_number_parse κ m)
def sp_value_number_parse_2 : Spec T (ByteArray) (Int × Int × ByteArray × Bool) where
 dcI a H := match a, H with
  | [(.agg [(.fn (.func 37) [] []), (.fn (.func 38) [] [])]), .v (.s a0)], [] => some a0
  | _, _ => none
 ecA := fun a0 => [(.agg [(.fn (.func 37) [] []), (.fn (.func 38) [] [])]), .v (.s a0)]
 ecH := fun a0 => []
 dcO o := match o with
  | .ret (.tup [(.agg [.v (.i .i64 a0), .v (.i .u64 a1), .v (.s a2)]), .v (.b a3)]) [] => some (a0, a1, a2, a3)
  | _ => none
 goO := fun _ (a0, a1, a2, a3) k => k (.ret (.tup [(.agg [.v (.i .i64 a0), .v (.i .u64 a1), .v (.s a2)]), .v (.b a3)]) [])
 ecO := fun (a0, a1, a2, a3) => .ret (.tup [(.agg [.v (.i .i64 a0), .v (.i .u64 a1), .v (.s a2)]), .v (.b a3)]) []
theorem sp_value_number_parse_2_ok : SpecOk sp_value_number_parse_2 := by
 refine ⟨fun a H i h => ?_, fun o x h => ?_, fun R e k => by kernel_rfl⟩ <;> (simp only [sp_value_number_parse_2] at h ⊢; split at h <;> first | (cases h; exact ⟨rfl, rfl⟩) | (cases h; rfl) | (cases h; done))
theorem ok_value_number_parse_2 (κ : Nat) (m : Int) : EOk Tryz.prog C (G m) 106 (sp_value_number_parse_2.entry (fun a0 => value_number_parse_2 κ a0)) :=
 Spec.ok sp_value_number_parse_2_ok C_ok mixed (gam25_ok κ m) (cut := noCut) (NR := (gcN 0 [0])) (NP := (gcN 0 [0])) (nB := 0) Tryz.func106 (c := (getBody Tryz.f106)) (by kernel_rfl) (by kernel_rfl) (fun i => by kernel_rfl) gcN_ok gcN_ok (cuts_by (l := []) (by kernel_rfl) (all_nil)) (fun i => by kernel_rfl)
noncomputable def gam26 (κ : Nat) : Gam T := (gam25 κ).addS 106 sp_value_number_parse_2 (fun a0 => value_number_parse_2 κ a0)
theorem gam26_ok (κ : Nat) (m : Int) : GOk Tryz.prog C (G m) (gam26 κ) := (gam25_ok κ m).addS (ok_value_number_parse_2 κ m)
def sp_value_Parse : Spec T (ByteArray × Int × Int × Int × Int × (List ByteArray) × Bool × Int × (List SpecSpec) × ByteArray) (Int × Int × ByteArray × Int) where
 dcI a H := match a, H with
  | [(.agg [.v (.s a0), .v (.i .i64 a1), .v (.i .i64 a2), .v (.i .u64 a3), .v (.i .u64 a4), .v (.sl 9 a5), .v (.b a6), .v (.i .i64 a7), .v (.sl 31 a8)]), .v (.s a9)], [] => some (a0, a1, a2, a3, a4, a5, a6, a7, a8, a9)
  | _, _ => none
 ecA := fun (a0, a1, a2, a3, a4, a5, a6, a7, a8, a9) => [(.agg [.v (.s a0), .v (.i .i64 a1), .v (.i .i64 a2), .v (.i .u64 a3), .v (.i .u64 a4), .v (.sl 9 a5), .v (.b a6), .v (.i .i64 a7), .v (.sl 31 a8)]), .v (.s a9)]
 ecH := fun _ => []
 dcO o := match o with
  | .ret (.tup [(.agg [.v (.i .i64 a0), .v (.i .u64 a1), .v (.s a2)]), .v (.i .i64 a3)]) [] => some (a0, a1, a2, a3)
  | _ => none
 goO := fun _ (a0, a1, a2, a3) k => k (.ret (.tup [(.agg [.v (.i .i64 a0), .v (.i .u64 a1), .v (.s a2)]), .v (.i .i64 a3)]) [])
 ecO := fun (a0, a1, a2, a3) => .ret (.tup [(.agg [.v (.i .i64 a0), .v (.i .u64 a1), .v (.s a2)]), .v (.i .i64 a3)]) []
theorem sp_value_Parse_ok : SpecOk sp_value_Parse := by
 refine ⟨fun a H i h => ?_, fun o x h => ?_, fun R e k => by kernel_rfl⟩ <;> (simp only [sp_value_Parse] at h ⊢; split at h <;> first | (cases h; exact ⟨rfl, rfl⟩) | (cases h; rfl) | (cases h; done))
theorem ok_value_Parse (κ : Nat) (m : Int) : EOk Tryz.prog C (G m) 15 (sp_value_Parse.entry (fun (a0, a1, a2, a3, a4, a5, a6, a7, a8, a9) => value_Parse κ a0 a1 a2 a3 a4 a5 a6 a7 a8 a9)) :=
 Spec.ok sp_value_Parse_ok C_ok mixed (gam26_ok κ m) (cut := noCut) (NR := (gcN 0 [0])) (NP := (gcN 0 [0])) (nB := 0) Tryz.func15 (c := (getBody Tryz.f15)) (by kernel_rfl) (by kernel_rfl) (fun i => by kernel_rfl) gcN_ok gcN_ok (cuts_by (l := []) (by kernel_rfl) (all_nil)) (fun i => by kernel_rfl)
noncomputable def gam27 (κ : Nat) : Gam T := (gam26 κ).addS 15 sp_value_Parse (fun (a0, a1, a2, a3, a4, a5, a6, a7, a8, a9) => value_Parse κ a0 a1 a2 a3 a4 a5 a6 a7 a8 a9)
theorem gam27_ok (κ : Nat) (m : Int) : GOk Tryz.prog C (G m) (gam27 κ) := (gam26_ok κ m).addS (ok_value_Parse κ m)
def sp_value_name_take : Spec T (ByteArray × Int × Int × Int × Int × (List ByteArray) × Bool × Int × (List SpecSpec) × (List Int)) (Int × Int × ByteArray × Bool) where
 dcI a H := match a, H with
  | [(.agg []), (.agg [.v (.s a0), .v (.i .i64 a1), .v (.i .i64 a2), .v (.i .u64 a3), .v (.i .u64 a4), .v (.sl 9 a5), .v (.b a6), .v (.i .i64 a7), .v (.sl 31 a8)]), .v (.sl 5 a9)], [] => some (a0, a1, a2, a3, a4, a5, a6, a7, a8, a9)
  | _, _ => none
 ecA := fun (a0, a1, a2, a3, a4, a5, a6, a7, a8, a9) => [(.agg []), (.agg [.v (.s a0), .v (.i .i64 a1), .v (.i .i64 a2), .v (.i .u64 a3), .v (.i .u64 a4), .v (.sl 9 a5), .v (.b a6), .v (.i .i64 a7), .v (.sl 31 a8)]), .v (.sl 5 a9)]
 ecH := fun _ => []
 dcO o := match o with
  | .ret (.tup [(.agg [.v (.i .i64 a0), .v (.i .u64 a1), .v (.s a2)]), .v (.b a3)]) [] => some (a0, a1, a2, a3)
  | _ => none
 goO := fun _ (a0, a1, a2, a3) k => k (.ret (.tup [(.agg [.v (.i .i64 a0), .v (.i .u64 a1), .v (.s a2)]), .v (.b a3)]) [])
 ecO := fun (a0, a1, a2, a3) => .ret (.tup [(.agg [.v (.i .i64 a0), .v (.i .u64 a1), .v (.s a2)]), .v (.b a3)]) []
theorem sp_value_name_take_ok : SpecOk sp_value_name_take := by
 refine ⟨fun a H i h => ?_, fun o x h => ?_, fun R e k => by kernel_rfl⟩ <;> (simp only [sp_value_name_take] at h ⊢; split at h <;> first | (cases h; exact ⟨rfl, rfl⟩) | (cases h; rfl) | (cases h; done))
theorem ok_value_name_take (κ : Nat) (m : Int) : EOk Tryz.prog C (G m) 129 (sp_value_name_take.entry (fun (a0, a1, a2, a3, a4, a5, a6, a7, a8, a9) => value_name_take κ a0 a1 a2 a3 a4 a5 a6 a7 a8 a9)) :=
 Spec.ok sp_value_name_take_ok C_ok mixed (gam27_ok κ m) (cut := noCut) (NR := (gcN 0 [0])) (NP := (gcN 0 [0])) (nB := 0) Tryz.func129 (c := (getBody Tryz.f129)) (by kernel_rfl) (by kernel_rfl) (fun i => by kernel_rfl) gcN_ok gcN_ok (cuts_by (l := []) (by kernel_rfl) (all_nil)) (fun i => by kernel_rfl)
noncomputable def gam28 (κ : Nat) : Gam T := (gam27 κ).addS 129 sp_value_name_take (fun (a0, a1, a2, a3, a4, a5, a6, a7, a8, a9) => value_name_take κ a0 a1 a2 a3 a4 a5 a6 a7 a8 a9)
theorem gam28_ok (κ : Nat) (m : Int) : GOk Tryz.prog C (G m) (gam28 κ) := (gam27_ok κ m).addS (ok_value_name_take κ m)
def p_value_choice_take_0 : Piece T ((List Int) × ByteArray × Int × Int × Int × Int × (List ByteArray) × Bool × Int × (List SpecSpec) × Int × Int × ByteArray) ((List Int) × Bool × ByteArray × Int × Int × Int × Int × (List ByteArray) × Bool × Int × (List SpecSpec) × Int × Int × ByteArray) where
 dcS env H ds := match env 2, env 4, env 6, H, ds with
  | .v (.sl 5 a0), .ptr 0 0, .ptr 1 0, [.cells 31 none [.v (.s a1), .v (.i .i64 a2), .v (.i .i64 a3), .v (.i .u64 a4), .v (.i .u64 a5), .v (.sl 9 a6), .v (.b a7), .v (.i .i64 a8), .v (.sl 31 a9)], .cells 27 none [.v (.i .i64 a10), .v (.i .u64 a11), .v (.s a12)]], [] => some (a0, a1, a2, a3, a4, a5, a6, a7, a8, a9, a10, a11, a12)
  | _, _, _, _, _ => none
 slS := fun (a0, _) => [(2, .v (.sl 5 a0)), (4, .ptr 0 0), (6, .ptr 1 0)]
 obS := fun (_, a1, a2, a3, a4, a5, a6, a7, a8, a9, a10, a11, a12) => [.cells 31 none [.v (.s a1), .v (.i .i64 a2), .v (.i .i64 a3), .v (.i .u64 a4), .v (.i .u64 a5), .v (.sl 9 a6), .v (.b a7), .v (.i .i64 a8), .v (.sl 31 a9)], .cells 27 none [.v (.i .i64 a10), .v (.i .u64 a11), .v (.s a12)]]
 dsS := fun _ => []
 dcE x env H ds := match x, env 2, env 4, env 6, env 20, H, ds with
  | .normal, .v (.sl 5 a0), .ptr 0 0, .ptr 1 0, .v (.b a1), [.cells 31 none [.v (.s a2), .v (.i .i64 a3), .v (.i .i64 a4), .v (.i .u64 a5), .v (.i .u64 a6), .v (.sl 9 a7), .v (.b a8), .v (.i .i64 a9), .v (.sl 31 a10)], .cells 27 none [.v (.i .i64 a11), .v (.i .u64 a12), .v (.s a13)]], [] => some (a0, a1, a2, a3, a4, a5, a6, a7, a8, a9, a10, a11, a12, a13)
  | _, _, _, _, _, _, _ => none
 exE := fun _ => .normal
 slE := fun (a0, a1, _) => [(2, .v (.sl 5 a0)), (4, .ptr 0 0), (6, .ptr 1 0), (20, .v (.b a1))]
 obE := fun (_, _, a2, a3, a4, a5, a6, a7, a8, a9, a10, a11, a12, a13) => [.cells 31 none [.v (.s a2), .v (.i .i64 a3), .v (.i .i64 a4), .v (.i .u64 a5), .v (.i .u64 a6), .v (.sl 9 a7), .v (.b a8), .v (.i .i64 a9), .v (.sl 31 a10)], .cells 27 none [.v (.i .i64 a11), .v (.i .u64 a12), .v (.s a13)]]
 dsE := fun _ => []
 goE := fun _ (a0, a1, a2, a3, a4, a5, a6, a7, a8, a9, a10, a11, a12, a13) k => k .normal [(2, .v (.sl 5 a0)), (4, .ptr 0 0), (6, .ptr 1 0), (20, .v (.b a1))] [.cells 31 none [.v (.s a2), .v (.i .i64 a3), .v (.i .i64 a4), .v (.i .u64 a5), .v (.i .u64 a6), .v (.sl 9 a7), .v (.b a8), .v (.i .i64 a9), .v (.sl 31 a10)], .cells 27 none [.v (.i .i64 a11), .v (.i .u64 a12), .v (.s a13)]] []
theorem p_value_choice_take_0_ok : PieceOk p_value_choice_take_0 := by
 refine ⟨fun env H ds s h => ?_, fun x env H ds e h => ?_, fun R e k => by kernel_rfl⟩ <;> (simp only [p_value_choice_take_0] at h ⊢; split at h <;> first | (cases h; simp only [List.forall_mem_cons]; simp_all; done) | (cases h; done))
theorem p_value_choice_take_0_ct (κ : Nat) (m : Int) : CutOk Tryz.prog C (G m) Tryz.f123.ntmps 0 (pieceOf (.reg 1) (getBody Tryz.f123)) (p_value_choice_take_0.cut (gcN 0 [2, 4, 6]) (fun (a0, a1, a2, a3, a4, a5, a6, a7, a8, a9, a10, a11, a12) => value_choice_take.v0 κ a0 a1 a2 a3 a4 a5 a6 a7 a8 a9 a10 a11 a12)) :=
 Piece.join p_value_choice_take_0_ok C_ok mixed (gam28_ok κ m) gcN_ok (xN_ok gcN_ok (ex_nil) gcN_ok gcN_ok) (cut := noCut) (X := (xN (gcN 0 [2, 4, 6, 20]) [] (gcN 0 [6, 7]) (gcN 0 [1000000]))) (cuts_by (l := []) (by kernel_rfl) (all_nil)) (fun s => by kernel_rfl)
def cc_value_choice_take_1 (κ : Nat) : Cut T := p_value_choice_take_0.cut (gcN 0 [2, 4, 6]) (fun (a0, a1, a2, a3, a4, a5, a6, a7, a8, a9, a10, a11, a12) => value_choice_take.v0 κ a0 a1 a2 a3 a4 a5 a6 a7 a8 a9 a10 a11 a12)
theorem cc_value_choice_take_1_ok (κ : Nat) (m : Int) : CutOk Tryz.prog C (G m) Tryz.f123.ntmps 0 (pieceOf (.reg 1) (getBody Tryz.f123)) (cc_value_choice_take_1 κ) := p_value_choice_take_0_ct κ m
def ct_value_choice_take_1 (κ : Nat) : Key → Option (Cut T) := addCut noCut (.reg 1) (cc_value_choice_take_1 κ)
def sp_value_choice_take : Spec T (ByteArray × Int × Int × Int × Int × (List ByteArray) × Bool × Int × (List SpecSpec) × (List Int)) (Int × Int × ByteArray × Bool) where
 dcI a H := match a, H with
  | [(.agg []), (.agg [.v (.s a0), .v (.i .i64 a1), .v (.i .i64 a2), .v (.i .u64 a3), .v (.i .u64 a4), .v (.sl 9 a5), .v (.b a6), .v (.i .i64 a7), .v (.sl 31 a8)]), .v (.sl 5 a9)], [] => some (a0, a1, a2, a3, a4, a5, a6, a7, a8, a9)
  | _, _ => none
 ecA := fun (a0, a1, a2, a3, a4, a5, a6, a7, a8, a9) => [(.agg []), (.agg [.v (.s a0), .v (.i .i64 a1), .v (.i .i64 a2), .v (.i .u64 a3), .v (.i .u64 a4), .v (.sl 9 a5), .v (.b a6), .v (.i .i64 a7), .v (.sl 31 a8)]), .v (.sl 5 a9)]
 ecH := fun _ => []
 dcO o := match o with
  | .ret (.tup [(.agg [.v (.i .i64 a0), .v (.i .u64 a1), .v (.s a2)]), .v (.b a3)]) [] => some (a0, a1, a2, a3)
  | _ => none
 goO := fun _ (a0, a1, a2, a3) k => k (.ret (.tup [(.agg [.v (.i .i64 a0), .v (.i .u64 a1), .v (.s a2)]), .v (.b a3)]) [])
 ecO := fun (a0, a1, a2, a3) => .ret (.tup [(.agg [.v (.i .i64 a0), .v (.i .u64 a1), .v (.s a2)]), .v (.b a3)]) []
theorem sp_value_choice_take_ok : SpecOk sp_value_choice_take := by
 refine ⟨fun a H i h => ?_, fun o x h => ?_, fun R e k => by kernel_rfl⟩ <;> (simp only [sp_value_choice_take] at h ⊢; split at h <;> first | (cases h; exact ⟨rfl, rfl⟩) | (cases h; rfl) | (cases h; done))
theorem ok_value_choice_take (κ : Nat) (m : Int) : EOk Tryz.prog C (G m) 123 (sp_value_choice_take.entry (fun (a0, a1, a2, a3, a4, a5, a6, a7, a8, a9) => value_choice_take κ a0 a1 a2 a3 a4 a5 a6 a7 a8 a9)) :=
 Spec.ok sp_value_choice_take_ok C_ok mixed (gam28_ok κ m) (cut := (ct_value_choice_take_1 κ)) (NR := (gcN 0 [0])) (NP := (gcN 0 [0])) (nB := 0) Tryz.func123 (c := (getBody Tryz.f123)) (by kernel_rfl) (by kernel_rfl) (fun i => by kernel_rfl) gcN_ok gcN_ok (cuts_by (l := [(pieceOf (.reg 1) (getBody Tryz.f123), cc_value_choice_take_1 κ)]) (by kernel_rfl) (all_cons (cc_value_choice_take_1_ok κ m) (all_nil))) (fun i => by kernel_rfl)
noncomputable def gam29 (κ : Nat) : Gam T := (gam28 κ).addS 123 sp_value_choice_take (fun (a0, a1, a2, a3, a4, a5, a6, a7, a8, a9) => value_choice_take κ a0 a1 a2 a3 a4 a5 a6 a7 a8 a9)
theorem gam29_ok (κ : Nat) (m : Int) : GOk Tryz.prog C (G m) (gam29 κ) := (gam28_ok κ m).addS (ok_value_choice_take κ m)
def p_octet_Value_0 : Piece T (Int × (List Int) × Int × Int) ((Int) ⊕ (Int × Bool)) where
 dcS env H ds := match env 4, env 7, env 8, env 9, H, ds with
  | .v (.i .u64 a0), .v (.sl 5 a1), .v (.i .i64 a2), .v (.i .i64 a3), [], [] => some (a0, a1, a2, a3)
  | _, _, _, _, _, _ => none
 slS := fun (a0, a1, a2, a3) => [(4, .v (.i .u64 a0)), (7, .v (.sl 5 a1)), (8, .v (.i .i64 a2)), (9, .v (.i .i64 a3))]
 obS := fun _ => []
 dsS := fun _ => []
 dcE x env H ds := match x, env 2, env 3, env 4, H, ds with
  | .normal, _, _, .v (.i .u64 a0), [], [] => some (.inl a0)
  | .ret, .v (.i .u64 a0), .v (.b a1), _, [], [] => some (.inr (a0, a1))
  | _, _, _, _, _, _ => none
 exE := fun x => match x with
  | (.inl a0) => .normal
  | (.inr (a0, a1)) => .ret
 slE := fun x => match x with
  | (.inl a0) => [(4, .v (.i .u64 a0))]
  | (.inr (a0, a1)) => [(2, .v (.i .u64 a0)), (3, .v (.b a1))]
 obE := fun x => match x with
  | (.inl a0) => []
  | (.inr (a0, a1)) => []
 dsE := fun x => match x with
  | (.inl a0) => []
  | (.inr (a0, a1)) => []
 goE := fun _ x k => match x with
  | (.inl a0) => k .normal [(4, .v (.i .u64 a0))] [] []
  | (.inr (a0, a1)) => k .ret [(2, .v (.i .u64 a0)), (3, .v (.b a1))] [] []
theorem p_octet_Value_0_ok : PieceOk p_octet_Value_0 := by
 refine ⟨fun env H ds s h => ?_, fun x env H ds e h => ?_, fun R e k => by rcases e with e | e <;> kernel_rfl⟩
 · simp only [p_octet_Value_0] at h ⊢; split at h <;> first | (cases h; simp only [List.forall_mem_cons]; simp_all; done) | (cases h; done)
 · simp only [p_octet_Value_0] at h ⊢; split at h <;> first | (cases h; simp only [List.forall_mem_cons]; simp_all; done) | (cases h; done)
theorem p_octet_Value_0_ct (κ : Nat) (m : Int) : CutOk Tryz.prog C (G m) Tryz.f111.ntmps 0 (pieceOf (.blk 0) (getBody Tryz.f111)) (p_octet_Value_0.cut (gcN 0 [4, 7, 8, 9]) (octet_Value.l0 κ κ)) :=
 Piece.loop p_octet_Value_0_ok C_ok mixed (gam29_ok κ m) gcN_ok (xN_ok gcN_ok (ex_nil) gcN_ok gcN_ok) (cut := noCut) (X := (xN (gcN 0 [4]) [] (gcN 0 [2, 3]) (gcN 0 [1000000]))) (id := 0) (body := bodyOf (pieceOf (.blk 0) (getBody Tryz.f111))) (cuts_by (l := []) (by kernel_rfl) (all_nil)) (f := octet_Value.l0 κ) (fun s => by kernel_rfl) (fun k s => by kernel_rfl) κ
def cc_octet_Value_1 (κ : Nat) : Cut T := p_octet_Value_0.cut (gcN 0 [4, 7, 8, 9]) (octet_Value.l0 κ κ)
theorem cc_octet_Value_1_ok (κ : Nat) (m : Int) : CutOk Tryz.prog C (G m) Tryz.f111.ntmps 0 (pieceOf (.blk 0) (getBody Tryz.f111)) (cc_octet_Value_1 κ) := p_octet_Value_0_ct κ m
def ct_octet_Value_1 (κ : Nat) : Key → Option (Cut T) := addCut noCut (.blk 0) (cc_octet_Value_1 κ)
def sp_octet_Value : Spec T ((List Int)) (Int × Bool) where
 dcI a H := match a, H with
  | [.v (.sl 5 a0)], [] => some a0
  | _, _ => none
 ecA := fun a0 => [.v (.sl 5 a0)]
 ecH := fun a0 => []
 dcO o := match o with
  | .ret (.tup [.v (.i .u64 a0), .v (.b a1)]) [] => some (a0, a1)
  | _ => none
 goO := fun _ (a0, a1) k => k (.ret (.tup [.v (.i .u64 a0), .v (.b a1)]) [])
 ecO := fun (a0, a1) => .ret (.tup [.v (.i .u64 a0), .v (.b a1)]) []
theorem sp_octet_Value_ok : SpecOk sp_octet_Value := by
 refine ⟨fun a H i h => ?_, fun o x h => ?_, fun R e k => by kernel_rfl⟩ <;> (simp only [sp_octet_Value] at h ⊢; split at h <;> first | (cases h; exact ⟨rfl, rfl⟩) | (cases h; rfl) | (cases h; done))
theorem ok_octet_Value (κ : Nat) (m : Int) : EOk Tryz.prog C (G m) 111 (sp_octet_Value.entry (fun a0 => octet_Value κ a0)) :=
 Spec.ok sp_octet_Value_ok C_ok mixed (gam29_ok κ m) (cut := (ct_octet_Value_1 κ)) (NR := (gcN 0 [0])) (NP := (gcN 0 [0])) (nB := 0) Tryz.func111 (c := (getBody Tryz.f111)) (by kernel_rfl) (by kernel_rfl) (fun i => by kernel_rfl) gcN_ok gcN_ok (cuts_by (l := [(pieceOf (.blk 0) (getBody Tryz.f111), cc_octet_Value_1 κ)]) (by kernel_rfl) (all_cons (cc_octet_Value_1_ok κ m) (all_nil))) (fun i => by kernel_rfl)
noncomputable def gam30 (κ : Nat) : Gam T := (gam29 κ).addS 111 sp_octet_Value (fun a0 => octet_Value κ a0)
theorem gam30_ok (κ : Nat) (m : Int) : GOk Tryz.prog C (G m) (gam30 κ) := (gam29_ok κ m).addS (ok_octet_Value κ m)
def sp_value_truth_take : Spec T (ByteArray × Int × Int × Int × Int × (List ByteArray) × Bool × Int × (List SpecSpec) × (List Int)) (Int × Int × ByteArray × Bool) where
 dcI a H := match a, H with
  | [(.agg []), (.agg [.v (.s a0), .v (.i .i64 a1), .v (.i .i64 a2), .v (.i .u64 a3), .v (.i .u64 a4), .v (.sl 9 a5), .v (.b a6), .v (.i .i64 a7), .v (.sl 31 a8)]), .v (.sl 5 a9)], [] => some (a0, a1, a2, a3, a4, a5, a6, a7, a8, a9)
  | _, _ => none
 ecA := fun (a0, a1, a2, a3, a4, a5, a6, a7, a8, a9) => [(.agg []), (.agg [.v (.s a0), .v (.i .i64 a1), .v (.i .i64 a2), .v (.i .u64 a3), .v (.i .u64 a4), .v (.sl 9 a5), .v (.b a6), .v (.i .i64 a7), .v (.sl 31 a8)]), .v (.sl 5 a9)]
 ecH := fun _ => []
 dcO o := match o with
  | .ret (.tup [(.agg [.v (.i .i64 a0), .v (.i .u64 a1), .v (.s a2)]), .v (.b a3)]) [] => some (a0, a1, a2, a3)
  | _ => none
 goO := fun _ (a0, a1, a2, a3) k => k (.ret (.tup [(.agg [.v (.i .i64 a0), .v (.i .u64 a1), .v (.s a2)]), .v (.b a3)]) [])
 ecO := fun (a0, a1, a2, a3) => .ret (.tup [(.agg [.v (.i .i64 a0), .v (.i .u64 a1), .v (.s a2)]), .v (.b a3)]) []
theorem sp_value_truth_take_ok : SpecOk sp_value_truth_take := by
 refine ⟨fun a H i h => ?_, fun o x h => ?_, fun R e k => by kernel_rfl⟩ <;> (simp only [sp_value_truth_take] at h ⊢; split at h <;> first | (cases h; exact ⟨rfl, rfl⟩) | (cases h; rfl) | (cases h; done))
theorem ok_value_truth_take (κ : Nat) (m : Int) : EOk Tryz.prog C (G m) 116 (sp_value_truth_take.entry (fun (a0, a1, a2, a3, a4, a5, a6, a7, a8, a9) => value_truth_take κ a0 a1 a2 a3 a4 a5 a6 a7 a8 a9)) :=
 Spec.ok sp_value_truth_take_ok C_ok mixed (gam30_ok κ m) (cut := noCut) (NR := (gcN 0 [0])) (NP := (gcN 0 [0])) (nB := 0) Tryz.func116 (c := (getBody Tryz.f116)) (by kernel_rfl) (by kernel_rfl) (fun i => by kernel_rfl) gcN_ok gcN_ok (cuts_by (l := []) (by kernel_rfl) (all_nil)) (fun i => by kernel_rfl)
noncomputable def gam31 (κ : Nat) : Gam T := (gam30 κ).addS 116 sp_value_truth_take (fun (a0, a1, a2, a3, a4, a5, a6, a7, a8, a9) => value_truth_take κ a0 a1 a2 a3 a4 a5 a6 a7 a8 a9)
theorem gam31_ok (κ : Nat) (m : Int) : GOk Tryz.prog C (G m) (gam31 κ) := (gam30_ok κ m).addS (ok_value_truth_take κ m)
def sp_value_number_take : Spec T (ByteArray × Int × Int × Int × Int × (List ByteArray) × Bool × Int × (List SpecSpec) × (List Int)) (Int × Int × ByteArray × Bool) where
 dcI a H := match a, H with
  | [(.agg [(.fn (.func 39) [] []), (.fn (.func 40) [] [])]), (.agg [.v (.s a0), .v (.i .i64 a1), .v (.i .i64 a2), .v (.i .u64 a3), .v (.i .u64 a4), .v (.sl 9 a5), .v (.b a6), .v (.i .i64 a7), .v (.sl 31 a8)]), .v (.sl 5 a9)], [] => some (a0, a1, a2, a3, a4, a5, a6, a7, a8, a9)
  | _, _ => none
 ecA := fun (a0, a1, a2, a3, a4, a5, a6, a7, a8, a9) => [(.agg [(.fn (.func 39) [] []), (.fn (.func 40) [] [])]), (.agg [.v (.s a0), .v (.i .i64 a1), .v (.i .i64 a2), .v (.i .u64 a3), .v (.i .u64 a4), .v (.sl 9 a5), .v (.b a6), .v (.i .i64 a7), .v (.sl 31 a8)]), .v (.sl 5 a9)]
 ecH := fun _ => []
 dcO o := match o with
  | .ret (.tup [(.agg [.v (.i .i64 a0), .v (.i .u64 a1), .v (.s a2)]), .v (.b a3)]) [] => some (a0, a1, a2, a3)
  | _ => none
 goO := fun _ (a0, a1, a2, a3) k => k (.ret (.tup [(.agg [.v (.i .i64 a0), .v (.i .u64 a1), .v (.s a2)]), .v (.b a3)]) [])
 ecO := fun (a0, a1, a2, a3) => .ret (.tup [(.agg [.v (.i .i64 a0), .v (.i .u64 a1), .v (.s a2)]), .v (.b a3)]) []
theorem sp_value_number_take_ok : SpecOk sp_value_number_take := by
 refine ⟨fun a H i h => ?_, fun o x h => ?_, fun R e k => by kernel_rfl⟩ <;> (simp only [sp_value_number_take] at h ⊢; split at h <;> first | (cases h; exact ⟨rfl, rfl⟩) | (cases h; rfl) | (cases h; done))
theorem ok_value_number_take (κ : Nat) (m : Int) : EOk Tryz.prog C (G m) 108 (sp_value_number_take.entry (fun (a0, a1, a2, a3, a4, a5, a6, a7, a8, a9) => value_number_take κ a0 a1 a2 a3 a4 a5 a6 a7 a8 a9)) :=
 Spec.ok sp_value_number_take_ok C_ok mixed (gam31_ok κ m) (cut := noCut) (NR := (gcN 0 [0])) (NP := (gcN 0 [0])) (nB := 0) Tryz.func108 (c := (getBody Tryz.f108)) (by kernel_rfl) (by kernel_rfl) (fun i => by kernel_rfl) gcN_ok gcN_ok (cuts_by (l := []) (by kernel_rfl) (all_nil)) (fun i => by kernel_rfl)
noncomputable def gam32 (κ : Nat) : Gam T := (gam31 κ).addS 108 sp_value_number_take (fun (a0, a1, a2, a3, a4, a5, a6, a7, a8, a9) => value_number_take κ a0 a1 a2 a3 a4 a5 a6 a7 a8 a9)
theorem gam32_ok (κ : Nat) (m : Int) : GOk Tryz.prog C (G m) (gam32 κ) := (gam31_ok κ m).addS (ok_value_number_take κ m)
def sp_value_number_take_2 : Spec T (ByteArray × Int × Int × Int × Int × (List ByteArray) × Bool × Int × (List SpecSpec) × (List Int)) (Int × Int × ByteArray × Bool) where
 dcI a H := match a, H with
  | [(.agg [(.fn (.func 37) [] []), (.fn (.func 38) [] [])]), (.agg [.v (.s a0), .v (.i .i64 a1), .v (.i .i64 a2), .v (.i .u64 a3), .v (.i .u64 a4), .v (.sl 9 a5), .v (.b a6), .v (.i .i64 a7), .v (.sl 31 a8)]), .v (.sl 5 a9)], [] => some (a0, a1, a2, a3, a4, a5, a6, a7, a8, a9)
  | _, _ => none
 ecA := fun (a0, a1, a2, a3, a4, a5, a6, a7, a8, a9) => [(.agg [(.fn (.func 37) [] []), (.fn (.func 38) [] [])]), (.agg [.v (.s a0), .v (.i .i64 a1), .v (.i .i64 a2), .v (.i .u64 a3), .v (.i .u64 a4), .v (.sl 9 a5), .v (.b a6), .v (.i .i64 a7), .v (.sl 31 a8)]), .v (.sl 5 a9)]
 ecH := fun _ => []
 dcO o := match o with
  | .ret (.tup [(.agg [.v (.i .i64 a0), .v (.i .u64 a1), .v (.s a2)]), .v (.b a3)]) [] => some (a0, a1, a2, a3)
  | _ => none
 goO := fun _ (a0, a1, a2, a3) k => k (.ret (.tup [(.agg [.v (.i .i64 a0), .v (.i .u64 a1), .v (.s a2)]), .v (.b a3)]) [])
 ecO := fun (a0, a1, a2, a3) => .ret (.tup [(.agg [.v (.i .i64 a0), .v (.i .u64 a1), .v (.s a2)]), .v (.b a3)]) []
theorem sp_value_number_take_2_ok : SpecOk sp_value_number_take_2 := by
 refine ⟨fun a H i h => ?_, fun o x h => ?_, fun R e k => by kernel_rfl⟩ <;> (simp only [sp_value_number_take_2] at h ⊢; split at h <;> first | (cases h; exact ⟨rfl, rfl⟩) | (cases h; rfl) | (cases h; done))
theorem ok_value_number_take_2 (κ : Nat) (m : Int) : EOk Tryz.prog C (G m) 108 (sp_value_number_take_2.entry (fun (a0, a1, a2, a3, a4, a5, a6, a7, a8, a9) => value_number_take_2 κ a0 a1 a2 a3 a4 a5 a6 a7 a8 a9)) :=
 Spec.ok sp_value_number_take_2_ok C_ok mixed (gam32_ok κ m) (cut := noCut) (NR := (gcN 0 [0])) (NP := (gcN 0 [0])) (nB := 0) Tryz.func108 (c := (getBody Tryz.f108)) (by kernel_rfl) (by kernel_rfl) (fun i => by kernel_rfl) gcN_ok gcN_ok (cuts_by (l := []) (by kernel_rfl) (all_nil)) (fun i => by kernel_rfl)
noncomputable def gam33 (κ : Nat) : Gam T := (gam32 κ).addS 108 sp_value_number_take_2 (fun (a0, a1, a2, a3, a4, a5, a6, a7, a8, a9) => value_number_take_2 κ a0 a1 a2 a3 a4 a5 a6 a7 a8 a9)
theorem gam33_ok (κ : Nat) (m : Int) : GOk Tryz.prog C (G m) (gam33 κ) := (gam32_ok κ m).addS (ok_value_number_take_2 κ m)
def sp_value_name_data : Spec T (ByteArray × Int × Int × Int × Int × (List ByteArray) × Bool × Int × (List SpecSpec) × Int × Int × ByteArray) ((List Int)) where
 dcI a H := match a, H with
  | [(.agg []), (.agg [.v (.s a0), .v (.i .i64 a1), .v (.i .i64 a2), .v (.i .u64 a3), .v (.i .u64 a4), .v (.sl 9 a5), .v (.b a6), .v (.i .i64 a7), .v (.sl 31 a8)]), (.agg [.v (.i .i64 a9), .v (.i .u64 a10), .v (.s a11)])], [] => some (a0, a1, a2, a3, a4, a5, a6, a7, a8, a9, a10, a11)
  | _, _ => none
 ecA := fun (a0, a1, a2, a3, a4, a5, a6, a7, a8, a9, a10, a11) => [(.agg []), (.agg [.v (.s a0), .v (.i .i64 a1), .v (.i .i64 a2), .v (.i .u64 a3), .v (.i .u64 a4), .v (.sl 9 a5), .v (.b a6), .v (.i .i64 a7), .v (.sl 31 a8)]), (.agg [.v (.i .i64 a9), .v (.i .u64 a10), .v (.s a11)])]
 ecH := fun _ => []
 dcO o := match o with
  | .ret (.own 0) [(.row 5 a0 true)] => some a0
  | _ => none
 goO := fun _ a0 k => k (.ret (.own 0) [(.row 5 a0 true)])
 ecO := fun a0 => .ret (.own 0) [(.row 5 a0 true)]
theorem sp_value_name_data_ok : SpecOk sp_value_name_data := by
 refine ⟨fun a H i h => ?_, fun o x h => ?_, fun R e k => by kernel_rfl⟩ <;> (simp only [sp_value_name_data] at h ⊢; split at h <;> first | (cases h; exact ⟨rfl, rfl⟩) | (cases h; rfl) | (cases h; done))
theorem ok_value_name_data (κ : Nat) (m : Int) : EOk Tryz.prog C (G m) 126 (sp_value_name_data.entry (fun (a0, a1, a2, a3, a4, a5, a6, a7, a8, a9, a10, a11) => value_name_data κ a0 a1 a2 a3 a4 a5 a6 a7 a8 a9 a10 a11)) :=
 Spec.ok sp_value_name_data_ok C_ok mixed (gam33_ok κ m) (cut := noCut) (NR := (gcN 0 [0])) (NP := (gcN 0 [0])) (nB := 0) Tryz.func126 (c := (getBody Tryz.f126)) (by kernel_rfl) (by kernel_rfl) (fun i => by kernel_rfl) gcN_ok gcN_ok (cuts_by (l := []) (by kernel_rfl) (all_nil)) (fun i => by kernel_rfl)
noncomputable def gam34 (κ : Nat) : Gam T := (gam33 κ).addS 126 sp_value_name_data (fun (a0, a1, a2, a3, a4, a5, a6, a7, a8, a9, a10, a11) => value_name_data κ a0 a1 a2 a3 a4 a5 a6 a7 a8 a9 a10 a11)
theorem gam34_ok (κ : Nat) (m : Int) : GOk Tryz.prog C (G m) (gam34 κ) := (gam33_ok κ m).addS (ok_value_name_data κ m)
def p_slices_Equal_0 : Piece T ((List Int) × (List Int) × Int × Int) ((Unit) ⊕ (Bool)) where
 dcS env H ds := match env 0, env 1, env 12, env 13, H, ds with
  | .v (.sl 5 a0), .v (.sl 5 a1), .v (.i .i64 a2), .v (.i .i64 a3), [], [] => some (a0, a1, a2, a3)
  | _, _, _, _, _, _ => none
 slS := fun (a0, a1, a2, a3) => [(0, .v (.sl 5 a0)), (1, .v (.sl 5 a1)), (12, .v (.i .i64 a2)), (13, .v (.i .i64 a3))]
 obS := fun _ => []
 dsS := fun _ => []
 dcE x env H ds := match x, env 4, H, ds with
  | .normal, _, [], [] => some (.inl ())
  | .ret, .v (.b a0), [], [] => some (.inr a0)
  | _, _, _, _ => none
 exE := fun x => match x with
  | (.inl _) => .normal
  | (.inr a0) => .ret
 slE := fun x => match x with
  | (.inl _) => []
  | (.inr a0) => [(4, .v (.b a0))]
 obE := fun x => match x with
  | (.inl _) => []
  | (.inr a0) => []
 dsE := fun x => match x with
  | (.inl _) => []
  | (.inr a0) => []
 goE := fun _ x k => match x with
  | (.inl _) => k .normal [] [] []
  | (.inr a0) => k .ret [(4, .v (.b a0))] [] []
theorem p_slices_Equal_0_ok : PieceOk p_slices_Equal_0 := by
 refine ⟨fun env H ds s h => ?_, fun x env H ds e h => ?_, fun R e k => by rcases e with e | e <;> kernel_rfl⟩
 · simp only [p_slices_Equal_0] at h ⊢; split at h <;> first | (cases h; simp only [List.forall_mem_cons]; simp_all; done) | (cases h; done)
 · simp only [p_slices_Equal_0] at h ⊢; split at h <;> first | (cases h; simp only [List.forall_mem_cons]; simp_all; done) | (cases h; done)
theorem p_slices_Equal_0_ct (κ : Nat) (m : Int) : CutOk Tryz.prog C (G m) Tryz.f29.ntmps 0 (pieceOf (.blk 0) (getBody Tryz.f29)) (p_slices_Equal_0.cut (gcN 0 [0, 1, 12, 13]) (slices_Equal.l0 κ κ)) :=
 Piece.loop p_slices_Equal_0_ok C_ok mixed (gam34_ok κ m) gcN_ok (xN_ok gcN_ok (ex_nil) gcN_ok gcN_ok) (cut := noCut) (X := (xN (gcN 0 []) [] (gcN 0 [4]) (gcN 0 [1000000]))) (id := 0) (body := bodyOf (pieceOf (.blk 0) (getBody Tryz.f29))) (cuts_by (l := []) (by kernel_rfl) (all_nil)) (f := slices_Equal.l0 κ) (fun s => by kernel_rfl) (fun k s => by kernel_rfl) κ
def cc_slices_Equal_1 (κ : Nat) : Cut T := p_slices_Equal_0.cut (gcN 0 [0, 1, 12, 13]) (slices_Equal.l0 κ κ)
theorem cc_slices_Equal_1_ok (κ : Nat) (m : Int) : CutOk Tryz.prog C (G m) Tryz.f29.ntmps 0 (pieceOf (.blk 0) (getBody Tryz.f29)) (cc_slices_Equal_1 κ) := p_slices_Equal_0_ct κ m
def ct_slices_Equal_1 (κ : Nat) : Key → Option (Cut T) := addCut noCut (.blk 0) (cc_slices_Equal_1 κ)
def sp_slices_Equal : Spec T ((List Int) × (List Int)) (Bool) where
 dcI a H := match a, H with
  | [.v (.sl 5 a0), .v (.sl 5 a1)], [] => some (a0, a1)
  | _, _ => none
 ecA := fun (a0, a1) => [.v (.sl 5 a0), .v (.sl 5 a1)]
 ecH := fun _ => []
 dcO o := match o with
  | .ret (.v (.b a0)) [] => some a0
  | _ => none
 goO := fun _ a0 k => k (.ret (.v (.b a0)) [])
 ecO := fun a0 => .ret (.v (.b a0)) []
theorem sp_slices_Equal_ok : SpecOk sp_slices_Equal := by
 refine ⟨fun a H i h => ?_, fun o x h => ?_, fun R e k => by kernel_rfl⟩ <;> (simp only [sp_slices_Equal] at h ⊢; split at h <;> first | (cases h; exact ⟨rfl, rfl⟩) | (cases h; rfl) | (cases h; done))
theorem ok_slices_Equal (κ : Nat) (m : Int) : EOk Tryz.prog C (G m) 29 (sp_slices_Equal.entry (fun (a0, a1) => slices_Equal κ a0 a1)) :=
 Spec.ok sp_slices_Equal_ok C_ok mixed (gam34_ok κ m) (cut := (ct_slices_Equal_1 κ)) (NR := (gcN 0 [0])) (NP := (gcN 0 [0])) (nB := 0) Tryz.func29 (c := (getBody Tryz.f29)) (by kernel_rfl) (by kernel_rfl) (fun i => by kernel_rfl) gcN_ok gcN_ok (cuts_by (l := [(pieceOf (.blk 0) (getBody Tryz.f29), cc_slices_Equal_1 κ)]) (by kernel_rfl) (all_cons (cc_slices_Equal_1_ok κ m) (all_nil))) (fun i => by kernel_rfl)
noncomputable def gam35 (κ : Nat) : Gam T := (gam34 κ).addS 29 sp_slices_Equal (fun (a0, a1) => slices_Equal κ a0 a1)
theorem gam35_ok (κ : Nat) (m : Int) : GOk Tryz.prog C (G m) (gam35 κ) := (gam34_ok κ m).addS (ok_slices_Equal κ m)
def sp_value_choice_data : Spec T (ByteArray × Int × Int × Int × Int × (List ByteArray) × Bool × Int × (List SpecSpec) × Int × Int × ByteArray) ((List Int)) where
 dcI a H := match a, H with
  | [(.agg []), (.agg [.v (.s a0), .v (.i .i64 a1), .v (.i .i64 a2), .v (.i .u64 a3), .v (.i .u64 a4), .v (.sl 9 a5), .v (.b a6), .v (.i .i64 a7), .v (.sl 31 a8)]), (.agg [.v (.i .i64 a9), .v (.i .u64 a10), .v (.s a11)])], [] => some (a0, a1, a2, a3, a4, a5, a6, a7, a8, a9, a10, a11)
  | _, _ => none
 ecA := fun (a0, a1, a2, a3, a4, a5, a6, a7, a8, a9, a10, a11) => [(.agg []), (.agg [.v (.s a0), .v (.i .i64 a1), .v (.i .i64 a2), .v (.i .u64 a3), .v (.i .u64 a4), .v (.sl 9 a5), .v (.b a6), .v (.i .i64 a7), .v (.sl 31 a8)]), (.agg [.v (.i .i64 a9), .v (.i .u64 a10), .v (.s a11)])]
 ecH := fun _ => []
 dcO o := match o with
  | .ret (.own 0) [(.row 5 a0 true)] => some a0
  | _ => none
 goO := fun _ a0 k => k (.ret (.own 0) [(.row 5 a0 true)])
 ecO := fun a0 => .ret (.own 0) [(.row 5 a0 true)]
theorem sp_value_choice_data_ok : SpecOk sp_value_choice_data := by
 refine ⟨fun a H i h => ?_, fun o x h => ?_, fun R e k => by kernel_rfl⟩ <;> (simp only [sp_value_choice_data] at h ⊢; split at h <;> first | (cases h; exact ⟨rfl, rfl⟩) | (cases h; rfl) | (cases h; done))
theorem ok_value_choice_data (κ : Nat) (m : Int) : EOk Tryz.prog C (G m) 120 (sp_value_choice_data.entry (fun (a0, a1, a2, a3, a4, a5, a6, a7, a8, a9, a10, a11) => value_choice_data κ a0 a1 a2 a3 a4 a5 a6 a7 a8 a9 a10 a11)) :=
 Spec.ok sp_value_choice_data_ok C_ok mixed (gam35_ok κ m) (cut := noCut) (NR := (gcN 0 [0])) (NP := (gcN 0 [0])) (nB := 0) Tryz.func120 (c := (getBody Tryz.f120)) (by kernel_rfl) (by kernel_rfl) (fun i => by kernel_rfl) gcN_ok gcN_ok (cuts_by (l := []) (by kernel_rfl) (all_nil)) (fun i => by kernel_rfl)
noncomputable def gam36 (κ : Nat) : Gam T := (gam35 κ).addS 120 sp_value_choice_data (fun (a0, a1, a2, a3, a4, a5, a6, a7, a8, a9, a10, a11) => value_choice_data κ a0 a1 a2 a3 a4 a5 a6 a7 a8 a9 a10 a11)
theorem gam36_ok (κ : Nat) (m : Int) : GOk Tryz.prog C (G m) (gam36 κ) := (gam35_ok κ m).addS (ok_value_choice_data κ m)
def sp_value_truth_data : Spec T (ByteArray × Int × Int × Int × Int × (List ByteArray) × Bool × Int × (List SpecSpec) × Int × Int × ByteArray) ((List Int)) where
 dcI a H := match a, H with
  | [(.agg []), (.agg [.v (.s a0), .v (.i .i64 a1), .v (.i .i64 a2), .v (.i .u64 a3), .v (.i .u64 a4), .v (.sl 9 a5), .v (.b a6), .v (.i .i64 a7), .v (.sl 31 a8)]), (.agg [.v (.i .i64 a9), .v (.i .u64 a10), .v (.s a11)])], [] => some (a0, a1, a2, a3, a4, a5, a6, a7, a8, a9, a10, a11)
  | _, _ => none
 ecA := fun (a0, a1, a2, a3, a4, a5, a6, a7, a8, a9, a10, a11) => [(.agg []), (.agg [.v (.s a0), .v (.i .i64 a1), .v (.i .i64 a2), .v (.i .u64 a3), .v (.i .u64 a4), .v (.sl 9 a5), .v (.b a6), .v (.i .i64 a7), .v (.sl 31 a8)]), (.agg [.v (.i .i64 a9), .v (.i .u64 a10), .v (.s a11)])]
 ecH := fun _ => []
 dcO o := match o with
  | .ret (.own 0) [(.row 5 a0 true)] => some a0
  | _ => none
 goO := fun _ a0 k => k (.ret (.own 0) [(.row 5 a0 true)])
 ecO := fun a0 => .ret (.own 0) [(.row 5 a0 true)]
theorem sp_value_truth_data_ok : SpecOk sp_value_truth_data := by
 refine ⟨fun a H i h => ?_, fun o x h => ?_, fun R e k => by kernel_rfl⟩ <;> (simp only [sp_value_truth_data] at h ⊢; split at h <;> first | (cases h; exact ⟨rfl, rfl⟩) | (cases h; rfl) | (cases h; done))
theorem ok_value_truth_data (κ : Nat) (m : Int) : EOk Tryz.prog C (G m) 113 (sp_value_truth_data.entry (fun (a0, a1, a2, a3, a4, a5, a6, a7, a8, a9, a10, a11) => value_truth_data κ a0 a1 a2 a3 a4 a5 a6 a7 a8 a9 a10 a11)) :=
 Spec.ok sp_value_truth_data_ok C_ok mixed (gam36_ok κ m) (cut := noCut) (NR := (gcN 0 [0])) (NP := (gcN 0 [0])) (nB := 0) Tryz.func113 (c := (getBody Tryz.f113)) (by kernel_rfl) (by kernel_rfl) (fun i => by kernel_rfl) gcN_ok gcN_ok (cuts_by (l := []) (by kernel_rfl) (all_nil)) (fun i => by kernel_rfl)
noncomputable def gam37 (κ : Nat) : Gam T := (gam36 κ).addS 113 sp_value_truth_data (fun (a0, a1, a2, a3, a4, a5, a6, a7, a8, a9, a10, a11) => value_truth_data κ a0 a1 a2 a3 a4 a5 a6 a7 a8 a9 a10 a11)
theorem gam37_ok (κ : Nat) (m : Int) : GOk Tryz.prog C (G m) (gam37 κ) := (gam36_ok κ m).addS (ok_value_truth_data κ m)
def p_octet_Big_0 : Piece T (Int × Int) (Int × Int × Bool) where
 dcS env H ds := match env 0, env 1, env 5, H, ds with
  | .v (.i .u64 a0), .v (.i .i64 a1), .cap0, [], [] => some (a0, a1)
  | _, _, _, _, _ => none
 slS := fun (a0, a1) => [(0, .v (.i .u64 a0)), (1, .v (.i .i64 a1)), (5, .cap0)]
 obS := fun _ => []
 dsS := fun _ => []
 dcE x env H ds := match x, env 0, env 1, env 5, env 12, H, ds with
  | .normal, .v (.i .u64 a0), .v (.i .i64 a1), .cap0, .v (.b a2), [], [] => some (a0, a1, a2)
  | _, _, _, _, _, _, _ => none
 exE := fun _ => .normal
 slE := fun (a0, a1, a2) => [(0, .v (.i .u64 a0)), (1, .v (.i .i64 a1)), (5, .cap0), (12, .v (.b a2))]
 obE := fun _ => []
 dsE := fun _ => []
 goE := fun _ (a0, a1, a2) k => k .normal [(0, .v (.i .u64 a0)), (1, .v (.i .i64 a1)), (5, .cap0), (12, .v (.b a2))] [] []
theorem p_octet_Big_0_ok : PieceOk p_octet_Big_0 := by
 refine ⟨fun env H ds s h => ?_, fun x env H ds e h => ?_, fun R e k => by kernel_rfl⟩ <;> (simp only [p_octet_Big_0] at h ⊢; split at h <;> first | (cases h; simp only [List.forall_mem_cons]; simp_all; done) | (cases h; done))
theorem p_octet_Big_0_ct (κ : Nat) (m : Int) : CutOk Tryz.prog C (G m) Tryz.f112.ntmps 0 (pieceOf (.reg 2) (getBody Tryz.f112)) (p_octet_Big_0.cut (gcN 0 [0, 1, 5]) (fun (a0, a1) => octet_Big.v0 κ a0 a1)) :=
 Piece.join p_octet_Big_0_ok C_ok mixed (gam37_ok κ m) gcN_ok (xN_ok gcN_ok (ex_nil) gcN_ok gcN_ok) (cut := noCut) (X := (xN (gcN 0 [0, 1, 5, 12]) [] (gcN 0 [4]) (gcN 0 [1000000]))) (cuts_by (l := []) (by kernel_rfl) (all_nil)) (fun s => by kernel_rfl)
def cc_octet_Big_1 (κ : Nat) : Cut T := p_octet_Big_0.cut (gcN 0 [0, 1, 5]) (fun (a0, a1) => octet_Big.v0 κ a0 a1)
theorem cc_octet_Big_1_ok (κ : Nat) (m : Int) : CutOk Tryz.prog C (G m) Tryz.f112.ntmps 0 (pieceOf (.reg 2) (getBody Tryz.f112)) (cc_octet_Big_1 κ) := p_octet_Big_0_ct κ m
def ct_octet_Big_1 (κ : Nat) : Key → Option (Cut T) := addCut noCut (.reg 2) (cc_octet_Big_1 κ)
def p_octet_Big_2 : Piece T (Int × Int × (List Int)) ((List Int)) where
 dcS env H ds := match env 0, env 5, env 6, H, ds with
  | .v (.i .u64 a0), (.own 0), .v (.i .i64 a1), [(.row 5 a2 true)], [] => some (a0, a1, a2)
  | _, _, _, _, _ => none
 slS := fun (a0, a1, _) => [(0, .v (.i .u64 a0)), (5, .own 0), (6, .v (.i .i64 a1))]
 obS := fun (_, _, a2) => [(.row 5 a2 true)]
 dsS := fun _ => []
 dcE x env H ds := match x, env 5, H, ds with
  | .normal, (.own 0), [(.row 5 a0 true)], [] => some a0
  | _, _, _, _ => none
 exE := fun a0 => .normal
 slE := fun a0 => [(5, .own 0)]
 obE := fun a0 => [(.row 5 a0 true)]
 dsE := fun a0 => []
 goE := fun _ a0 k => k .normal [(5, .own 0)] [(.row 5 a0 true)] []
theorem p_octet_Big_2_ok : PieceOk p_octet_Big_2 := by
 refine ⟨fun env H ds s h => ?_, fun x env H ds e h => ?_, fun R e k => by kernel_rfl⟩ <;> (simp only [p_octet_Big_2] at h ⊢; split at h <;> first | (cases h; simp only [List.forall_mem_cons]; simp_all; done) | (cases h; done))
theorem p_octet_Big_2_ct (κ : Nat) (m : Int) : CutOk Tryz.prog C (G m) Tryz.f112.ntmps 0 (pieceOf (.blk 0) (getBody Tryz.f112)) (p_octet_Big_2.cut (andN (promS 5 [] 5) (gcN 0 [0, 5, 6])) (octet_Big.l2 κ κ)) :=
 Piece.loop p_octet_Big_2_ok C_ok mixed (gam37_ok κ m) (andN_ok promS_ok gcN_ok) (xN_ok gcN_ok (ex_nil) gcN_ok gcN_ok) (cut := (ct_octet_Big_1 κ)) (X := (xN (gcN 0 [5]) [] (gcN 0 [4]) (gcN 0 [1000000]))) (id := 0) (body := bodyOf (pieceOf (.blk 0) (getBody Tryz.f112))) (cuts_by (l := []) (by kernel_rfl) (all_nil)) (f := octet_Big.l2 κ) (fun s => by kernel_rfl) (fun k s => by kernel_rfl) κ
def cc_octet_Big_3 (κ : Nat) : Cut T := p_octet_Big_2.cut (andN (promS 5 [] 5) (gcN 0 [0, 5, 6])) (octet_Big.l2 κ κ)
theorem cc_octet_Big_3_ok (κ : Nat) (m : Int) : CutOk Tryz.prog C (G m) Tryz.f112.ntmps 0 (pieceOf (.blk 0) (getBody Tryz.f112)) (cc_octet_Big_3 κ) := p_octet_Big_2_ct κ m
def ct_octet_Big_3 (κ : Nat) : Key → Option (Cut T) := addCut (ct_octet_Big_1 κ) (.blk 0) (cc_octet_Big_3 κ)
def sp_octet_Big : Spec T (Int × Int) ((List Int)) where
 dcI a H := match a, H with
  | [.v (.i .u64 a0), .v (.i .i64 a1)], [] => some (a0, a1)
  | _, _ => none
 ecA := fun (a0, a1) => [.v (.i .u64 a0), .v (.i .i64 a1)]
 ecH := fun _ => []
 dcO o := match o with
  | .ret (.own 0) [(.row 5 a0 true)] => some a0
  | _ => none
 goO := fun _ a0 k => k (.ret (.own 0) [(.row 5 a0 true)])
 ecO := fun a0 => .ret (.own 0) [(.row 5 a0 true)]
theorem sp_octet_Big_ok : SpecOk sp_octet_Big := by
 refine ⟨fun a H i h => ?_, fun o x h => ?_, fun R e k => by kernel_rfl⟩ <;> (simp only [sp_octet_Big] at h ⊢; split at h <;> first | (cases h; exact ⟨rfl, rfl⟩) | (cases h; rfl) | (cases h; done))
theorem ok_octet_Big (κ : Nat) (m : Int) : EOk Tryz.prog C (G m) 112 (sp_octet_Big.entry (fun (a0, a1) => octet_Big κ a0 a1)) :=
 Spec.ok sp_octet_Big_ok C_ok mixed (gam37_ok κ m) (cut := (ct_octet_Big_3 κ)) (NR := (andN (promS 0 [] 5) (gcN 0 [0]))) (NP := (gcN 0 [0])) (nB := 0) Tryz.func112 (c := (getBody Tryz.f112)) (by kernel_rfl) (by kernel_rfl) (fun i => by kernel_rfl) (andN_ok promS_ok gcN_ok) gcN_ok (cuts_by (l := [(pieceOf (.reg 2) (getBody Tryz.f112), cc_octet_Big_1 κ), (pieceOf (.blk 0) (getBody Tryz.f112), cc_octet_Big_3 κ)]) (by kernel_rfl) (all_cons (cc_octet_Big_1_ok κ m) (all_cons (cc_octet_Big_3_ok κ m) (all_nil)))) (fun i => by kernel_rfl)
noncomputable def gam38 (κ : Nat) : Gam T := (gam37 κ).addS 112 sp_octet_Big (fun (a0, a1) => octet_Big κ a0 a1)
theorem gam38_ok (κ : Nat) (m : Int) : GOk Tryz.prog C (G m) (gam38 κ) := (gam37_ok κ m).addS (ok_octet_Big κ m)
def p_octet_Least_0 : Piece T (Int × Int × Int) (Int × Int) where
 dcS env H ds := match env 0, env 3, env 4, H, ds with
  | .v (.i .u64 a0), .v (.i .i64 a1), .v (.i .u64 a2), [], [] => some (a0, a1, a2)
  | _, _, _, _, _ => none
 slS := fun (a0, a1, a2) => [(0, .v (.i .u64 a0)), (3, .v (.i .i64 a1)), (4, .v (.i .u64 a2))]
 obS := fun _ => []
 dsS := fun _ => []
 dcE x env H ds := match x, env 0, env 3, H, ds with
  | .normal, .v (.i .u64 a0), .v (.i .i64 a1), [], [] => some (a0, a1)
  | _, _, _, _, _ => none
 exE := fun _ => .normal
 slE := fun (a0, a1) => [(0, .v (.i .u64 a0)), (3, .v (.i .i64 a1))]
 obE := fun _ => []
 dsE := fun _ => []
 goE := fun _ (a0, a1) k => k .normal [(0, .v (.i .u64 a0)), (3, .v (.i .i64 a1))] [] []
theorem p_octet_Least_0_ok : PieceOk p_octet_Least_0 := by
 refine ⟨fun env H ds s h => ?_, fun x env H ds e h => ?_, fun R e k => by kernel_rfl⟩ <;> (simp only [p_octet_Least_0] at h ⊢; split at h <;> first | (cases h; simp only [List.forall_mem_cons]; simp_all; done) | (cases h; done))
theorem p_octet_Least_0_ct (κ : Nat) (m : Int) : CutOk Tryz.prog C (G m) Tryz.f110.ntmps 0 (pieceOf (.blk 0) (getBody Tryz.f110)) (p_octet_Least_0.cut (gcN 0 [0, 3, 4]) (octet_Least.l0 κ κ)) :=
 Piece.loop p_octet_Least_0_ok C_ok mixed (gam37_ok κ m) gcN_ok (xN_ok gcN_ok (ex_nil) gcN_ok gcN_ok) (cut := noCut) (X := (xN (gcN 0 [0, 3]) [] (gcN 0 [2]) (gcN 0 [1000000]))) (id := 0) (body := bodyOf (pieceOf (.blk 0) (getBody Tryz.f110))) (cuts_by (l := []) (by kernel_rfl) (all_nil)) (f := octet_Least.l0 κ) (fun s => by kernel_rfl) (fun k s => by kernel_rfl) κ
def cc_octet_Least_1 (κ : Nat) : Cut T := p_octet_Least_0.cut (gcN 0 [0, 3, 4]) (octet_Least.l0 κ κ)
theorem cc_octet_Least_1_ok (κ : Nat) (m : Int) : CutOk Tryz.prog C (G m) Tryz.f110.ntmps 0 (pieceOf (.blk 0) (getBody Tryz.f110)) (cc_octet_Least_1 κ) := p_octet_Least_0_ct κ m
def ct_octet_Least_1 (κ : Nat) : Key → Option (Cut T) := addCut noCut (.blk 0) (cc_octet_Least_1 κ)
def sp_octet_Least : Spec T (Int) ((List Int)) where
 dcI a H := match a, H with
  | [.v (.i .u64 a0)], [] => some a0
  | _, _ => none
 ecA := fun a0 => [.v (.i .u64 a0)]
 ecH := fun a0 => []
 dcO o := match o with
  | .ret (.own 0) [(.row 5 a0 true)] => some a0
  | _ => none
 goO := fun _ a0 k => k (.ret (.own 0) [(.row 5 a0 true)])
 ecO := fun a0 => .ret (.own 0) [(.row 5 a0 true)]
theorem sp_octet_Least_ok : SpecOk sp_octet_Least := by
 refine ⟨fun a H i h => ?_, fun o x h => ?_, fun R e k => by kernel_rfl⟩ <;> (simp only [sp_octet_Least] at h ⊢; split at h <;> first | (cases h; exact ⟨rfl, rfl⟩) | (cases h; rfl) | (cases h; done))
theorem ok_octet_Least (κ : Nat) (m : Int) : EOk Tryz.prog C (G m) 110 (sp_octet_Least.entry (fun a0 => octet_Least κ a0)) :=
 Spec.ok sp_octet_Least_ok C_ok mixed (gam38_ok κ m) (cut := (ct_octet_Least_1 κ)) (NR := (gcN 0 [0])) (NP := (gcN 0 [0])) (nB := 0) Tryz.func110 (c := (getBody Tryz.f110)) (by kernel_rfl) (by kernel_rfl) (fun i => by kernel_rfl) gcN_ok gcN_ok (cuts_by (l := [(pieceOf (.blk 0) (getBody Tryz.f110), cc_octet_Least_1 κ)]) (by kernel_rfl) (all_cons (cc_octet_Least_1_ok κ m) (all_nil))) (fun i => by kernel_rfl)
noncomputable def gam39 (κ : Nat) : Gam T := (gam38 κ).addS 110 sp_octet_Least (fun a0 => octet_Least κ a0)
theorem gam39_ok (κ : Nat) (m : Int) : GOk Tryz.prog C (G m) (gam39 κ) := (gam38_ok κ m).addS (ok_octet_Least κ m)
def sp_value_number_data : Spec T (ByteArray × Int × Int × Int × Int × (List ByteArray) × Bool × Int × (List SpecSpec) × Int × Int × ByteArray) ((List Int)) where
 dcI a H := match a, H with
  | [(.agg [(.fn (.func 39) [] []), (.fn (.func 40) [] [])]), (.agg [.v (.s a0), .v (.i .i64 a1), .v (.i .i64 a2), .v (.i .u64 a3), .v (.i .u64 a4), .v (.sl 9 a5), .v (.b a6), .v (.i .i64 a7), .v (.sl 31 a8)]), (.agg [.v (.i .i64 a9), .v (.i .u64 a10), .v (.s a11)])], [] => some (a0, a1, a2, a3, a4, a5, a6, a7, a8, a9, a10, a11)
  | _, _ => none
 ecA := fun (a0, a1, a2, a3, a4, a5, a6, a7, a8, a9, a10, a11) => [(.agg [(.fn (.func 39) [] []), (.fn (.func 40) [] [])]), (.agg [.v (.s a0), .v (.i .i64 a1), .v (.i .i64 a2), .v (.i .u64 a3), .v (.i .u64 a4), .v (.sl 9 a5), .v (.b a6), .v (.i .i64 a7), .v (.sl 31 a8)]), (.agg [.v (.i .i64 a9), .v (.i .u64 a10), .v (.s a11)])]
 ecH := fun _ => []
 dcO o := match o with
  | .ret (.own 0) [(.row 5 a0 true)] => some a0
  | _ => none
 goO := fun _ a0 k => k (.ret (.own 0) [(.row 5 a0 true)])
 ecO := fun a0 => .ret (.own 0) [(.row 5 a0 true)]
theorem sp_value_number_data_ok : SpecOk sp_value_number_data := by
 refine ⟨fun a H i h => ?_, fun o x h => ?_, fun R e k => by kernel_rfl⟩ <;> (simp only [sp_value_number_data] at h ⊢; split at h <;> first | (cases h; exact ⟨rfl, rfl⟩) | (cases h; rfl) | (cases h; done))
theorem ok_value_number_data (κ : Nat) (m : Int) : EOk Tryz.prog C (G m) 105 (sp_value_number_data.entry (fun (a0, a1, a2, a3, a4, a5, a6, a7, a8, a9, a10, a11) => value_number_data κ a0 a1 a2 a3 a4 a5 a6 a7 a8 a9 a10 a11)) :=
 Spec.ok sp_value_number_data_ok C_ok mixed (gam39_ok κ m) (cut := noCut) (NR := (gcN 0 [0])) (NP := (gcN 0 [0])) (nB := 0) Tryz.func105 (c := (getBody Tryz.f105)) (by kernel_rfl) (by kernel_rfl) (fun i => by kernel_rfl) gcN_ok gcN_ok (cuts_by (l := []) (by kernel_rfl) (all_nil)) (fun i => by kernel_rfl)
noncomputable def gam40 (κ : Nat) : Gam T := (gam39 κ).addS 105 sp_value_number_data (fun (a0, a1, a2, a3, a4, a5, a6, a7, a8, a9, a10, a11) => value_number_data κ a0 a1 a2 a3 a4 a5 a6 a7 a8 a9 a10 a11)
theorem gam40_ok (κ : Nat) (m : Int) : GOk Tryz.prog C (G m) (gam40 κ) := (gam39_ok κ m).addS (ok_value_number_data κ m)
def sp_value_number_data_2 : Spec T (ByteArray × Int × Int × Int × Int × (List ByteArray) × Bool × Int × (List SpecSpec) × Int × Int × ByteArray) ((List Int)) where
 dcI a H := match a, H with
  | [(.agg [(.fn (.func 37) [] []), (.fn (.func 38) [] [])]), (.agg [.v (.s a0), .v (.i .i64 a1), .v (.i .i64 a2), .v (.i .u64 a3), .v (.i .u64 a4), .v (.sl 9 a5), .v (.b a6), .v (.i .i64 a7), .v (.sl 31 a8)]), (.agg [.v (.i .i64 a9), .v (.i .u64 a10), .v (.s a11)])], [] => some (a0, a1, a2, a3, a4, a5, a6, a7, a8, a9, a10, a11)
  | _, _ => none
 ecA := fun (a0, a1, a2, a3, a4, a5, a6, a7, a8, a9, a10, a11) => [(.agg [(.fn (.func 37) [] []), (.fn (.func 38) [] [])]), (.agg [.v (.s a0), .v (.i .i64 a1), .v (.i .i64 a2), .v (.i .u64 a3), .v (.i .u64 a4), .v (.sl 9 a5), .v (.b a6), .v (.i .i64 a7), .v (.sl 31 a8)]), (.agg [.v (.i .i64 a9), .v (.i .u64 a10), .v (.s a11)])]
 ecH := fun _ => []
 dcO o := match o with
  | .ret (.own 0) [(.row 5 a0 true)] => some a0
  | _ => none
 goO := fun _ a0 k => k (.ret (.own 0) [(.row 5 a0 true)])
 ecO := fun a0 => .ret (.own 0) [(.row 5 a0 true)]
theorem sp_value_number_data_2_ok : SpecOk sp_value_number_data_2 := by
 refine ⟨fun a H i h => ?_, fun o x h => ?_, fun R e k => by kernel_rfl⟩ <;> (simp only [sp_value_number_data_2] at h ⊢; split at h <;> first | (cases h; exact ⟨rfl, rfl⟩) | (cases h; rfl) | (cases h; done))
theorem ok_value_number_data_2 (κ : Nat) (m : Int) : EOk Tryz.prog C (G m) 105 (sp_value_number_data_2.entry (fun (a0, a1, a2, a3, a4, a5, a6, a7, a8, a9, a10, a11) => value_number_data_2 κ a0 a1 a2 a3 a4 a5 a6 a7 a8 a9 a10 a11)) :=
 Spec.ok sp_value_number_data_2_ok C_ok mixed (gam40_ok κ m) (cut := noCut) (NR := (gcN 0 [0])) (NP := (gcN 0 [0])) (nB := 0) Tryz.func105 (c := (getBody Tryz.f105)) (by kernel_rfl) (by kernel_rfl) (fun i => by kernel_rfl) gcN_ok gcN_ok (cuts_by (l := []) (by kernel_rfl) (all_nil)) (fun i => by kernel_rfl)
noncomputable def gam41 (κ : Nat) : Gam T := (gam40 κ).addS 105 sp_value_number_data_2 (fun (a0, a1, a2, a3, a4, a5, a6, a7, a8, a9, a10, a11) => value_number_data_2 κ a0 a1 a2 a3 a4 a5 a6 a7 a8 a9 a10 a11)
theorem gam41_ok (κ : Nat) (m : Int) : GOk Tryz.prog C (G m) (gam41 κ) := (gam40_ok κ m).addS (ok_value_number_data_2 κ m)
def p_value_Take_0 : Piece T ((List Int) × Int × ByteArray × Int × Int × Int × Int × (List ByteArray) × Bool × Int × (List SpecSpec) × Int × Int × ByteArray × Int × Int × ByteArray) (Int × Bool × Int × Int × ByteArray × Int × Int × ByteArray) where
 dcS env H ds := match env 1, env 2, env 4, env 6, env 9, env 10, H, ds with
  | .v (.sl 5 a0), .ptr 0 0, .ptr 1 0, (.ifc 80 (.agg [])), .ptr 2 0, .v (.i .i64 a1), [.cells 31 none [.v (.s a2), .v (.i .i64 a3), .v (.i .i64 a4), .v (.i .u64 a5), .v (.i .u64 a6), .v (.sl 9 a7), .v (.b a8), .v (.i .i64 a9), .v (.sl 31 a10)], .cells 27 none [.v (.i .i64 a11), .v (.i .u64 a12), .v (.s a13)], .cells 27 none [.v (.i .i64 a14), .v (.i .u64 a15), .v (.s a16)]], [] => some (a0, a1, a2, a3, a4, a5, a6, a7, a8, a9, a10, a11, a12, a13, a14, a15, a16)
  | _, _, _, _, _, _, _, _ => none
 slS := fun (a0, a1, _) => [(1, .v (.sl 5 a0)), (2, .ptr 0 0), (4, .ptr 1 0), (6, (.ifc 80 (.agg []))), (9, .ptr 2 0), (10, .v (.i .i64 a1))]
 obS := fun (_, _, a2, a3, a4, a5, a6, a7, a8, a9, a10, a11, a12, a13, a14, a15, a16) => [.cells 31 none [.v (.s a2), .v (.i .i64 a3), .v (.i .i64 a4), .v (.i .u64 a5), .v (.i .u64 a6), .v (.sl 9 a7), .v (.b a8), .v (.i .i64 a9), .v (.sl 31 a10)], .cells 27 none [.v (.i .i64 a11), .v (.i .u64 a12), .v (.s a13)], .cells 27 none [.v (.i .i64 a14), .v (.i .u64 a15), .v (.s a16)]]
 dsS := fun _ => []
 dcE x env H ds := match x, env 4, env 9, env 10, env 40, H, ds with
  | .normal, .ptr 0 0, .ptr 1 0, .v (.i .i64 a0), .v (.b a1), [.cells 27 none [.v (.i .i64 a2), .v (.i .u64 a3), .v (.s a4)], .cells 27 none [.v (.i .i64 a5), .v (.i .u64 a6), .v (.s a7)]], [] => some (a0, a1, a2, a3, a4, a5, a6, a7)
  | _, _, _, _, _, _, _ => none
 exE := fun _ => .normal
 slE := fun (a0, a1, _) => [(4, .ptr 0 0), (9, .ptr 1 0), (10, .v (.i .i64 a0)), (40, .v (.b a1))]
 obE := fun (_, _, a2, a3, a4, a5, a6, a7) => [.cells 27 none [.v (.i .i64 a2), .v (.i .u64 a3), .v (.s a4)], .cells 27 none [.v (.i .i64 a5), .v (.i .u64 a6), .v (.s a7)]]
 dsE := fun _ => []
 goE := fun _ (a0, a1, a2, a3, a4, a5, a6, a7) k => k .normal [(4, .ptr 0 0), (9, .ptr 1 0), (10, .v (.i .i64 a0)), (40, .v (.b a1))] [.cells 27 none [.v (.i .i64 a2), .v (.i .u64 a3), .v (.s a4)], .cells 27 none [.v (.i .i64 a5), .v (.i .u64 a6), .v (.s a7)]] []
theorem p_value_Take_0_ok : PieceOk p_value_Take_0 := by
 refine ⟨fun env H ds s h => ?_, fun x env H ds e h => ?_, fun R e k => by kernel_rfl⟩ <;> (simp only [p_value_Take_0] at h ⊢; split at h <;> first | (cases h; simp only [List.forall_mem_cons]; simp_all; done) | (cases h; done))
theorem p_value_Take_0_ct (κ : Nat) (m : Int) : CutOk Tryz.prog C (G m) Tryz.f16.ntmps 0 (pieceOf (.reg 6) (getBody Tryz.f16)) (p_value_Take_0.cut (gcN 0 [1, 2, 4, 6, 9, 10]) (fun (a0, a1, a2, a3, a4, a5, a6, a7, a8, a9, a10, a11, a12, a13, a14, a15, a16) => value_Take.v0 κ a0 a1 a2 a3 a4 a5 a6 a7 a8 a9 a10 a11 a12 a13 a14 a15 a16)) :=
 Piece.join p_value_Take_0_ok C_ok mixed (gam35_ok κ m) gcN_ok (xN_ok gcN_ok (ex_nil) gcN_ok gcN_ok) (cut := noCut) (X := (xN (gcN 0 [4, 9, 10, 40]) [] (gcN 0 [4, 5]) (gcN 0 [1000000]))) (cuts_by (l := []) (by kernel_rfl) (all_nil)) (fun s => by kernel_rfl)
def p_value_Take_1 : Piece T ((List Int) × Int × ByteArray × Int × Int × Int × Int × (List ByteArray) × Bool × Int × (List SpecSpec) × Int × Int × ByteArray × Int × Int × ByteArray) (Int × Bool × Int × Int × ByteArray × Int × Int × ByteArray) where
 dcS env H ds := match env 1, env 2, env 4, env 6, env 9, env 10, H, ds with
  | .v (.sl 5 a0), .ptr 0 0, .ptr 1 0, (.ifc 79 (.agg [])), .ptr 2 0, .v (.i .i64 a1), [.cells 31 none [.v (.s a2), .v (.i .i64 a3), .v (.i .i64 a4), .v (.i .u64 a5), .v (.i .u64 a6), .v (.sl 9 a7), .v (.b a8), .v (.i .i64 a9), .v (.sl 31 a10)], .cells 27 none [.v (.i .i64 a11), .v (.i .u64 a12), .v (.s a13)], .cells 27 none [.v (.i .i64 a14), .v (.i .u64 a15), .v (.s a16)]], [] => some (a0, a1, a2, a3, a4, a5, a6, a7, a8, a9, a10, a11, a12, a13, a14, a15, a16)
  | _, _, _, _, _, _, _, _ => none
 slS := fun (a0, a1, _) => [(1, .v (.sl 5 a0)), (2, .ptr 0 0), (4, .ptr 1 0), (6, (.ifc 79 (.agg []))), (9, .ptr 2 0), (10, .v (.i .i64 a1))]
 obS := fun (_, _, a2, a3, a4, a5, a6, a7, a8, a9, a10, a11, a12, a13, a14, a15, a16) => [.cells 31 none [.v (.s a2), .v (.i .i64 a3), .v (.i .i64 a4), .v (.i .u64 a5), .v (.i .u64 a6), .v (.sl 9 a7), .v (.b a8), .v (.i .i64 a9), .v (.sl 31 a10)], .cells 27 none [.v (.i .i64 a11), .v (.i .u64 a12), .v (.s a13)], .cells 27 none [.v (.i .i64 a14), .v (.i .u64 a15), .v (.s a16)]]
 dsS := fun _ => []
 dcE x env H ds := match x, env 4, env 9, env 10, env 40, H, ds with
  | .normal, .ptr 0 0, .ptr 1 0, .v (.i .i64 a0), .v (.b a1), [.cells 27 none [.v (.i .i64 a2), .v (.i .u64 a3), .v (.s a4)], .cells 27 none [.v (.i .i64 a5), .v (.i .u64 a6), .v (.s a7)]], [] => some (a0, a1, a2, a3, a4, a5, a6, a7)
  | _, _, _, _, _, _, _ => none
 exE := fun _ => .normal
 slE := fun (a0, a1, _) => [(4, .ptr 0 0), (9, .ptr 1 0), (10, .v (.i .i64 a0)), (40, .v (.b a1))]
 obE := fun (_, _, a2, a3, a4, a5, a6, a7) => [.cells 27 none [.v (.i .i64 a2), .v (.i .u64 a3), .v (.s a4)], .cells 27 none [.v (.i .i64 a5), .v (.i .u64 a6), .v (.s a7)]]
 dsE := fun _ => []
 goE := fun _ (a0, a1, a2, a3, a4, a5, a6, a7) k => k .normal [(4, .ptr 0 0), (9, .ptr 1 0), (10, .v (.i .i64 a0)), (40, .v (.b a1))] [.cells 27 none [.v (.i .i64 a2), .v (.i .u64 a3), .v (.s a4)], .cells 27 none [.v (.i .i64 a5), .v (.i .u64 a6), .v (.s a7)]] []
theorem p_value_Take_1_ok : PieceOk p_value_Take_1 := by
 refine ⟨fun env H ds s h => ?_, fun x env H ds e h => ?_, fun R e k => by kernel_rfl⟩ <;> (simp only [p_value_Take_1] at h ⊢; split at h <;> first | (cases h; simp only [List.forall_mem_cons]; simp_all; done) | (cases h; done))
theorem p_value_Take_1_ct (κ : Nat) (m : Int) : CutOk Tryz.prog C (G m) Tryz.f16.ntmps 0 (pieceOf (.reg 6) (getBody Tryz.f16)) (p_value_Take_1.cut (gcN 0 [1, 2, 4, 6, 9, 10]) (fun (a0, a1, a2, a3, a4, a5, a6, a7, a8, a9, a10, a11, a12, a13, a14, a15, a16) => value_Take.v1 κ a0 a1 a2 a3 a4 a5 a6 a7 a8 a9 a10 a11 a12 a13 a14 a15 a16)) :=
 Piece.join p_value_Take_1_ok C_ok mixed (gam36_ok κ m) gcN_ok (xN_ok gcN_ok (ex_nil) gcN_ok gcN_ok) (cut := noCut) (X := (xN (gcN 0 [4, 9, 10, 40]) [] (gcN 0 [4, 5]) (gcN 0 [1000000]))) (cuts_by (l := []) (by kernel_rfl) (all_nil)) (fun s => by kernel_rfl)
def p_value_Take_2 : Piece T ((List Int) × Int × ByteArray × Int × Int × Int × Int × (List ByteArray) × Bool × Int × (List SpecSpec) × Int × Int × ByteArray × Int × Int × ByteArray) (Int × Bool × Int × Int × ByteArray × Int × Int × ByteArray) where
 dcS env H ds := match env 1, env 2, env 4, env 6, env 9, env 10, H, ds with
  | .v (.sl 5 a0), .ptr 0 0, .ptr 1 0, (.ifc 78 (.agg [])), .ptr 2 0, .v (.i .i64 a1), [.cells 31 none [.v (.s a2), .v (.i .i64 a3), .v (.i .i64 a4), .v (.i .u64 a5), .v (.i .u64 a6), .v (.sl 9 a7), .v (.b a8), .v (.i .i64 a9), .v (.sl 31 a10)], .cells 27 none [.v (.i .i64 a11), .v (.i .u64 a12), .v (.s a13)], .cells 27 none [.v (.i .i64 a14), .v (.i .u64 a15), .v (.s a16)]], [] => some (a0, a1, a2, a3, a4, a5, a6, a7, a8, a9, a10, a11, a12, a13, a14, a15, a16)
  | _, _, _, _, _, _, _, _ => none
 slS := fun (a0, a1, _) => [(1, .v (.sl 5 a0)), (2, .ptr 0 0), (4, .ptr 1 0), (6, (.ifc 78 (.agg []))), (9, .ptr 2 0), (10, .v (.i .i64 a1))]
 obS := fun (_, _, a2, a3, a4, a5, a6, a7, a8, a9, a10, a11, a12, a13, a14, a15, a16) => [.cells 31 none [.v (.s a2), .v (.i .i64 a3), .v (.i .i64 a4), .v (.i .u64 a5), .v (.i .u64 a6), .v (.sl 9 a7), .v (.b a8), .v (.i .i64 a9), .v (.sl 31 a10)], .cells 27 none [.v (.i .i64 a11), .v (.i .u64 a12), .v (.s a13)], .cells 27 none [.v (.i .i64 a14), .v (.i .u64 a15), .v (.s a16)]]
 dsS := fun _ => []
 dcE x env H ds := match x, env 4, env 9, env 10, env 40, H, ds with
  | .normal, .ptr 0 0, .ptr 1 0, .v (.i .i64 a0), .v (.b a1), [.cells 27 none [.v (.i .i64 a2), .v (.i .u64 a3), .v (.s a4)], .cells 27 none [.v (.i .i64 a5), .v (.i .u64 a6), .v (.s a7)]], [] => some (a0, a1, a2, a3, a4, a5, a6, a7)
  | _, _, _, _, _, _, _ => none
 exE := fun _ => .normal
 slE := fun (a0, a1, _) => [(4, .ptr 0 0), (9, .ptr 1 0), (10, .v (.i .i64 a0)), (40, .v (.b a1))]
 obE := fun (_, _, a2, a3, a4, a5, a6, a7) => [.cells 27 none [.v (.i .i64 a2), .v (.i .u64 a3), .v (.s a4)], .cells 27 none [.v (.i .i64 a5), .v (.i .u64 a6), .v (.s a7)]]
 dsE := fun _ => []
 goE := fun _ (a0, a1, a2, a3, a4, a5, a6, a7) k => k .normal [(4, .ptr 0 0), (9, .ptr 1 0), (10, .v (.i .i64 a0)), (40, .v (.b a1))] [.cells 27 none [.v (.i .i64 a2), .v (.i .u64 a3), .v (.s a4)], .cells 27 none [.v (.i .i64 a5), .v (.i .u64 a6), .v (.s a7)]] []
theorem p_value_Take_2_ok : PieceOk p_value_Take_2 := by
 refine ⟨fun env H ds s h => ?_, fun x env H ds e h => ?_, fun R e k => by kernel_rfl⟩ <;> (simp only [p_value_Take_2] at h ⊢; split at h <;> first | (cases h; simp only [List.forall_mem_cons]; simp_all; done) | (cases h; done))
theorem p_value_Take_2_ct (κ : Nat) (m : Int) : CutOk Tryz.prog C (G m) Tryz.f16.ntmps 0 (pieceOf (.reg 6) (getBody Tryz.f16)) (p_value_Take_2.cut (gcN 0 [1, 2, 4, 6, 9, 10]) (fun (a0, a1, a2, a3, a4, a5, a6, a7, a8, a9, a10, a11, a12, a13, a14, a15, a16) => value_Take.v2 κ a0 a1 a2 a3 a4 a5 a6 a7 a8 a9 a10 a11 a12 a13 a14 a15 a16)) :=
 Piece.join p_value_Take_2_ok C_ok mixed (gam37_ok κ m) gcN_ok (xN_ok gcN_ok (ex_nil) gcN_ok gcN_ok) (cut := noCut) (X := (xN (gcN 0 [4, 9, 10, 40]) [] (gcN 0 [4, 5]) (gcN 0 [1000000]))) (cuts_by (l := []) (by kernel_rfl) (all_nil)) (fun s => by kernel_rfl)
def p_value_Take_3 : Piece T ((List Int) × Int × ByteArray × Int × Int × Int × Int × (List ByteArray) × Bool × Int × (List SpecSpec) × Int × Int × ByteArray × Int × Int × ByteArray) (Int × Bool × Int × Int × ByteArray × Int × Int × ByteArray) where
 dcS env H ds := match env 1, env 2, env 4, env 6, env 9, env 10, H, ds with
  | .v (.sl 5 a0), .ptr 0 0, .ptr 1 0, (.ifc 76 (.agg [(.fn (.func 39) [] []), (.fn (.func 40) [] [])])), .ptr 2 0, .v (.i .i64 a1), [.cells 31 none [.v (.s a2), .v (.i .i64 a3), .v (.i .i64 a4), .v (.i .u64 a5), .v (.i .u64 a6), .v (.sl 9 a7), .v (.b a8), .v (.i .i64 a9), .v (.sl 31 a10)], .cells 27 none [.v (.i .i64 a11), .v (.i .u64 a12), .v (.s a13)], .cells 27 none [.v (.i .i64 a14), .v (.i .u64 a15), .v (.s a16)]], [] => some (a0, a1, a2, a3, a4, a5, a6, a7, a8, a9, a10, a11, a12, a13, a14, a15, a16)
  | _, _, _, _, _, _, _, _ => none
 slS := fun (a0, a1, _) => [(1, .v (.sl 5 a0)), (2, .ptr 0 0), (4, .ptr 1 0), (6, (.ifc 76 (.agg [(.fn (.func 39) [] []), (.fn (.func 40) [] [])]))), (9, .ptr 2 0), (10, .v (.i .i64 a1))]
 obS := fun (_, _, a2, a3, a4, a5, a6, a7, a8, a9, a10, a11, a12, a13, a14, a15, a16) => [.cells 31 none [.v (.s a2), .v (.i .i64 a3), .v (.i .i64 a4), .v (.i .u64 a5), .v (.i .u64 a6), .v (.sl 9 a7), .v (.b a8), .v (.i .i64 a9), .v (.sl 31 a10)], .cells 27 none [.v (.i .i64 a11), .v (.i .u64 a12), .v (.s a13)], .cells 27 none [.v (.i .i64 a14), .v (.i .u64 a15), .v (.s a16)]]
 dsS := fun _ => []
 dcE x env H ds := match x, env 4, env 9, env 10, env 40, H, ds with
  | .normal, .ptr 0 0, .ptr 1 0, .v (.i .i64 a0), .v (.b a1), [.cells 27 none [.v (.i .i64 a2), .v (.i .u64 a3), .v (.s a4)], .cells 27 none [.v (.i .i64 a5), .v (.i .u64 a6), .v (.s a7)]], [] => some (a0, a1, a2, a3, a4, a5, a6, a7)
  | _, _, _, _, _, _, _ => none
 exE := fun _ => .normal
 slE := fun (a0, a1, _) => [(4, .ptr 0 0), (9, .ptr 1 0), (10, .v (.i .i64 a0)), (40, .v (.b a1))]
 obE := fun (_, _, a2, a3, a4, a5, a6, a7) => [.cells 27 none [.v (.i .i64 a2), .v (.i .u64 a3), .v (.s a4)], .cells 27 none [.v (.i .i64 a5), .v (.i .u64 a6), .v (.s a7)]]
 dsE := fun _ => []
 goE := fun _ (a0, a1, a2, a3, a4, a5, a6, a7) k => k .normal [(4, .ptr 0 0), (9, .ptr 1 0), (10, .v (.i .i64 a0)), (40, .v (.b a1))] [.cells 27 none [.v (.i .i64 a2), .v (.i .u64 a3), .v (.s a4)], .cells 27 none [.v (.i .i64 a5), .v (.i .u64 a6), .v (.s a7)]] []
theorem p_value_Take_3_ok : PieceOk p_value_Take_3 := by
 refine ⟨fun env H ds s h => ?_, fun x env H ds e h => ?_, fun R e k => by kernel_rfl⟩ <;> (simp only [p_value_Take_3] at h ⊢; split at h <;> first | (cases h; simp only [List.forall_mem_cons]; simp_all; done) | (cases h; done))
theorem p_value_Take_3_ct (κ : Nat) (m : Int) : CutOk Tryz.prog C (G m) Tryz.f16.ntmps 0 (pieceOf (.reg 6) (getBody Tryz.f16)) (p_value_Take_3.cut (gcN 0 [1, 2, 4, 6, 9, 10]) (fun (a0, a1, a2, a3, a4, a5, a6, a7, a8, a9, a10, a11, a12, a13, a14, a15, a16) => value_Take.v3 κ a0 a1 a2 a3 a4 a5 a6 a7 a8 a9 a10 a11 a12 a13 a14 a15 a16)) :=
 Piece.join p_value_Take_3_ok C_ok mixed (gam40_ok κ m) gcN_ok (xN_ok gcN_ok (ex_nil) gcN_ok gcN_ok) (cut := noCut) (X := (xN (gcN 0 [4, 9, 10, 40]) [] (gcN 0 [4, 5]) (gcN 0 [1000000]))) (cuts_by (l := []) (by kernel_rfl) (all_nil)) (fun s => by kernel_rfl)
def p_value_Take_4 : Piece T ((List Int) × Int × ByteArray × Int × Int × Int × Int × (List ByteArray) × Bool × Int × (List SpecSpec) × Int × Int × ByteArray × Int × Int × ByteArray) (Int × Bool × Int × Int × ByteArray × Int × Int × ByteArray) where
 dcS env H ds := match env 1, env 2, env 4, env 6, env 9, env 10, H, ds with
  | .v (.sl 5 a0), .ptr 0 0, .ptr 1 0, (.ifc 76 (.agg [(.fn (.func 37) [] []), (.fn (.func 38) [] [])])), .ptr 2 0, .v (.i .i64 a1), [.cells 31 none [.v (.s a2), .v (.i .i64 a3), .v (.i .i64 a4), .v (.i .u64 a5), .v (.i .u64 a6), .v (.sl 9 a7), .v (.b a8), .v (.i .i64 a9), .v (.sl 31 a10)], .cells 27 none [.v (.i .i64 a11), .v (.i .u64 a12), .v (.s a13)], .cells 27 none [.v (.i .i64 a14), .v (.i .u64 a15), .v (.s a16)]], [] => some (a0, a1, a2, a3, a4, a5, a6, a7, a8, a9, a10, a11, a12, a13, a14, a15, a16)
  | _, _, _, _, _, _, _, _ => none
 slS := fun (a0, a1, _) => [(1, .v (.sl 5 a0)), (2, .ptr 0 0), (4, .ptr 1 0), (6, (.ifc 76 (.agg [(.fn (.func 37) [] []), (.fn (.func 38) [] [])]))), (9, .ptr 2 0), (10, .v (.i .i64 a1))]
 obS := fun (_, _, a2, a3, a4, a5, a6, a7, a8, a9, a10, a11, a12, a13, a14, a15, a16) => [.cells 31 none [.v (.s a2), .v (.i .i64 a3), .v (.i .i64 a4), .v (.i .u64 a5), .v (.i .u64 a6), .v (.sl 9 a7), .v (.b a8), .v (.i .i64 a9), .v (.sl 31 a10)], .cells 27 none [.v (.i .i64 a11), .v (.i .u64 a12), .v (.s a13)], .cells 27 none [.v (.i .i64 a14), .v (.i .u64 a15), .v (.s a16)]]
 dsS := fun _ => []
 dcE x env H ds := match x, env 4, env 9, env 10, env 40, H, ds with
  | .normal, .ptr 0 0, .ptr 1 0, .v (.i .i64 a0), .v (.b a1), [.cells 27 none [.v (.i .i64 a2), .v (.i .u64 a3), .v (.s a4)], .cells 27 none [.v (.i .i64 a5), .v (.i .u64 a6), .v (.s a7)]], [] => some (a0, a1, a2, a3, a4, a5, a6, a7)
  | _, _, _, _, _, _, _ => none
 exE := fun _ => .normal
 slE := fun (a0, a1, _) => [(4, .ptr 0 0), (9, .ptr 1 0), (10, .v (.i .i64 a0)), (40, .v (.b a1))]
 obE := fun (_, _, a2, a3, a4, a5, a6, a7) => [.cells 27 none [.v (.i .i64 a2), .v (.i .u64 a3), .v (.s a4)], .cells 27 none [.v (.i .i64 a5), .v (.i .u64 a6), .v (.s a7)]]
 dsE := fun _ => []
 goE := fun _ (a0, a1, a2, a3, a4, a5, a6, a7) k => k .normal [(4, .ptr 0 0), (9, .ptr 1 0), (10, .v (.i .i64 a0)), (40, .v (.b a1))] [.cells 27 none [.v (.i .i64 a2), .v (.i .u64 a3), .v (.s a4)], .cells 27 none [.v (.i .i64 a5), .v (.i .u64 a6), .v (.s a7)]] []
theorem p_value_Take_4_ok : PieceOk p_value_Take_4 := by
 refine ⟨fun env H ds s h => ?_, fun x env H ds e h => ?_, fun R e k => by kernel_rfl⟩ <;> (simp only [p_value_Take_4] at h ⊢; split at h <;> first | (cases h; simp only [List.forall_mem_cons]; simp_all; done) | (cases h; done))
theorem p_value_Take_4_ct (κ : Nat) (m : Int) : CutOk Tryz.prog C (G m) Tryz.f16.ntmps 0 (pieceOf (.reg 6) (getBody Tryz.f16)) (p_value_Take_4.cut (gcN 0 [1, 2, 4, 6, 9, 10]) (fun (a0, a1, a2, a3, a4, a5, a6, a7, a8, a9, a10, a11, a12, a13, a14, a15, a16) => value_Take.v4 κ a0 a1 a2 a3 a4 a5 a6 a7 a8 a9 a10 a11 a12 a13 a14 a15 a16)) :=
 Piece.join p_value_Take_4_ok C_ok mixed (gam41_ok κ m) gcN_ok (xN_ok gcN_ok (ex_nil) gcN_ok gcN_ok) (cut := noCut) (X := (xN (gcN 0 [4, 9, 10, 40]) [] (gcN 0 [4, 5]) (gcN 0 [1000000]))) (cuts_by (l := []) (by kernel_rfl) (all_nil)) (fun s => by kernel_rfl)
def cc_value_Take_5 (κ : Nat) : Cut T := p_value_Take_0.cutOr (gcN 0 [1, 2, 4, 6, 9, 10]) (fun (a0, a1, a2, a3, a4, a5, a6, a7, a8, a9, a10, a11, a12, a13, a14, a15, a16) => value_Take.v0 κ a0 a1 a2 a3 a4 a5 a6 a7 a8 a9 a10 a11 a12 a13 a14 a15 a16) (p_value_Take_1.cutOr (gcN 0 [1, 2, 4, 6, 9, 10]) (fun (a0, a1, a2, a3, a4, a5, a6, a7, a8, a9, a10, a11, a12, a13, a14, a15, a16) => value_Take.v1 κ a0 a1 a2 a3 a4 a5 a6 a7 a8 a9 a10 a11 a12 a13 a14 a15 a16) (p_value_Take_2.cutOr (gcN 0 [1, 2, 4, 6, 9, 10]) (fun (a0, a1, a2, a3, a4, a5, a6, a7, a8, a9, a10, a11, a12, a13, a14, a15, a16) => value_Take.v2 κ a0 a1 a2 a3 a4 a5 a6 a7 a8 a9 a10 a11 a12 a13 a14 a15 a16) (p_value_Take_3.cutOr (gcN 0 [1, 2, 4, 6, 9, 10]) (fun (a0, a1, a2, a3, a4, a5, a6, a7, a8, a9, a10, a11, a12, a13, a14, a15, a16) => value_Take.v3 κ a0 a1 a2 a3 a4 a5 a6 a7 a8 a9 a10 a11 a12 a13 a14 a15 a16) (p_value_Take_4.cut (gcN 0 [1, 2, 4, 6, 9, 10]) (fun (a0, a1, a2, a3, a4, a5, a6, a7, a8, a9, a10, a11, a12, a13, a14, a15, a16) => value_Take.v4 κ a0 a1 a2 a3 a4 a5 a6 a7 a8 a9 a10 a11 a12 a13 a14 a15 a16)))))
theorem cc_value_Take_5_ok (κ : Nat) (m : Int) : CutOk Tryz.prog C (G m) Tryz.f16.ntmps 0 (pieceOf (.reg 6) (getBody Tryz.f16)) (cc_value_Take_5 κ) := Piece.or_ok (p_value_Take_0_ct κ m) (Piece.or_ok (p_value_Take_1_ct κ m) (Piece.or_ok (p_value_Take_2_ct κ m) (Piece.or_ok (p_value_Take_3_ct κ m) (p_value_Take_4_ct κ m))))
def ct_value_Take_5 (κ : Nat) : Key → Option (Cut T) := addCut noCut (.reg 6) (cc_value_Take_5 κ)
def sp_value_Take : Spec T (ByteArray × Int × Int × Int × Int × (List ByteArray) × Bool × Int × (List SpecSpec) × (List Int)) (Int × Int × ByteArray × Int) where
 dcI a H := match a, H with
  | [(.agg [.v (.s a0), .v (.i .i64 a1), .v (.i .i64 a2), .v (.i .u64 a3), .v (.i .u64 a4), .v (.sl 9 a5), .v (.b a6), .v (.i .i64 a7), .v (.sl 31 a8)]), .v (.sl 5 a9)], [] => some (a0, a1, a2, a3, a4, a5, a6, a7, a8, a9)
  | _, _ => none
 ecA := fun (a0, a1, a2, a3, a4, a5, a6, a7, a8, a9) => [(.agg [.v (.s a0), .v (.i .i64 a1), .v (.i .i64 a2), .v (.i .u64 a3), .v (.i .u64 a4), .v (.sl 9 a5), .v (.b a6), .v (.i .i64 a7), .v (.sl 31 a8)]), .v (.sl 5 a9)]
 ecH := fun _ => []
 dcO o := match o with
  | .ret (.tup [(.agg [.v (.i .i64 a0), .v (.i .u64 a1), .v (.s a2)]), .v (.i .i64 a3)]) [] => some (a0, a1, a2, a3)
  | _ => none
 goO := fun _ (a0, a1, a2, a3) k => k (.ret (.tup [(.agg [.v (.i .i64 a0), .v (.i .u64 a1), .v (.s a2)]), .v (.i .i64 a3)]) [])
 ecO := fun (a0, a1, a2, a3) => .ret (.tup [(.agg [.v (.i .i64 a0), .v (.i .u64 a1), .v (.s a2)]), .v (.i .i64 a3)]) []
theorem sp_value_Take_ok : SpecOk sp_value_Take := by
 refine ⟨fun a H i h => ?_, fun o x h => ?_, fun R e k => by kernel_rfl⟩ <;> (simp only [sp_value_Take] at h ⊢; split at h <;> first | (cases h; exact ⟨rfl, rfl⟩) | (cases h; rfl) | (cases h; done))
theorem ok_value_Take (κ : Nat) (m : Int) : EOk Tryz.prog C (G m) 16 (sp_value_Take.entry (fun (a0, a1, a2, a3, a4, a5, a6, a7, a8, a9) => value_Take κ a0 a1 a2 a3 a4 a5 a6 a7 a8 a9)) :=
 Spec.ok sp_value_Take_ok C_ok mixed (gam41_ok κ m) (cut := (ct_value_Take_5 κ)) (NR := (gcN 0 [0])) (NP := (gcN 0 [0])) (nB := 0) Tryz.func16 (c := (getBody Tryz.f16)) (by kernel_rfl) (by kernel_rfl) (fun i => by kernel_rfl) gcN_ok gcN_ok (cuts_by (l := [(pieceOf (.reg 6) (getBody Tryz.f16), cc_value_Take_5 κ)]) (by kernel_rfl) (all_cons (cc_value_Take_5_ok κ m) (all_nil))) (fun i => by kernel_rfl)
noncomputable def gam42 (κ : Nat) : Gam T := (gam41 κ).addS 16 sp_value_Take (fun (a0, a1, a2, a3, a4, a5, a6, a7, a8, a9) => value_Take κ a0 a1 a2 a3 a4 a5 a6 a7 a8 a9)
theorem gam42_ok (κ : Nat) (m : Int) : GOk Tryz.prog C (G m) (gam42 κ) := (gam41_ok κ m).addS (ok_value_Take κ m)
def sp_value_name_text : Spec T (Int × Int × ByteArray) (ByteArray) where
 dcI a H := match a, H with
  | [(.agg []), (.agg [.v (.i .i64 a0), .v (.i .u64 a1), .v (.s a2)])], [] => some (a0, a1, a2)
  | _, _ => none
 ecA := fun (a0, a1, a2) => [(.agg []), (.agg [.v (.i .i64 a0), .v (.i .u64 a1), .v (.s a2)])]
 ecH := fun _ => []
 dcO o := match o with
  | .ret (.v (.s a0)) [] => some a0
  | _ => none
 goO := fun _ a0 k => k (.ret (.v (.s a0)) [])
 ecO := fun a0 => .ret (.v (.s a0)) []
theorem sp_value_name_text_ok : SpecOk sp_value_name_text := by
 refine ⟨fun a H i h => ?_, fun o x h => ?_, fun R e k => by kernel_rfl⟩ <;> (simp only [sp_value_name_text] at h ⊢; split at h <;> first | (cases h; exact ⟨rfl, rfl⟩) | (cases h; rfl) | (cases h; done))
theorem ok_value_name_text (κ : Nat) (m : Int) : EOk Tryz.prog C (G m) 130 (sp_value_name_text.entry (fun (a0, a1, a2) => value_name_text κ a0 a1 a2)) :=
 Spec.ok sp_value_name_text_ok C_ok mixed (gam42_ok κ m) (cut := noCut) (NR := (gcN 0 [0])) (NP := (gcN 0 [0])) (nB := 0) Tryz.func130 (c := (getBody Tryz.f130)) (by kernel_rfl) (by kernel_rfl) (fun i => by kernel_rfl) gcN_ok gcN_ok (cuts_by (l := []) (by kernel_rfl) (all_nil)) (fun i => by kernel_rfl)
noncomputable def gam43 (κ : Nat) : Gam T := (gam42 κ).addS 130 sp_value_name_text (fun (a0, a1, a2) => value_name_text κ a0 a1 a2)
theorem gam43_ok (κ : Nat) (m : Int) : GOk Tryz.prog C (G m) (gam43 κ) := (gam42_ok κ m).addS (ok_value_name_text κ m)
def sp_value_choice_text : Spec T (Int × Int × ByteArray) (ByteArray) where
 dcI a H := match a, H with
  | [(.agg []), (.agg [.v (.i .i64 a0), .v (.i .u64 a1), .v (.s a2)])], [] => some (a0, a1, a2)
  | _, _ => none
 ecA := fun (a0, a1, a2) => [(.agg []), (.agg [.v (.i .i64 a0), .v (.i .u64 a1), .v (.s a2)])]
 ecH := fun _ => []
 dcO o := match o with
  | .ret (.v (.s a0)) [] => some a0
  | _ => none
 goO := fun _ a0 k => k (.ret (.v (.s a0)) [])
 ecO := fun a0 => .ret (.v (.s a0)) []
theorem sp_value_choice_text_ok : SpecOk sp_value_choice_text := by
 refine ⟨fun a H i h => ?_, fun o x h => ?_, fun R e k => by kernel_rfl⟩ <;> (simp only [sp_value_choice_text] at h ⊢; split at h <;> first | (cases h; exact ⟨rfl, rfl⟩) | (cases h; rfl) | (cases h; done))
theorem ok_value_choice_text (κ : Nat) (m : Int) : EOk Tryz.prog C (G m) 124 (sp_value_choice_text.entry (fun (a0, a1, a2) => value_choice_text κ a0 a1 a2)) :=
 Spec.ok sp_value_choice_text_ok C_ok mixed (gam43_ok κ m) (cut := noCut) (NR := (gcN 0 [0])) (NP := (gcN 0 [0])) (nB := 0) Tryz.func124 (c := (getBody Tryz.f124)) (by kernel_rfl) (by kernel_rfl) (fun i => by kernel_rfl) gcN_ok gcN_ok (cuts_by (l := []) (by kernel_rfl) (all_nil)) (fun i => by kernel_rfl)
noncomputable def gam44 (κ : Nat) : Gam T := (gam43 κ).addS 124 sp_value_choice_text (fun (a0, a1, a2) => value_choice_text κ a0 a1 a2)
theorem gam44_ok (κ : Nat) (m : Int) : GOk Tryz.prog C (G m) (gam44 κ) := (gam43_ok κ m).addS (ok_value_choice_text κ m)
def sp_value_truth_text : Spec T (Int × Int × ByteArray) (ByteArray) where
 dcI a H := match a, H with
  | [(.agg []), (.agg [.v (.i .i64 a0), .v (.i .u64 a1), .v (.s a2)])], [] => some (a0, a1, a2)
  | _, _ => none
 ecA := fun (a0, a1, a2) => [(.agg []), (.agg [.v (.i .i64 a0), .v (.i .u64 a1), .v (.s a2)])]
 ecH := fun _ => []
 dcO o := match o with
  | .ret (.v (.s a0)) [] => some a0
  | _ => none
 goO := fun _ a0 k => k (.ret (.v (.s a0)) [])
 ecO := fun a0 => .ret (.v (.s a0)) []
theorem sp_value_truth_text_ok : SpecOk sp_value_truth_text := by
 refine ⟨fun a H i h => ?_, fun o x h => ?_, fun R e k => by kernel_rfl⟩ <;> (simp only [sp_value_truth_text] at h ⊢; split at h <;> first | (cases h; exact ⟨rfl, rfl⟩) | (cases h; rfl) | (cases h; done))
theorem ok_value_truth_text (κ : Nat) (m : Int) : EOk Tryz.prog C (G m) 117 (sp_value_truth_text.entry (fun (a0, a1, a2) => value_truth_text κ a0 a1 a2)) :=
 Spec.ok sp_value_truth_text_ok C_ok mixed (gam44_ok κ m) (cut := noCut) (NR := (gcN 0 [0])) (NP := (gcN 0 [0])) (nB := 0) Tryz.func117 (c := (getBody Tryz.f117)) (by kernel_rfl) (by kernel_rfl) (fun i => by kernel_rfl) gcN_ok gcN_ok (cuts_by (l := []) (by kernel_rfl) (all_nil)) (fun i => by kernel_rfl)
noncomputable def gam45 (κ : Nat) : Gam T := (gam44 κ).addS 117 sp_value_truth_text (fun (a0, a1, a2) => value_truth_text κ a0 a1 a2)
theorem gam45_ok (κ : Nat) (m : Int) : GOk Tryz.prog C (G m) (gam45 κ) := (gam44_ok κ m).addS (ok_value_truth_text κ m)
def sp_value_number_text : Spec T (Int × Int × ByteArray) (ByteArray) where
 dcI a H := match a, H with
  | [(.agg [(.fn (.func 39) [] []), (.fn (.func 40) [] [])]), (.agg [.v (.i .i64 a0), .v (.i .u64 a1), .v (.s a2)])], [] => some (a0, a1, a2)
  | _, _ => none
 ecA := fun (a0, a1, a2) => [(.agg [(.fn (.func 39) [] []), (.fn (.func 40) [] [])]), (.agg [.v (.i .i64 a0), .v (.i .u64 a1), .v (.s a2)])]
 ecH := fun _ => []
 dcO o := match o with
  | .ret (.v (.s a0)) [] => some a0
  | _ => none
 goO := fun _ a0 k => k (.ret (.v (.s a0)) [])
 ecO := fun a0 => .ret (.v (.s a0)) []
theorem sp_value_number_text_ok : SpecOk sp_value_number_text := by
 refine ⟨fun a H i h => ?_, fun o x h => ?_, fun R e k => by kernel_rfl⟩ <;> (simp only [sp_value_number_text] at h ⊢; split at h <;> first | (cases h; exact ⟨rfl, rfl⟩) | (cases h; rfl) | (cases h; done))
theorem ok_value_number_text (κ : Nat) (m : Int) : EOk Tryz.prog C (G m) 109 (sp_value_number_text.entry (fun (a0, a1, a2) => value_number_text κ a0 a1 a2)) :=
 Spec.ok sp_value_number_text_ok C_ok mixed (gam45_ok κ m) (cut := noCut) (NR := (gcN 0 [0])) (NP := (gcN 0 [0])) (nB := 0) Tryz.func109 (c := (getBody Tryz.f109)) (by kernel_rfl) (by kernel_rfl) (fun i => by kernel_rfl) gcN_ok gcN_ok (cuts_by (l := []) (by kernel_rfl) (all_nil)) (fun i => by kernel_rfl)
noncomputable def gam46 (κ : Nat) : Gam T := (gam45 κ).addS 109 sp_value_number_text (fun (a0, a1, a2) => value_number_text κ a0 a1 a2)
theorem gam46_ok (κ : Nat) (m : Int) : GOk Tryz.prog C (G m) (gam46 κ) := (gam45_ok κ m).addS (ok_value_number_text κ m)
def sp_value_number_text_2 : Spec T (Int × Int × ByteArray) (ByteArray) where
 dcI a H := match a, H with
  | [(.agg [(.fn (.func 37) [] []), (.fn (.func 38) [] [])]), (.agg [.v (.i .i64 a0), .v (.i .u64 a1), .v (.s a2)])], [] => some (a0, a1, a2)
  | _, _ => none
 ecA := fun (a0, a1, a2) => [(.agg [(.fn (.func 37) [] []), (.fn (.func 38) [] [])]), (.agg [.v (.i .i64 a0), .v (.i .u64 a1), .v (.s a2)])]
 ecH := fun _ => []
 dcO o := match o with
  | .ret (.v (.s a0)) [] => some a0
  | _ => none
 goO := fun _ a0 k => k (.ret (.v (.s a0)) [])
 ecO := fun a0 => .ret (.v (.s a0)) []
theorem sp_value_number_text_2_ok : SpecOk sp_value_number_text_2 := by
 refine ⟨fun a H i h => ?_, fun o x h => ?_, fun R e k => by kernel_rfl⟩ <;> (simp only [sp_value_number_text_2] at h ⊢; split at h <;> first | (cases h; exact ⟨rfl, rfl⟩) | (cases h; rfl) | (cases h; done))
theorem ok_value_number_text_2 (κ : Nat) (m : Int) : EOk Tryz.prog C (G m) 109 (sp_value_number_text_2.entry (fun (a0, a1, a2) => value_number_text_2 κ a0 a1 a2)) :=
 Spec.ok sp_value_number_text_2_ok C_ok mixed (gam46_ok κ m) (cut := noCut) (NR := (gcN 0 [0])) (NP := (gcN 0 [0])) (nB := 0) Tryz.func109 (c := (getBody Tryz.f109)) (by kernel_rfl) (by kernel_rfl) (fun i => by kernel_rfl) gcN_ok gcN_ok (cuts_by (l := []) (by kernel_rfl) (all_nil)) (fun i => by kernel_rfl)
noncomputable def gam47 (κ : Nat) : Gam T := (gam46 κ).addS 109 sp_value_number_text_2 (fun (a0, a1, a2) => value_number_text_2 κ a0 a1 a2)
theorem gam47_ok (κ : Nat) (m : Int) : GOk Tryz.prog C (G m) (gam47 κ) := (gam46_ok κ m).addS (ok_value_number_text_2 κ m)
def sp_value_Text : Spec T (ByteArray × Int × Int × Int × Int × (List ByteArray) × Bool × Int × (List SpecSpec) × Int × Int × ByteArray) (ByteArray) where
 dcI a H := match a, H with
  | [(.agg [.v (.s a0), .v (.i .i64 a1), .v (.i .i64 a2), .v (.i .u64 a3), .v (.i .u64 a4), .v (.sl 9 a5), .v (.b a6), .v (.i .i64 a7), .v (.sl 31 a8)]), (.agg [.v (.i .i64 a9), .v (.i .u64 a10), .v (.s a11)])], [] => some (a0, a1, a2, a3, a4, a5, a6, a7, a8, a9, a10, a11)
  | _, _ => none
 ecA := fun (a0, a1, a2, a3, a4, a5, a6, a7, a8, a9, a10, a11) => [(.agg [.v (.s a0), .v (.i .i64 a1), .v (.i .i64 a2), .v (.i .u64 a3), .v (.i .u64 a4), .v (.sl 9 a5), .v (.b a6), .v (.i .i64 a7), .v (.sl 31 a8)]), (.agg [.v (.i .i64 a9), .v (.i .u64 a10), .v (.s a11)])]
 ecH := fun _ => []
 dcO o := match o with
  | .ret (.v (.s a0)) [] => some a0
  | _ => none
 goO := fun _ a0 k => k (.ret (.v (.s a0)) [])
 ecO := fun a0 => .ret (.v (.s a0)) []
theorem sp_value_Text_ok : SpecOk sp_value_Text := by
 refine ⟨fun a H i h => ?_, fun o x h => ?_, fun R e k => by kernel_rfl⟩ <;> (simp only [sp_value_Text] at h ⊢; split at h <;> first | (cases h; exact ⟨rfl, rfl⟩) | (cases h; rfl) | (cases h; done))
theorem ok_value_Text (κ : Nat) (m : Int) : EOk Tryz.prog C (G m) 9 (sp_value_Text.entry (fun (a0, a1, a2, a3, a4, a5, a6, a7, a8, a9, a10, a11) => value_Text κ a0 a1 a2 a3 a4 a5 a6 a7 a8 a9 a10 a11)) :=
 Spec.ok sp_value_Text_ok C_ok mixed (gam47_ok κ m) (cut := noCut) (NR := (gcN 0 [0])) (NP := (gcN 0 [0])) (nB := 0) Tryz.func9 (c := (getBody Tryz.f9)) (by kernel_rfl) (by kernel_rfl) (fun i => by kernel_rfl) gcN_ok gcN_ok (cuts_by (l := []) (by kernel_rfl) (all_nil)) (fun i => by kernel_rfl)
noncomputable def gam48 (κ : Nat) : Gam T := (gam47 κ).addS 9 sp_value_Text (fun (a0, a1, a2, a3, a4, a5, a6, a7, a8, a9, a10, a11) => value_Text κ a0 a1 a2 a3 a4 a5 a6 a7 a8 a9 a10 a11)
theorem gam48_ok (κ : Nat) (m : Int) : GOk Tryz.prog C (G m) (gam48 κ) := (gam47_ok κ m).addS (ok_value_Text κ m)
def sp_value_Data : Spec T (ByteArray × Int × Int × Int × Int × (List ByteArray) × Bool × Int × (List SpecSpec) × Int × Int × ByteArray) ((List Int)) where
 dcI a H := match a, H with
  | [(.agg [.v (.s a0), .v (.i .i64 a1), .v (.i .i64 a2), .v (.i .u64 a3), .v (.i .u64 a4), .v (.sl 9 a5), .v (.b a6), .v (.i .i64 a7), .v (.sl 31 a8)]), (.agg [.v (.i .i64 a9), .v (.i .u64 a10), .v (.s a11)])], [] => some (a0, a1, a2, a3, a4, a5, a6, a7, a8, a9, a10, a11)
  | _, _ => none
 ecA := fun (a0, a1, a2, a3, a4, a5, a6, a7, a8, a9, a10, a11) => [(.agg [.v (.s a0), .v (.i .i64 a1), .v (.i .i64 a2), .v (.i .u64 a3), .v (.i .u64 a4), .v (.sl 9 a5), .v (.b a6), .v (.i .i64 a7), .v (.sl 31 a8)]), (.agg [.v (.i .i64 a9), .v (.i .u64 a10), .v (.s a11)])]
 ecH := fun _ => []
 dcO o := match o with
  | .ret (.own 0) [(.row 5 a0 true)] => some a0
  | _ => none
 goO := fun _ a0 k => k (.ret (.own 0) [(.row 5 a0 true)])
 ecO := fun a0 => .ret (.own 0) [(.row 5 a0 true)]
theorem sp_value_Data_ok : SpecOk sp_value_Data := by
 refine ⟨fun a H i h => ?_, fun o x h => ?_, fun R e k => by kernel_rfl⟩ <;> (simp only [sp_value_Data] at h ⊢; split at h <;> first | (cases h; exact ⟨rfl, rfl⟩) | (cases h; rfl) | (cases h; done))
theorem ok_value_Data (κ : Nat) (m : Int) : EOk Tryz.prog C (G m) 10 (sp_value_Data.entry (fun (a0, a1, a2, a3, a4, a5, a6, a7, a8, a9, a10, a11) => value_Data κ a0 a1 a2 a3 a4 a5 a6 a7 a8 a9 a10 a11)) :=
 Spec.ok sp_value_Data_ok C_ok mixed (gam48_ok κ m) (cut := noCut) (NR := (andN (promS 0 [] 5) (gcN 0 [0]))) (NP := (gcN 0 [0])) (nB := 0) Tryz.func10 (c := (getBody Tryz.f10)) (by kernel_rfl) (by kernel_rfl) (fun i => by kernel_rfl) (andN_ok promS_ok gcN_ok) gcN_ok (cuts_by (l := []) (by kernel_rfl) (all_nil)) (fun i => by kernel_rfl)
noncomputable def gam49 (κ : Nat) : Gam T := (gam48 κ).addS 10 sp_value_Data (fun (a0, a1, a2, a3, a4, a5, a6, a7, a8, a9, a10, a11) => value_Data κ a0 a1 a2 a3 a4 a5 a6 a7 a8 a9 a10 a11)
theorem gam49_ok (κ : Nat) (m : Int) : GOk Tryz.prog C (G m) (gam49 κ) := (gam48_ok κ m).addS (ok_value_Data κ m)
def p_l08_awake_0 : Piece T (Int × Int × Int × Int × Int × ByteArray × Int × Int × Int × Int × (List ByteArray) × Bool × Int × (List SpecSpec) × Int × Int × ByteArray × Int × Int × ByteArray × Int × Int × ByteArray) (Bool) where
 dcS env H ds := match env 1, env 2, env 3, env 4, env 5, env 6, env 7, env 9, env 11, H, ds with
  | .ptr 0 0, .v (.i .i64 a0), .ptr 1 0, .ptr 2 0, .v (.i .i64 a1), .ptr 3 0, .v (.i .i64 a2), .v (.i .i64 a3), .v (.i .i64 a4), [.cells 31 none [.v (.s a5), .v (.i .i64 a6), .v (.i .i64 a7), .v (.i .u64 a8), .v (.i .u64 a9), .v (.sl 9 a10), .v (.b a11), .v (.i .i64 a12), .v (.sl 31 a13)], .cells 27 none [.v (.i .i64 a14), .v (.i .u64 a15), .v (.s a16)], .cells 27 none [.v (.i .i64 a17), .v (.i .u64 a18), .v (.s a19)], .cells 27 none [.v (.i .i64 a20), .v (.i .u64 a21), .v (.s a22)]], [] => some (a0, a1, a2, a3, a4, a5, a6, a7, a8, a9, a10, a11, a12, a13, a14, a15, a16, a17, a18, a19, a20, a21, a22)
  | _, _, _, _, _, _, _, _, _, _, _ => none
 slS := fun (a0, a1, a2, a3, a4, _) => [(1, .ptr 0 0), (2, .v (.i .i64 a0)), (3, .ptr 1 0), (4, .ptr 2 0), (5, .v (.i .i64 a1)), (6, .ptr 3 0), (7, .v (.i .i64 a2)), (9, .v (.i .i64 a3)), (11, .v (.i .i64 a4))]
 obS := fun (_, _, _, _, _, a5, a6, a7, a8, a9, a10, a11, a12, a13, a14, a15, a16, a17, a18, a19, a20, a21, a22) => [.cells 31 none [.v (.s a5), .v (.i .i64 a6), .v (.i .i64 a7), .v (.i .u64 a8), .v (.i .u64 a9), .v (.sl 9 a10), .v (.b a11), .v (.i .i64 a12), .v (.sl 31 a13)], .cells 27 none [.v (.i .i64 a14), .v (.i .u64 a15), .v (.s a16)], .cells 27 none [.v (.i .i64 a17), .v (.i .u64 a18), .v (.s a19)], .cells 27 none [.v (.i .i64 a20), .v (.i .u64 a21), .v (.s a22)]]
 dsS := fun _ => []
 dcE x env H ds := match x, env 0, H, ds with
  | .normal, .v (.b a0), [], [] => some a0
  | _, _, _, _ => none
 exE := fun a0 => .normal
 slE := fun a0 => [(0, .v (.b a0))]
 obE := fun a0 => []
 dsE := fun a0 => []
 goE := fun _ a0 k => k .normal [(0, .v (.b a0))] [] []
theorem p_l08_awake_0_ok : PieceOk p_l08_awake_0 := by
 refine ⟨fun env H ds s h => ?_, fun x env H ds e h => ?_, fun R e k => by kernel_rfl⟩ <;> (simp only [p_l08_awake_0] at h ⊢; split at h <;> first | (cases h; simp only [List.forall_mem_cons]; simp_all; done) | (cases h; done))
theorem p_l08_awake_0_ct (κ : Nat) (m : Int) : CutOk Tryz.prog C (G m) Tryz.f7.ntmps 0 (pieceOf (.reg 7) (getBody Tryz.f7)) (p_l08_awake_0.cut (gcN 0 [1, 2, 3, 4, 5, 6, 7, 9, 11]) (fun (a0, a1, a2, a3, a4, a5, a6, a7, a8, a9, a10, a11, a12, a13, a14, a15, a16, a17, a18, a19, a20, a21, a22) => l08_awake.v0 κ a0 a1 a2 a3 a4 a5 a6 a7 a8 a9 a10 a11 a12 a13 a14 a15 a16 a17 a18 a19 a20 a21 a22)) :=
 Piece.join p_l08_awake_0_ok C_ok mixed (gam49_ok κ m) gcN_ok (xN_ok gcN_ok (ex_nil) gcN_ok gcN_ok) (cut := noCut) (X := (xN (gcN 0 [0]) [] (gcN 0 [0]) (gcN 0 [1000000]))) (cuts_by (l := []) (by kernel_rfl) (all_nil)) (fun s => by kernel_rfl)
def cc_l08_awake_1 (κ : Nat) : Cut T := p_l08_awake_0.cut (gcN 0 [1, 2, 3, 4, 5, 6, 7, 9, 11]) (fun (a0, a1, a2, a3, a4, a5, a6, a7, a8, a9, a10, a11, a12, a13, a14, a15, a16, a17, a18, a19, a20, a21, a22) => l08_awake.v0 κ a0 a1 a2 a3 a4 a5 a6 a7 a8 a9 a10 a11 a12 a13 a14 a15 a16 a17 a18 a19 a20 a21 a22)
theorem cc_l08_awake_1_ok (κ : Nat) (m : Int) : CutOk Tryz.prog C (G m) Tryz.f7.ntmps 0 (pieceOf (.reg 7) (getBody Tryz.f7)) (cc_l08_awake_1 κ) := p_l08_awake_0_ct κ m
def ct_l08_awake_1 (κ : Nat) : Key → Option (Cut T) := addCut noCut (.reg 7) (cc_l08_awake_1 κ)
def sp_l08_awake : Spec T (Unit) (Bool) where
 dcI a H := match a, H with
  | [], [] => some ()
  | _, _ => none
 ecA := fun _ => []
 ecH := fun _ => []
 dcO o := match o with
  | .ret (.v (.b a0)) [] => some a0
  | _ => none
 goO := fun _ a0 k => k (.ret (.v (.b a0)) [])
 ecO := fun a0 => .ret (.v (.b a0)) []
theorem sp_l08_awake_ok : SpecOk sp_l08_awake := by
 refine ⟨fun a H i h => ?_, fun o x h => ?_, fun R e k => by kernel_rfl⟩ <;> (simp only [sp_l08_awake] at h ⊢; split at h <;> first | (cases h; exact ⟨rfl, rfl⟩) | (cases h; rfl) | (cases h; done))
theorem ok_l08_awake (κ : Nat) (m : Int) : EOk Tryz.prog C (G m) 7 (sp_l08_awake.entry (fun _ => l08_awake κ )) :=
 Spec.ok sp_l08_awake_ok C_ok mixed (gam49_ok κ m) (cut := (ct_l08_awake_1 κ)) (NR := (gcN 0 [0])) (NP := (gcN 0 [0])) (nB := 0) Tryz.func7 (c := (getBody Tryz.f7)) (by kernel_rfl) (by kernel_rfl) (fun i => by kernel_rfl) gcN_ok gcN_ok (cuts_by (l := [(pieceOf (.reg 7) (getBody Tryz.f7), cc_l08_awake_1 κ)]) (by kernel_rfl) (all_cons (cc_l08_awake_1_ok κ m) (all_nil))) (fun i => by kernel_rfl)
noncomputable def gam50 (κ : Nat) : Gam T := (gam49 κ).addS 7 sp_l08_awake (fun _ => l08_awake κ )
theorem gam50_ok (κ : Nat) (m : Int) : GOk Tryz.prog C (G m) (gam50 κ) := (gam49_ok κ m).addS (ok_l08_awake κ m)
def sp_r07_num : Spec T (ByteArray × Int × Int × Int) (ByteArray × Int × Int × Int × Int × Bool × Int) where
 dcI a H := match a, H with
  | [.v (.s a0), .v (.i .i64 a1), .v (.i .u64 a2), .v (.i .u64 a3)], [] => some (a0, a1, a2, a3)
  | _, _ => none
 ecA := fun (a0, a1, a2, a3) => [.v (.s a0), .v (.i .i64 a1), .v (.i .u64 a2), .v (.i .u64 a3)]
 ecH := fun _ => []
 dcO o := match o with
  | .ret (.agg [.v (.s a0), .v (.i .i64 a1), .v (.i .i64 a2), .v (.i .u64 a3), .v (.i .u64 a4), .cap0, .v (.b a5), .v (.i .i64 a6), .cap0]) [] => some (a0, a1, a2, a3, a4, a5, a6)
  | _ => none
 goO := fun _ (a0, a1, a2, a3, a4, a5, a6) k => k (.ret (.agg [.v (.s a0), .v (.i .i64 a1), .v (.i .i64 a2), .v (.i .u64 a3), .v (.i .u64 a4), .cap0, .v (.b a5), .v (.i .i64 a6), .cap0]) [])
 ecO := fun (a0, a1, a2, a3, a4, a5, a6) => .ret (.agg [.v (.s a0), .v (.i .i64 a1), .v (.i .i64 a2), .v (.i .u64 a3), .v (.i .u64 a4), .cap0, .v (.b a5), .v (.i .i64 a6), .cap0]) []
theorem sp_r07_num_ok : SpecOk sp_r07_num := by
 refine ⟨fun a H i h => ?_, fun o x h => ?_, fun R e k => by kernel_rfl⟩ <;> (simp only [sp_r07_num] at h ⊢; split at h <;> first | (cases h; exact ⟨rfl, rfl⟩) | (cases h; rfl) | (cases h; done))
theorem ok_r07_num (κ : Nat) (m : Int) : EOk Tryz.prog C (G m) 46 (sp_r07_num.entry (fun (a0, a1, a2, a3) => r07_num κ a0 a1 a2 a3)) :=
 Spec.ok sp_r07_num_ok C_ok mixed (gam50_ok κ m) (cut := noCut) (NR := (gcN 0 [0])) (NP := (gcN 0 [0])) (nB := 0) Tryz.func46 (c := (getBody Tryz.f46)) (by kernel_rfl) (by kernel_rfl) (fun i => by kernel_rfl) gcN_ok gcN_ok (cuts_by (l := []) (by kernel_rfl) (all_nil)) (fun i => by kernel_rfl)
noncomputable def gam51 (κ : Nat) : Gam T := (gam50 κ).addS 46 sp_r07_num (fun (a0, a1, a2, a3) => r07_num κ a0 a1 a2 a3)
theorem gam51_ok (κ : Nat) (m : Int) : GOk Tryz.prog C (G m) (gam51 κ) := (gam50_ok κ m).addS (ok_r07_num κ m)
def p_r07_class_0 : Piece T (Int × Bool × (List Tollbarref07S)) (Int × (List Tollbarref07S)) where
 dcS env H ds := match env 0, env 3, env 9, H, ds with
  | .v (.i .i64 a0), (.own 0), .v (.b a1), [(.row 34 a2 true)], [] => some (a0, a1, a2)
  | _, _, _, _, _ => none
 slS := fun (a0, a1, _) => [(0, .v (.i .i64 a0)), (3, .own 0), (9, .v (.b a1))]
 obS := fun (_, _, a2) => [(.row 34 a2 true)]
 dsS := fun _ => []
 dcE x env H ds := match x, env 0, env 3, H, ds with
  | .normal, .v (.i .i64 a0), (.own 0), [(.row 34 a1 true)], [] => some (a0, a1)
  | _, _, _, _, _ => none
 exE := fun _ => .normal
 slE := fun (a0, _) => [(0, .v (.i .i64 a0)), (3, .own 0)]
 obE := fun (_, a1) => [(.row 34 a1 true)]
 dsE := fun _ => []
 goE := fun _ (a0, a1) k => k .normal [(0, .v (.i .i64 a0)), (3, .own 0)] [(.row 34 a1 true)] []
theorem p_r07_class_0_ok : PieceOk p_r07_class_0 := by
 refine ⟨fun env H ds s h => ?_, fun x env H ds e h => ?_, fun R e k => by kernel_rfl⟩ <;> (simp only [p_r07_class_0] at h ⊢; split at h <;> first | (cases h; simp only [List.forall_mem_cons]; simp_all; done) | (cases h; done))
theorem p_r07_class_0_ct (κ : Nat) (m : Int) : CutOk Tryz.prog C (G m) Tryz.f47.ntmps 0 (pieceOf (.cnd 9 4) (getBody Tryz.f47)) (p_r07_class_0.cut (gcN 0 [0, 3, 9]) (fun (a0, a1, a2) => r07_class.v0 κ a0 a1 a2)) :=
 Piece.join p_r07_class_0_ok C_ok mixed (gam51_ok κ m) gcN_ok (xN_ok gcN_ok (ex_nil) gcN_ok gcN_ok) (cut := noCut) (X := (xN (gcN 0 [0, 3]) [] (gcN 0 [2]) (gcN 0 [1000000]))) (cuts_by (l := []) (by kernel_rfl) (all_nil)) (fun s => by kernel_rfl)
def cc_r07_class_1 (κ : Nat) : Cut T := p_r07_class_0.cut (gcN 0 [0, 3, 9]) (fun (a0, a1, a2) => r07_class.v0 κ a0 a1 a2)
theorem cc_r07_class_1_ok (κ : Nat) (m : Int) : CutOk Tryz.prog C (G m) Tryz.f47.ntmps 0 (pieceOf (.cnd 9 4) (getBody Tryz.f47)) (cc_r07_class_1 κ) := p_r07_class_0_ct κ m
def ct_r07_class_1 (κ : Nat) : Key → Option (Cut T) := addCut noCut (.cnd 9 4) (cc_r07_class_1 κ)
def p_r07_class_2 : Piece T (Bool × (List Tollbarref07S)) ((List Tollbarref07S)) where
 dcS env H ds := match env 3, env 19, H, ds with
  | (.own 0), .v (.b a0), [(.row 34 a1 true)], [] => some (a0, a1)
  | _, _, _, _ => none
 slS := fun (a0, _) => [(3, .own 0), (19, .v (.b a0))]
 obS := fun (_, a1) => [(.row 34 a1 true)]
 dsS := fun _ => []
 dcE x env H ds := match x, env 3, H, ds with
  | .normal, (.own 0), [(.row 34 a0 true)], [] => some a0
  | _, _, _, _ => none
 exE := fun a0 => .normal
 slE := fun a0 => [(3, .own 0)]
 obE := fun a0 => [(.row 34 a0 true)]
 dsE := fun a0 => []
 goE := fun _ a0 k => k .normal [(3, .own 0)] [(.row 34 a0 true)] []
theorem p_r07_class_2_ok : PieceOk p_r07_class_2 := by
 refine ⟨fun env H ds s h => ?_, fun x env H ds e h => ?_, fun R e k => by kernel_rfl⟩ <;> (simp only [p_r07_class_2] at h ⊢; split at h <;> first | (cases h; simp only [List.forall_mem_cons]; simp_all; done) | (cases h; done))
theorem p_r07_class_2_ct (κ : Nat) (m : Int) : CutOk Tryz.prog C (G m) Tryz.f47.ntmps 0 (pieceOf (.cnd 19 7) (getBody Tryz.f47)) (p_r07_class_2.cut (gcN 0 [3, 19]) (fun (a0, a1) => r07_class.v2 κ a0 a1)) :=
 Piece.join p_r07_class_2_ok C_ok mixed (gam51_ok κ m) gcN_ok (xN_ok gcN_ok (ex_nil) gcN_ok gcN_ok) (cut := (ct_r07_class_1 κ)) (X := (xN (gcN 0 [3]) [] (gcN 0 [2]) (gcN 0 [1000000]))) (cuts_by (l := []) (by kernel_rfl) (all_nil)) (fun s => by kernel_rfl)
def cc_r07_class_3 (κ : Nat) : Cut T := p_r07_class_2.cut (gcN 0 [3, 19]) (fun (a0, a1) => r07_class.v2 κ a0 a1)
theorem cc_r07_class_3_ok (κ : Nat) (m : Int) : CutOk Tryz.prog C (G m) Tryz.f47.ntmps 0 (pieceOf (.cnd 19 7) (getBody Tryz.f47)) (cc_r07_class_3 κ) := p_r07_class_2_ct κ m
def ct_r07_class_3 (κ : Nat) : Key → Option (Cut T) := addCut (ct_r07_class_1 κ) (.cnd 19 7) (cc_r07_class_3 κ)
def sp_r07_class : Spec T (Int) ((List Tollbarref07S)) where
 dcI a H := match a, H with
  | [.v (.i .i64 a0)], [] => some a0
  | _, _ => none
 ecA := fun a0 => [.v (.i .i64 a0)]
 ecH := fun a0 => []
 dcO o := match o with
  | .ret (.own 0) [(.row 34 a0 true)] => some a0
  | _ => none
 goO := fun _ a0 k => k (.ret (.own 0) [(.row 34 a0 true)])
 ecO := fun a0 => .ret (.own 0) [(.row 34 a0 true)]
theorem sp_r07_class_ok : SpecOk sp_r07_class := by
 refine ⟨fun a H i h => ?_, fun o x h => ?_, fun R e k => by kernel_rfl⟩ <;> (simp only [sp_r07_class] at h ⊢; split at h <;> first | (cases h; exact ⟨rfl, rfl⟩) | (cases h; rfl) | (cases h; done))
theorem ok_r07_class (κ : Nat) (m : Int) : EOk Tryz.prog C (G m) 47 (sp_r07_class.entry (fun a0 => r07_class κ a0)) :=
 Spec.ok sp_r07_class_ok C_ok mixed (gam51_ok κ m) (cut := (ct_r07_class_3 κ)) (NR := (gcN 0 [0])) (NP := (gcN 0 [0])) (nB := 0) Tryz.func47 (c := (getBody Tryz.f47)) (by kernel_rfl) (by kernel_rfl) (fun i => by kernel_rfl) gcN_ok gcN_ok (cuts_by (l := [(pieceOf (.cnd 9 4) (getBody Tryz.f47), cc_r07_class_1 κ), (pieceOf (.cnd 19 7) (getBody Tryz.f47), cc_r07_class_3 κ)]) (by kernel_rfl) (all_cons (cc_r07_class_1_ok κ m) (all_cons (cc_r07_class_3_ok κ m) (all_nil)))) (fun i => by kernel_rfl)
noncomputable def gam52 (κ : Nat) : Gam T := (gam51 κ).addS 47 sp_r07_class (fun a0 => r07_class κ a0)
theorem gam52_ok (κ : Nat) (m : Int) : GOk Tryz.prog C (G m) (gam52 κ) := (gam51_ok κ m).addS (ok_r07_class κ m)
def p_r07_Root_0 : Piece T (Int × ByteArray × Int × Int × Int × Int × Bool × Int) (Int × Bool × ByteArray × Int × Int × Int × Int × Bool × Int) where
 dcS env H ds := match env 0, env 2, H, ds with
  | .v (.i .i64 a0), .ptr 0 0, [.cells 34 none [.v (.s a1), .v (.i .i64 a2), .v (.i .i64 a3), .v (.i .u64 a4), .v (.i .u64 a5), .cap0, .v (.b a6), .v (.i .i64 a7), .cap0]], [] => some (a0, a1, a2, a3, a4, a5, a6, a7)
  | _, _, _, _ => none
 slS := fun (a0, _) => [(0, .v (.i .i64 a0)), (2, .ptr 0 0)]
 obS := fun (_, a1, a2, a3, a4, a5, a6, a7) => [.cells 34 none [.v (.s a1), .v (.i .i64 a2), .v (.i .i64 a3), .v (.i .u64 a4), .v (.i .u64 a5), .cap0, .v (.b a6), .v (.i .i64 a7), .cap0]]
 dsS := fun _ => []
 dcE x env H ds := match x, env 0, env 2, env 12, H, ds with
  | .normal, .v (.i .i64 a0), .ptr 0 0, .v (.b a1), [.cells 34 none [.v (.s a2), .v (.i .i64 a3), .v (.i .i64 a4), .v (.i .u64 a5), .v (.i .u64 a6), .cap0, .v (.b a7), .v (.i .i64 a8), .cap0]], [] => some (a0, a1, a2, a3, a4, a5, a6, a7, a8)
  | _, _, _, _, _, _ => none
 exE := fun _ => .normal
 slE := fun (a0, a1, _) => [(0, .v (.i .i64 a0)), (2, .ptr 0 0), (12, .v (.b a1))]
 obE := fun (_, _, a2, a3, a4, a5, a6, a7, a8) => [.cells 34 none [.v (.s a2), .v (.i .i64 a3), .v (.i .i64 a4), .v (.i .u64 a5), .v (.i .u64 a6), .cap0, .v (.b a7), .v (.i .i64 a8), .cap0]]
 dsE := fun _ => []
 goE := fun _ (a0, a1, a2, a3, a4, a5, a6, a7, a8) k => k .normal [(0, .v (.i .i64 a0)), (2, .ptr 0 0), (12, .v (.b a1))] [.cells 34 none [.v (.s a2), .v (.i .i64 a3), .v (.i .i64 a4), .v (.i .u64 a5), .v (.i .u64 a6), .cap0, .v (.b a7), .v (.i .i64 a8), .cap0]] []
theorem p_r07_Root_0_ok : PieceOk p_r07_Root_0 := by
 refine ⟨fun env H ds s h => ?_, fun x env H ds e h => ?_, fun R e k => by kernel_rfl⟩ <;> (simp only [p_r07_Root_0] at h ⊢; split at h <;> first | (cases h; simp only [List.forall_mem_cons]; simp_all; done) | (cases h; done))
theorem p_r07_Root_0_ct (κ : Nat) (m : Int) : CutOk Tryz.prog C (G m) Tryz.f35.ntmps 0 (pieceOf (.reg 1) (getBody Tryz.f35)) (p_r07_Root_0.cut (gcN 0 [0, 2]) (fun (a0, a1, a2, a3, a4, a5, a6, a7) => r07_Root.v0 κ a0 a1 a2 a3 a4 a5 a6 a7)) :=
 Piece.join p_r07_Root_0_ok C_ok mixed (gam50_ok κ m) gcN_ok (xN_ok gcN_ok (ex_nil) gcN_ok gcN_ok) (cut := noCut) (X := (xN (gcN 0 [0, 2, 12]) [] (gcN 0 [2, 3]) (gcN 0 [1000000]))) (cuts_by (l := []) (by kernel_rfl) (all_nil)) (fun s => by kernel_rfl)
def cc_r07_Root_1 (κ : Nat) : Cut T := p_r07_Root_0.cut (gcN 0 [0, 2]) (fun (a0, a1, a2, a3, a4, a5, a6, a7) => r07_Root.v0 κ a0 a1 a2 a3 a4 a5 a6 a7)
theorem cc_r07_Root_1_ok (κ : Nat) (m : Int) : CutOk Tryz.prog C (G m) Tryz.f35.ntmps 0 (pieceOf (.reg 1) (getBody Tryz.f35)) (cc_r07_Root_1 κ) := p_r07_Root_0_ct κ m
def ct_r07_Root_1 (κ : Nat) : Key → Option (Cut T) := addCut noCut (.reg 1) (cc_r07_Root_1 κ)
def p_r07_Root_2 : Piece T (Int × Bool × ByteArray × Int × Int × Int × Int × Bool × Int × (List Tollbarref07S)) (Int × ByteArray × Int × Int × Int × Int × Bool × Int × (List Tollbarref07S)) where
 dcS env H ds := match env 0, env 2, env 5, env 27, H, ds with
  | .v (.i .i64 a0), .ptr 0 0, (.own 1), .v (.b a1), [.cells 34 none [.v (.s a2), .v (.i .i64 a3), .v (.i .i64 a4), .v (.i .u64 a5), .v (.i .u64 a6), .cap0, .v (.b a7), .v (.i .i64 a8), .cap0], (.row 34 a9 true)], [] => some (a0, a1, a2, a3, a4, a5, a6, a7, a8, a9)
  | _, _, _, _, _, _ => none
 slS := fun (a0, a1, _) => [(0, .v (.i .i64 a0)), (2, .ptr 0 0), (5, .own 1), (27, .v (.b a1))]
 obS := fun (_, _, a2, a3, a4, a5, a6, a7, a8, a9) => [.cells 34 none [.v (.s a2), .v (.i .i64 a3), .v (.i .i64 a4), .v (.i .u64 a5), .v (.i .u64 a6), .cap0, .v (.b a7), .v (.i .i64 a8), .cap0], (.row 34 a9 true)]
 dsS := fun _ => []
 dcE x env H ds := match x, env 0, env 2, env 5, H, ds with
  | .normal, .v (.i .i64 a0), .ptr 0 0, (.own 1), [.cells 34 none [.v (.s a1), .v (.i .i64 a2), .v (.i .i64 a3), .v (.i .u64 a4), .v (.i .u64 a5), .cap0, .v (.b a6), .v (.i .i64 a7), .cap0], (.row 34 a8 true)], [] => some (a0, a1, a2, a3, a4, a5, a6, a7, a8)
  | _, _, _, _, _, _ => none
 exE := fun _ => .normal
 slE := fun (a0, _) => [(0, .v (.i .i64 a0)), (2, .ptr 0 0), (5, .own 1)]
 obE := fun (_, a1, a2, a3, a4, a5, a6, a7, a8) => [.cells 34 none [.v (.s a1), .v (.i .i64 a2), .v (.i .i64 a3), .v (.i .u64 a4), .v (.i .u64 a5), .cap0, .v (.b a6), .v (.i .i64 a7), .cap0], (.row 34 a8 true)]
 dsE := fun _ => []
 goE := fun _ (a0, a1, a2, a3, a4, a5, a6, a7, a8) k => k .normal [(0, .v (.i .i64 a0)), (2, .ptr 0 0), (5, .own 1)] [.cells 34 none [.v (.s a1), .v (.i .i64 a2), .v (.i .i64 a3), .v (.i .u64 a4), .v (.i .u64 a5), .cap0, .v (.b a6), .v (.i .i64 a7), .cap0], (.row 34 a8 true)] []
theorem p_r07_Root_2_ok : PieceOk p_r07_Root_2 := by
 refine ⟨fun env H ds s h => ?_, fun x env H ds e h => ?_, fun R e k => by kernel_rfl⟩ <;> (simp only [p_r07_Root_2] at h ⊢; split at h <;> first | (cases h; simp only [List.forall_mem_cons]; simp_all; done) | (cases h; done))
theorem p_r07_Root_2_ct (κ : Nat) (m : Int) : CutOk Tryz.prog C (G m) Tryz.f35.ntmps 0 (pieceOf (.cnd 27 7) (getBody Tryz.f35)) (p_r07_Root_2.cut (gcN 0 [0, 2, 5, 27]) (fun (a0, a1, a2, a3, a4, a5, a6, a7, a8, a9) => r07_Root.v2 κ a0 a1 a2 a3 a4 a5 a6 a7 a8 a9)) :=
 Piece.join p_r07_Root_2_ok C_ok mixed (gam52_ok κ m) gcN_ok (xN_ok gcN_ok (ex_nil) gcN_ok gcN_ok) (cut := (ct_r07_Root_1 κ)) (X := (xN (gcN 0 [0, 2, 5]) [] (gcN 0 [2, 3]) (gcN 0 [1000000]))) (cuts_by (l := []) (by kernel_rfl) (all_nil)) (fun s => by kernel_rfl)
def cc_r07_Root_3 (κ : Nat) : Cut T := p_r07_Root_2.cut (gcN 0 [0, 2, 5, 27]) (fun (a0, a1, a2, a3, a4, a5, a6, a7, a8, a9) => r07_Root.v2 κ a0 a1 a2 a3 a4 a5 a6 a7 a8 a9)
theorem cc_r07_Root_3_ok (κ : Nat) (m : Int) : CutOk Tryz.prog C (G m) Tryz.f35.ntmps 0 (pieceOf (.cnd 27 7) (getBody Tryz.f35)) (cc_r07_Root_3 κ) := p_r07_Root_2_ct κ m
def ct_r07_Root_3 (κ : Nat) : Key → Option (Cut T) := addCut (ct_r07_Root_1 κ) (.cnd 27 7) (cc_r07_Root_3 κ)
def p_r07_Root_4 : Piece T (Bool × ByteArray × Int × Int × Int × Int × Bool × Int × (List Tollbarref07S)) (ByteArray × Int × Int × Int × Int × Bool × Int × (List Tollbarref07S)) where
 dcS env H ds := match env 2, env 6, env 38, H, ds with
  | .ptr 0 0, (.own 1), .v (.b a0), [.cells 34 none [.v (.s a1), .v (.i .i64 a2), .v (.i .i64 a3), .v (.i .u64 a4), .v (.i .u64 a5), .cap0, .v (.b a6), .v (.i .i64 a7), .cap0], (.row 34 a8 true)], [] => some (a0, a1, a2, a3, a4, a5, a6, a7, a8)
  | _, _, _, _, _ => none
 slS := fun (a0, _) => [(2, .ptr 0 0), (6, .own 1), (38, .v (.b a0))]
 obS := fun (_, a1, a2, a3, a4, a5, a6, a7, a8) => [.cells 34 none [.v (.s a1), .v (.i .i64 a2), .v (.i .i64 a3), .v (.i .u64 a4), .v (.i .u64 a5), .cap0, .v (.b a6), .v (.i .i64 a7), .cap0], (.row 34 a8 true)]
 dsS := fun _ => []
 dcE x env H ds := match x, env 2, env 6, H, ds with
  | .normal, .ptr 0 0, (.own 1), [.cells 34 none [.v (.s a0), .v (.i .i64 a1), .v (.i .i64 a2), .v (.i .u64 a3), .v (.i .u64 a4), .cap0, .v (.b a5), .v (.i .i64 a6), .cap0], (.row 34 a7 true)], [] => some (a0, a1, a2, a3, a4, a5, a6, a7)
  | _, _, _, _, _ => none
 exE := fun _ => .normal
 slE := fun _ => [(2, .ptr 0 0), (6, .own 1)]
 obE := fun (a0, a1, a2, a3, a4, a5, a6, a7) => [.cells 34 none [.v (.s a0), .v (.i .i64 a1), .v (.i .i64 a2), .v (.i .u64 a3), .v (.i .u64 a4), .cap0, .v (.b a5), .v (.i .i64 a6), .cap0], (.row 34 a7 true)]
 dsE := fun _ => []
 goE := fun _ (a0, a1, a2, a3, a4, a5, a6, a7) k => k .normal [(2, .ptr 0 0), (6, .own 1)] [.cells 34 none [.v (.s a0), .v (.i .i64 a1), .v (.i .i64 a2), .v (.i .u64 a3), .v (.i .u64 a4), .cap0, .v (.b a5), .v (.i .i64 a6), .cap0], (.row 34 a7 true)] []
theorem p_r07_Root_4_ok : PieceOk p_r07_Root_4 := by
 refine ⟨fun env H ds s h => ?_, fun x env H ds e h => ?_, fun R e k => by kernel_rfl⟩ <;> (simp only [p_r07_Root_4] at h ⊢; split at h <;> first | (cases h; simp only [List.forall_mem_cons]; simp_all; done) | (cases h; done))
theorem p_r07_Root_4_ct (κ : Nat) (m : Int) : CutOk Tryz.prog C (G m) Tryz.f35.ntmps 0 (pieceOf (.cnd 38 10) (getBody Tryz.f35)) (p_r07_Root_4.cut (gcN 0 [2, 6, 38]) (fun (a0, a1, a2, a3, a4, a5, a6, a7, a8) => r07_Root.v4 κ a0 a1 a2 a3 a4 a5 a6 a7 a8)) :=
 Piece.join p_r07_Root_4_ok C_ok mixed (gam52_ok κ m) gcN_ok (xN_ok gcN_ok (ex_nil) gcN_ok gcN_ok) (cut := (ct_r07_Root_3 κ)) (X := (xN (gcN 0 [2, 6]) [] (gcN 0 [2, 3]) (gcN 0 [1000000]))) (cuts_by (l := []) (by kernel_rfl) (all_nil)) (fun s => by kernel_rfl)
def cc_r07_Root_5 (κ : Nat) : Cut T := p_r07_Root_4.cut (gcN 0 [2, 6, 38]) (fun (a0, a1, a2, a3, a4, a5, a6, a7, a8) => r07_Root.v4 κ a0 a1 a2 a3 a4 a5 a6 a7 a8)
theorem cc_r07_Root_5_ok (κ : Nat) (m : Int) : CutOk Tryz.prog C (G m) Tryz.f35.ntmps 0 (pieceOf (.cnd 38 10) (getBody Tryz.f35)) (cc_r07_Root_5 κ) := p_r07_Root_4_ct κ m
def ct_r07_Root_5 (κ : Nat) : Key → Option (Cut T) := addCut (ct_r07_Root_3 κ) (.cnd 38 10) (cc_r07_Root_5 κ)
def sp_r07_Root : Spec T (Int) (ByteArray × Int × Int × Int × Int × Bool × Int × Int × (List Tollbarref07S)) where
 dcI a H := match a, H with
  | [.v (.i .i64 a0)], [] => some a0
  | _, _ => none
 ecA := fun a0 => [.v (.i .i64 a0)]
 ecH := fun a0 => []
 dcO o := match o with
  | .ret (.tup [(.agg [.v (.s a0), .v (.i .i64 a1), .v (.i .i64 a2), .v (.i .u64 a3), .v (.i .u64 a4), .cap0, .v (.b a5), .v (.i .i64 a6), (.own 0)]), .v (.i .i64 a7)]) [(.row 34 a8 true)] => some (a0, a1, a2, a3, a4, a5, a6, a7, a8)
  | _ => none
 goO := fun _ (a0, a1, a2, a3, a4, a5, a6, a7, a8) k => k (.ret (.tup [(.agg [.v (.s a0), .v (.i .i64 a1), .v (.i .i64 a2), .v (.i .u64 a3), .v (.i .u64 a4), .cap0, .v (.b a5), .v (.i .i64 a6), (.own 0)]), .v (.i .i64 a7)]) [(.row 34 a8 true)])
 ecO := fun (a0, a1, a2, a3, a4, a5, a6, a7, a8) => .ret (.tup [(.agg [.v (.s a0), .v (.i .i64 a1), .v (.i .i64 a2), .v (.i .u64 a3), .v (.i .u64 a4), .cap0, .v (.b a5), .v (.i .i64 a6), (.own 0)]), .v (.i .i64 a7)]) [(.row 34 a8 true)]
theorem sp_r07_Root_ok : SpecOk sp_r07_Root := by
 refine ⟨fun a H i h => ?_, fun o x h => ?_, fun R e k => by kernel_rfl⟩ <;> (simp only [sp_r07_Root] at h ⊢; split at h <;> first | (cases h; exact ⟨rfl, rfl⟩) | (cases h; rfl) | (cases h; done))
theorem ok_r07_Root (κ : Nat) (m : Int) : EOk Tryz.prog C (G m) 35 (sp_r07_Root.entry (fun a0 => r07_Root κ a0)) :=
 Spec.ok sp_r07_Root_ok C_ok mixed (gam52_ok κ m) (cut := (ct_r07_Root_5 κ)) (NR := (andN (promS 0 [0, 8] 34) (gcN 0 [0]))) (NP := (gcN 0 [0])) (nB := 0) Tryz.func35 (c := (getBody Tryz.f35)) (by kernel_rfl) (by kernel_rfl) (fun i => by kernel_rfl) (andN_ok promS_ok gcN_ok) gcN_ok (cuts_by (l := [(pieceOf (.reg 1) (getBody Tryz.f35), cc_r07_Root_1 κ), (pieceOf (.cnd 27 7) (getBody Tryz.f35), cc_r07_Root_3 κ), (pieceOf (.cnd 38 10) (getBody Tryz.f35), cc_r07_Root_5 κ)]) (by kernel_rfl) (all_cons (cc_r07_Root_1_ok κ m) (all_cons (cc_r07_Root_3_ok κ m) (all_cons (cc_r07_Root_5_ok κ m) (all_nil))))) (fun i => by kernel_rfl)
noncomputable def gam53 (κ : Nat) : Gam T := (gam52 κ).addS 35 sp_r07_Root (fun a0 => r07_Root κ a0)
theorem gam53_ok (κ : Nat) (m : Int) : GOk Tryz.prog C (G m) (gam53 κ) := (gam52_ok κ m).addS (ok_r07_Root κ m)
def p_r07_Find_0 : Piece T (ByteArray × Int × ByteArray × Int × Int × Int × Int × Bool × Int × (List Tollbarref07S)) ((Unit) ⊕ (Int)) where
 dcS env H ds := match env 1, env 2, env 5, H, ds with
  | .v (.s a0), .ptr 0 0, .v (.i .i64 a1), [.cells 34 none [.v (.s a2), .v (.i .i64 a3), .v (.i .i64 a4), .v (.i .u64 a5), .v (.i .u64 a6), .cap0, .v (.b a7), .v (.i .i64 a8), .v (.sl 34 a9)]], [] => some (a0, a1, a2, a3, a4, a5, a6, a7, a8, a9)
  | _, _, _, _, _ => none
 slS := fun (a0, a1, _) => [(1, .v (.s a0)), (2, .ptr 0 0), (5, .v (.i .i64 a1))]
 obS := fun (_, _, a2, a3, a4, a5, a6, a7, a8, a9) => [.cells 34 none [.v (.s a2), .v (.i .i64 a3), .v (.i .i64 a4), .v (.i .u64 a5), .v (.i .u64 a6), .cap0, .v (.b a7), .v (.i .i64 a8), .v (.sl 34 a9)]]
 dsS := fun _ => []
 dcE x env H ds := match x, env 4, H, ds with
  | .normal, _, [], [] => some (.inl ())
  | .ret, .v (.i .i64 a0), [], [] => some (.inr a0)
  | _, _, _, _ => none
 exE := fun x => match x with
  | (.inl _) => .normal
  | (.inr a0) => .ret
 slE := fun x => match x with
  | (.inl _) => []
  | (.inr a0) => [(4, .v (.i .i64 a0))]
 obE := fun x => match x with
  | (.inl _) => []
  | (.inr a0) => []
 dsE := fun x => match x with
  | (.inl _) => []
  | (.inr a0) => []
 goE := fun _ x k => match x with
  | (.inl _) => k .normal [] [] []
  | (.inr a0) => k .ret [(4, .v (.i .i64 a0))] [] []
theorem p_r07_Find_0_ok : PieceOk p_r07_Find_0 := by
 refine ⟨fun env H ds s h => ?_, fun x env H ds e h => ?_, fun R e k => by rcases e with e | e <;> kernel_rfl⟩
 · simp only [p_r07_Find_0] at h ⊢; split at h <;> first | (cases h; simp only [List.forall_mem_cons]; simp_all; done) | (cases h; done)
 · simp only [p_r07_Find_0] at h ⊢; split at h <;> first | (cases h; simp only [List.forall_mem_cons]; simp_all; done) | (cases h; done)
theorem p_r07_Find_0_ct (κ : Nat) (m : Int) : CutOk Tryz.prog C (G m) Tryz.f36.ntmps 0 (pieceOf (.blk 0) (getBody Tryz.f36)) (p_r07_Find_0.cut (gcN 0 [1, 2, 5]) (r07_Find.l0 κ κ)) :=
 Piece.loop p_r07_Find_0_ok C_ok mixed (gam53_ok κ m) gcN_ok (xN_ok gcN_ok (ex_nil) gcN_ok gcN_ok) (cut := noCut) (X := (xN (gcN 0 []) [] (gcN 0 [4]) (gcN 0 [1000000]))) (id := 0) (body := bodyOf (pieceOf (.blk 0) (getBody Tryz.f36))) (cuts_by (l := []) (by kernel_rfl) (all_nil)) (f := r07_Find.l0 κ) (fun s => by kernel_rfl) (fun k s => by kernel_rfl) κ
def cc_r07_Find_1 (κ : Nat) : Cut T := p_r07_Find_0.cut (gcN 0 [1, 2, 5]) (r07_Find.l0 κ κ)
theorem cc_r07_Find_1_ok (κ : Nat) (m : Int) : CutOk Tryz.prog C (G m) Tryz.f36.ntmps 0 (pieceOf (.blk 0) (getBody Tryz.f36)) (cc_r07_Find_1 κ) := p_r07_Find_0_ct κ m
def ct_r07_Find_1 (κ : Nat) : Key → Option (Cut T) := addCut noCut (.blk 0) (cc_r07_Find_1 κ)
def sp_r07_Find : Spec T (ByteArray × Int × Int × Int × Int × Bool × Int × (List Tollbarref07S) × ByteArray) (Int) where
 dcI a H := match a, H with
  | [(.agg [.v (.s a0), .v (.i .i64 a1), .v (.i .i64 a2), .v (.i .u64 a3), .v (.i .u64 a4), .cap0, .v (.b a5), .v (.i .i64 a6), .v (.sl 34 a7)]), .v (.s a8)], [] => some (a0, a1, a2, a3, a4, a5, a6, a7, a8)
  | _, _ => none
 ecA := fun (a0, a1, a2, a3, a4, a5, a6, a7, a8) => [(.agg [.v (.s a0), .v (.i .i64 a1), .v (.i .i64 a2), .v (.i .u64 a3), .v (.i .u64 a4), .cap0, .v (.b a5), .v (.i .i64 a6), .v (.sl 34 a7)]), .v (.s a8)]
 ecH := fun _ => []
 dcO o := match o with
  | .ret (.v (.i .i64 a0)) [] => some a0
  | _ => none
 goO := fun _ a0 k => k (.ret (.v (.i .i64 a0)) [])
 ecO := fun a0 => .ret (.v (.i .i64 a0)) []
theorem sp_r07_Find_ok : SpecOk sp_r07_Find := by
 refine ⟨fun a H i h => ?_, fun o x h => ?_, fun R e k => by kernel_rfl⟩ <;> (simp only [sp_r07_Find] at h ⊢; split at h <;> first | (cases h; exact ⟨rfl, rfl⟩) | (cases h; rfl) | (cases h; done))
theorem ok_r07_Find (κ : Nat) (m : Int) : EOk Tryz.prog C (G m) 36 (sp_r07_Find.entry (fun (a0, a1, a2, a3, a4, a5, a6, a7, a8) => r07_Find κ a0 a1 a2 a3 a4 a5 a6 a7 a8)) :=
 Spec.ok sp_r07_Find_ok C_ok mixed (gam53_ok κ m) (cut := (ct_r07_Find_1 κ)) (NR := (gcN 0 [0])) (NP := (gcN 0 [0])) (nB := 0) Tryz.func36 (c := (getBody Tryz.f36)) (by kernel_rfl) (by kernel_rfl) (fun i => by kernel_rfl) gcN_ok gcN_ok (cuts_by (l := [(pieceOf (.blk 0) (getBody Tryz.f36), cc_r07_Find_1 κ)]) (by kernel_rfl) (all_cons (cc_r07_Find_1_ok κ m) (all_nil))) (fun i => by kernel_rfl)
noncomputable def gam54 (κ : Nat) : Gam T := (gam53 κ).addS 36 sp_r07_Find (fun (a0, a1, a2, a3, a4, a5, a6, a7, a8) => r07_Find κ a0 a1 a2 a3 a4 a5 a6 a7 a8)
theorem gam54_ok (κ : Nat) (m : Int) : GOk Tryz.prog C (G m) (gam54 κ) := (gam53_ok κ m).addS (ok_r07_Find κ m)
def p_r07_Find_2_0 : Piece T (ByteArray × Int × ByteArray × Int × Int × Int × Int × (List ByteArray) × Bool × Int × (List Tollbarref07S)) ((Unit) ⊕ (Int)) where
 dcS env H ds := match env 1, env 2, env 5, H, ds with
  | .v (.s a0), .ptr 0 0, .v (.i .i64 a1), [.cells 34 none [.v (.s a2), .v (.i .i64 a3), .v (.i .i64 a4), .v (.i .u64 a5), .v (.i .u64 a6), .v (.sl 9 a7), .v (.b a8), .v (.i .i64 a9), .v (.sl 34 a10)]], [] => some (a0, a1, a2, a3, a4, a5, a6, a7, a8, a9, a10)
  | _, _, _, _, _ => none
 slS := fun (a0, a1, _) => [(1, .v (.s a0)), (2, .ptr 0 0), (5, .v (.i .i64 a1))]
 obS := fun (_, _, a2, a3, a4, a5, a6, a7, a8, a9, a10) => [.cells 34 none [.v (.s a2), .v (.i .i64 a3), .v (.i .i64 a4), .v (.i .u64 a5), .v (.i .u64 a6), .v (.sl 9 a7), .v (.b a8), .v (.i .i64 a9), .v (.sl 34 a10)]]
 dsS := fun _ => []
 dcE x env H ds := match x, env 4, H, ds with
  | .normal, _, [], [] => some (.inl ())
  | .ret, .v (.i .i64 a0), [], [] => some (.inr a0)
  | _, _, _, _ => none
 exE := fun x => match x with
  | (.inl _) => .normal
  | (.inr a0) => .ret
 slE := fun x => match x with
  | (.inl _) => []
  | (.inr a0) => [(4, .v (.i .i64 a0))]
 obE := fun x => match x with
  | (.inl _) => []
  | (.inr a0) => []
 dsE := fun x => match x with
  | (.inl _) => []
  | (.inr a0) => []
 goE := fun _ x k => match x with
  | (.inl _) => k .normal [] [] []
  | (.inr a0) => k .ret [(4, .v (.i .i64 a0))] [] []
theorem p_r07_Find_2_0_ok : PieceOk p_r07_Find_2_0 := by
 refine ⟨fun env H ds s h => ?_, fun x env H ds e h => ?_, fun R e k => by rcases e with e | e <;> kernel_rfl⟩
 · simp only [p_r07_Find_2_0] at h ⊢; split at h <;> first | (cases h; simp only [List.forall_mem_cons]; simp_all; done) | (cases h; done)
 · simp only [p_r07_Find_2_0] at h ⊢; split at h <;> first | (cases h; simp only [List.forall_mem_cons]; simp_all; done) | (cases h; done)
theorem p_r07_Find_2_0_ct (κ : Nat) (m : Int) : CutOk Tryz.prog C (G m) Tryz.f36.ntmps 0 (pieceOf (.blk 0) (getBody Tryz.f36)) (p_r07_Find_2_0.cut (gcN 0 [1, 2, 5]) (r07_Find_2.l0 κ κ)) :=
 Piece.loop p_r07_Find_2_0_ok C_ok mixed (gam54_ok κ m) gcN_ok (xN_ok gcN_ok (ex_nil) gcN_ok gcN_ok) (cut := noCut) (X := (xN (gcN 0 []) [] (gcN 0 [4]) (gcN 0 [1000000]))) (id := 0) (body := bodyOf (pieceOf (.blk 0) (getBody Tryz.f36))) (cuts_by (l := []) (by kernel_rfl) (all_nil)) (f := r07_Find_2.l0 κ) (fun s => by kernel_rfl) (fun k s => by kernel_rfl) κ
def cc_r07_Find_2_1 (κ : Nat) : Cut T := p_r07_Find_2_0.cut (gcN 0 [1, 2, 5]) (r07_Find_2.l0 κ κ)
theorem cc_r07_Find_2_1_ok (κ : Nat) (m : Int) : CutOk Tryz.prog C (G m) Tryz.f36.ntmps 0 (pieceOf (.blk 0) (getBody Tryz.f36)) (cc_r07_Find_2_1 κ) := p_r07_Find_2_0_ct κ m
def ct_r07_Find_2_1 (κ : Nat) : Key → Option (Cut T) := addCut noCut (.blk 0) (cc_r07_Find_2_1 κ)
def sp_r07_Find_2 : Spec T (ByteArray × Int × Int × Int × Int × (List ByteArray) × Bool × Int × (List Tollbarref07S) × ByteArray) (Int) where
 dcI a H := match a, H with
  | [(.agg [.v (.s a0), .v (.i .i64 a1), .v (.i .i64 a2), .v (.i .u64 a3), .v (.i .u64 a4), .v (.sl 9 a5), .v (.b a6), .v (.i .i64 a7), .v (.sl 34 a8)]), .v (.s a9)], [] => some (a0, a1, a2, a3, a4, a5, a6, a7, a8, a9)
  | _, _ => none
 ecA := fun (a0, a1, a2, a3, a4, a5, a6, a7, a8, a9) => [(.agg [.v (.s a0), .v (.i .i64 a1), .v (.i .i64 a2), .v (.i .u64 a3), .v (.i .u64 a4), .v (.sl 9 a5), .v (.b a6), .v (.i .i64 a7), .v (.sl 34 a8)]), .v (.s a9)]
 ecH := fun _ => []
 dcO o := match o with
  | .ret (.v (.i .i64 a0)) [] => some a0
  | _ => none
 goO := fun _ a0 k => k (.ret (.v (.i .i64 a0)) [])
 ecO := fun a0 => .ret (.v (.i .i64 a0)) []
theorem sp_r07_Find_2_ok : SpecOk sp_r07_Find_2 := by
 refine ⟨fun a H i h => ?_, fun o x h => ?_, fun R e k => by kernel_rfl⟩ <;> (simp only [sp_r07_Find_2] at h ⊢; split at h <;> first | (cases h; exact ⟨rfl, rfl⟩) | (cases h; rfl) | (cases h; done))
theorem ok_r07_Find_2 (κ : Nat) (m : Int) : EOk Tryz.prog C (G m) 36 (sp_r07_Find_2.entry (fun (a0, a1, a2, a3, a4, a5, a6, a7, a8, a9) => r07_Find_2 κ a0 a1 a2 a3 a4 a5 a6 a7 a8 a9)) :=
 Spec.ok sp_r07_Find_2_ok C_ok mixed (gam54_ok κ m) (cut := (ct_r07_Find_2_1 κ)) (NR := (gcN 0 [0])) (NP := (gcN 0 [0])) (nB := 0) Tryz.func36 (c := (getBody Tryz.f36)) (by kernel_rfl) (by kernel_rfl) (fun i => by kernel_rfl) gcN_ok gcN_ok (cuts_by (l := [(pieceOf (.blk 0) (getBody Tryz.f36), cc_r07_Find_2_1 κ)]) (by kernel_rfl) (all_cons (cc_r07_Find_2_1_ok κ m) (all_nil))) (fun i => by kernel_rfl)
noncomputable def gam55 (κ : Nat) : Gam T := (gam54 κ).addS 36 sp_r07_Find_2 (fun (a0, a1, a2, a3, a4, a5, a6, a7, a8, a9) => r07_Find_2 κ a0 a1 a2 a3 a4 a5 a6 a7 a8 a9)
theorem gam55_ok (κ : Nat) (m : Int) : GOk Tryz.prog C (G m) (gam55 κ) := (gam54_ok κ m).addS (ok_r07_Find_2 κ m)
end Go.Proofs.YthmohmmbhjpbcaaGreatDoor.Ev.Seat
