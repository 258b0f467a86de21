import Derived.Test.YtfoeekaanngoiaaDoorEvPlain
set_option linter.unusedVariables false
set_option linter.unusedSimpArgs false
namespace Go.Proofs.YtfoeekaanngoiaaDoor.Ev.Seat
open Go Ev Go.Proofs
noncomputable def gamB (κ : Nat) : Gam T := (gamLib gam0 κ).give [44, 58]
theorem gamB_ok (κ : Nat) (m : Int) : GOk Tryd.prog C (G m) (gamB κ) := (gamLib_ok κ m gam0_ok).give
def gamDB (κ : Nat) : GamD T := gamD0
theorem gamDB_ok (κ : Nat) (m : Int) : GOkD Tryd.prog C (G m) (gamDB κ) := gamD0_ok
def p_lex_reader_next_0 : Piece T (ByteArray × Int × Int × ByteArray × Nat) ((ByteArray × Int × Int) ⊕ (ByteArray × ByteArray × Int × Int)) where
  dcS env H ds := match env 0, env 8, H, ds with
    | (.ptr 0 0), (.ptr 1 0), [(.cells 44 none [(.v (.s a0)), (.v (.i .i64 a1)), (.v (.i .i64 a2))]), (.siter a3 a4)], [] => some (a0, a1, a2, a3, a4)
    | _, _, _, _ => none
  slS := fun (a0, a1, a2, a3, a4) => [(0, (.ptr 0 0)), (8, (.ptr 1 0))]
  obS := fun (a0, a1, a2, a3, a4) => [(.cells 44 none [(.v (.s a0)), (.v (.i .i64 a1)), (.v (.i .i64 a2))]), (.siter a3 a4)]
  dsS := fun (a0, a1, a2, a3, a4) => []
  dcE x env H ds := match x, env 0, env 2, H, ds with
    | .normal, (.ptr 0 0), _, [(.cells 44 none [(.v (.s a0)), (.v (.i .i64 a1)), (.v (.i .i64 a2))])], [] => some (.inl (a0, a1, a2))
    | .ret, _, (.v (.s a0)), [(.cells 44 none [(.v (.s a1)), (.v (.i .i64 a2)), (.v (.i .i64 a3))])], [] => some (.inr (a0, a1, a2, a3))
    | _, _, _, _, _ => none
  exE := fun x => match x with
    | (.inl (a0, a1, a2)) => .normal
    | (.inr (a0, a1, a2, a3)) => .ret
  slE := fun x => match x with
    | (.inl (a0, a1, a2)) => [(0, (.ptr 0 0))]
    | (.inr (a0, a1, a2, a3)) => [(2, (.v (.s a0)))]
  obE := fun x => match x with
    | (.inl (a0, a1, a2)) => [(.cells 44 none [(.v (.s a0)), (.v (.i .i64 a1)), (.v (.i .i64 a2))])]
    | (.inr (a0, a1, a2, a3)) => [(.cells 44 none [(.v (.s a1)), (.v (.i .i64 a2)), (.v (.i .i64 a3))])]
  dsE := fun x => match x with
    | (.inl (a0, a1, a2)) => []
    | (.inr (a0, a1, a2, a3)) => []
  goE := fun _ x k => match x with
    | (.inl (a0, a1, a2)) => k .normal [(0, (.ptr 0 0))] [(.cells 44 none [(.v (.s a0)), (.v (.i .i64 a1)), (.v (.i .i64 a2))])] []
    | (.inr (a0, a1, a2, a3)) => k .ret [(2, (.v (.s a0)))] [(.cells 44 none [(.v (.s a1)), (.v (.i .i64 a2)), (.v (.i .i64 a3))])] []
theorem p_lex_reader_next_0_ok : PieceOk p_lex_reader_next_0 := by
  refine ⟨fun env H ds s h => ?_, fun x env H ds e h => ?_, fun R e k => by rcases e with e | e <;> kernel_rfl⟩
  · simp only [p_lex_reader_next_0] at h ⊢; split at h <;> first | (cases h; simp only [List.forall_mem_cons]; simp_all; done) | (cases h; done)
  · simp only [p_lex_reader_next_0] at h ⊢; split at h <;> first | (cases h; simp only [List.forall_mem_cons]; simp_all; done) | (cases h; done)
theorem p_lex_reader_next_0_ct (κ : Nat) (m : Int) : CutOk Tryd.prog C (G m) Tryd.f29.ntmps 1 (pieceOf (.blk 0) (getBody Tryd.f29)) (p_lex_reader_next_0.cut (gcN 1 [0, 8]) (lex_reader_next.l0 κ κ)) :=
  Piece.loop p_lex_reader_next_0_ok C_ok mixed (gamB_ok κ m) gcN_ok (xN_ok gcN_ok (ex_nil) gcN_ok gcN_ok) (cut := noCut) (X := (xN (gcN 1 [0]) [] (gcN 1 [2]) (gcN 1 [1000000]))) (id := 0) (body := bodyOf (pieceOf (.blk 0) (getBody Tryd.f29))) (cuts_by (l := []) (by kernel_rfl) (all_nil)) (f := lex_reader_next.l0 κ) (fun s => by kernel_rfl) (fun k s => by kernel_rfl) κ
def cc_lex_reader_next_1 (κ : Nat) : Cut T := p_lex_reader_next_0.cut (gcN 1 [0, 8]) (lex_reader_next.l0 κ κ)
theorem cc_lex_reader_next_1_ok (κ : Nat) (m : Int) : CutOk Tryd.prog C (G m) Tryd.f29.ntmps 1 (pieceOf (.blk 0) (getBody Tryd.f29)) (cc_lex_reader_next_1 κ) := p_lex_reader_next_0_ct κ m
def ct_lex_reader_next_1 (κ : Nat) : Key → Option (Cut T) := addCut noCut (.blk 0) (cc_lex_reader_next_1 κ)
def sp_lex_reader_next : Spec T (ByteArray × Int × Int) (ByteArray × ByteArray × Int × Int) where
  dcI a H := match a, H with
    | [(.ptr 0 0)], [(.cells 44 none [(.v (.s a0)), (.v (.i .i64 a1)), (.v (.i .i64 a2))])] => some (a0, a1, a2)
    | _, _ => none
  ecA := fun (a0, a1, a2) => [(.ptr 0 0)]
  ecH := fun (a0, a1, a2) => [(.cells 44 none [(.v (.s a0)), (.v (.i .i64 a1)), (.v (.i .i64 a2))])]
  dcO o := match o with
    | .ret (.v (.s a0)) [(.cells 44 none [(.v (.s a1)), (.v (.i .i64 a2)), (.v (.i .i64 a3))])] => some (a0, a1, a2, a3)
    | _ => none
  goO := fun _ (a0, a1, a2, a3) k => k (.ret (.v (.s a0)) [(.cells 44 none [(.v (.s a1)), (.v (.i .i64 a2)), (.v (.i .i64 a3))])])
  ecO := fun (a0, a1, a2, a3) => .ret (.v (.s a0)) [(.cells 44 none [(.v (.s a1)), (.v (.i .i64 a2)), (.v (.i .i64 a3))])]
theorem sp_lex_reader_next_ok : SpecOk sp_lex_reader_next := by
  refine ⟨fun a H i h => ?_, fun o x h => ?_, fun R e k => by kernel_rfl⟩
  · simp only [sp_lex_reader_next] at h ⊢; split at h <;> first | (cases h; exact ⟨rfl, rfl⟩) | (cases h; done)
  · simp only [sp_lex_reader_next] at h ⊢; split at h <;> first | (cases h; rfl) | (cases h; done)
theorem ok_lex_reader_next (κ : Nat) (m : Int) : EOk Tryd.prog C (G m) 29 (sp_lex_reader_next.entry (fun (a0, a1, a2) => lex_reader_next κ a0 a1 a2)) :=
  Spec.ok sp_lex_reader_next_ok C_ok mixed (gamB_ok κ m) (cut := (ct_lex_reader_next_1 κ)) (NR := (gcN 1 [0])) (NP := (gcN 1 [0])) (nB := 1) Tryd.func29 (c := (getBody Tryd.f29)) (by kernel_rfl) (by kernel_rfl) (fun i => by kernel_rfl) gcN_ok gcN_ok (cuts_by (l := [(pieceOf (.blk 0) (getBody Tryd.f29), cc_lex_reader_next_1 κ)]) (by kernel_rfl) (all_cons (cc_lex_reader_next_1_ok κ m) (all_nil))) (fun i => by kernel_rfl)
noncomputable def gam1 (κ : Nat) : Gam T := (gamB κ).addS 29 sp_lex_reader_next (fun (a0, a1, a2) => lex_reader_next κ a0 a1 a2)
theorem gam1_ok (κ : Nat) (m : Int) : GOk Tryd.prog C (G m) (gam1 κ) := (gamB_ok κ m).addS (ok_lex_reader_next κ m)
def p_lex_reader_take_0 : Piece T (ByteArray × Bool × ByteArray × Int × Int) (ByteArray × ByteArray × Int × Int) where
  dcS env H ds := match env 0, env 3, env 26, H, ds with
    | (.ptr 0 0), (.v (.s a0)), (.v (.b a1)), [(.cells 44 none [(.v (.s a2)), (.v (.i .i64 a3)), (.v (.i .i64 a4))])], [] => some (a0, a1, a2, a3, a4)
    | _, _, _, _, _ => none
  slS := fun (a0, a1, a2, a3, a4) => [(0, (.ptr 0 0)), (3, (.v (.s a0))), (26, (.v (.b a1)))]
  obS := fun (a0, a1, a2, a3, a4) => [(.cells 44 none [(.v (.s a2)), (.v (.i .i64 a3)), (.v (.i .i64 a4))])]
  dsS := fun (a0, a1, a2, a3, a4) => []
  dcE x env H ds := match x, env 3, H, ds with
    | .normal, (.v (.s a0)), [(.cells 44 none [(.v (.s a1)), (.v (.i .i64 a2)), (.v (.i .i64 a3))])], [] => some (a0, a1, a2, a3)
    | _, _, _, _ => none
  exE := fun (a0, a1, a2, a3) => .normal
  slE := fun (a0, a1, a2, a3) => [(3, (.v (.s a0)))]
  obE := fun (a0, a1, a2, a3) => [(.cells 44 none [(.v (.s a1)), (.v (.i .i64 a2)), (.v (.i .i64 a3))])]
  dsE := fun (a0, a1, a2, a3) => []
  goE := fun _ (a0, a1, a2, a3) k => k .normal [(3, (.v (.s a0)))] [(.cells 44 none [(.v (.s a1)), (.v (.i .i64 a2)), (.v (.i .i64 a3))])] []
theorem p_lex_reader_take_0_ok : PieceOk p_lex_reader_take_0 := by
  refine ⟨fun env H ds s h => ?_, fun x env H ds e h => ?_, fun R e k => by kernel_rfl⟩
  · simp only [p_lex_reader_take_0] at h ⊢; split at h <;> first | (cases h; simp only [List.forall_mem_cons]; simp_all; done) | (cases h; done)
  · simp only [p_lex_reader_take_0] at h ⊢; split at h <;> first | (cases h; simp only [List.forall_mem_cons]; simp_all; done) | (cases h; done)
theorem p_lex_reader_take_0_ct (κ : Nat) (m : Int) : CutOk Tryd.prog C (G m) Tryd.f31.ntmps 1 (pieceOf (.cnd 26 6) (getBody Tryd.f31)) (p_lex_reader_take_0.cut (gcN 1 [0, 3, 26]) (fun (a0, a1, a2, a3, a4) => lex_reader_take.v0 κ a0 a1 a2 a3 a4)) :=
  Piece.join p_lex_reader_take_0_ok C_ok mixed (gam1_ok κ m) gcN_ok (xN_ok gcN_ok (ex_nil) gcN_ok gcN_ok) (cut := noCut) (X := (xN (gcN 1 [3]) [] (gcN 1 [2]) (gcN 1 [1000000]))) (cuts_by (l := []) (by kernel_rfl) (all_nil)) (fun s => by kernel_rfl)
def cc_lex_reader_take_1 (κ : Nat) : Cut T := p_lex_reader_take_0.cut (gcN 1 [0, 3, 26]) (fun (a0, a1, a2, a3, a4) => lex_reader_take.v0 κ a0 a1 a2 a3 a4)
theorem cc_lex_reader_take_1_ok (κ : Nat) (m : Int) : CutOk Tryd.prog C (G m) Tryd.f31.ntmps 1 (pieceOf (.cnd 26 6) (getBody Tryd.f31)) (cc_lex_reader_take_1 κ) := p_lex_reader_take_0_ct κ m
def ct_lex_reader_take_1 (κ : Nat) : Key → Option (Cut T) := addCut noCut (.cnd 26 6) (cc_lex_reader_take_1 κ)
def sp_lex_reader_take : Spec T (ByteArray × Int × Int) (ByteArray × ByteArray × Int × Int) where
  dcI a H := match a, H with
    | [(.ptr 0 0)], [(.cells 44 none [(.v (.s a0)), (.v (.i .i64 a1)), (.v (.i .i64 a2))])] => some (a0, a1, a2)
    | _, _ => none
  ecA := fun (a0, a1, a2) => [(.ptr 0 0)]
  ecH := fun (a0, a1, a2) => [(.cells 44 none [(.v (.s a0)), (.v (.i .i64 a1)), (.v (.i .i64 a2))])]
  dcO o := match o with
    | .ret (.v (.s a0)) [(.cells 44 none [(.v (.s a1)), (.v (.i .i64 a2)), (.v (.i .i64 a3))])] => some (a0, a1, a2, a3)
    | _ => none
  goO := fun _ (a0, a1, a2, a3) k => k (.ret (.v (.s a0)) [(.cells 44 none [(.v (.s a1)), (.v (.i .i64 a2)), (.v (.i .i64 a3))])])
  ecO := fun (a0, a1, a2, a3) => .ret (.v (.s a0)) [(.cells 44 none [(.v (.s a1)), (.v (.i .i64 a2)), (.v (.i .i64 a3))])]
theorem sp_lex_reader_take_ok : SpecOk sp_lex_reader_take := by
  refine ⟨fun a H i h => ?_, fun o x h => ?_, fun R e k => by kernel_rfl⟩
  · simp only [sp_lex_reader_take] at h ⊢; split at h <;> first | (cases h; exact ⟨rfl, rfl⟩) | (cases h; done)
  · simp only [sp_lex_reader_take] at h ⊢; split at h <;> first | (cases h; rfl) | (cases h; done)
theorem ok_lex_reader_take (κ : Nat) (m : Int) : EOk Tryd.prog C (G m) 31 (sp_lex_reader_take.entry (fun (a0, a1, a2) => lex_reader_take κ a0 a1 a2)) :=
  Spec.ok sp_lex_reader_take_ok C_ok mixed (gam1_ok κ m) (cut := (ct_lex_reader_take_1 κ)) (NR := (gcN 1 [0])) (NP := (gcN 1 [0])) (nB := 1) Tryd.func31 (c := (getBody Tryd.f31)) (by kernel_rfl) (by kernel_rfl) (fun i => by kernel_rfl) gcN_ok gcN_ok (cuts_by (l := [(pieceOf (.cnd 26 6) (getBody Tryd.f31), cc_lex_reader_take_1 κ)]) (by kernel_rfl) (all_cons (cc_lex_reader_take_1_ok κ m) (all_nil))) (fun i => by kernel_rfl)
noncomputable def gam2 (κ : Nat) : Gam T := (gam1 κ).addS 31 sp_lex_reader_take (fun (a0, a1, a2) => lex_reader_take κ a0 a1 a2)
theorem gam2_ok (κ : Nat) (m : Int) : GOk Tryd.prog C (G m) (gam2 κ) := (gam1_ok κ m).addS (ok_lex_reader_take κ m)
def sp_lex_reader_fail : Spec T (ByteArray × Int × Int) (Int × Int × ByteArray × Int × Int) where
  dcI a H := match a, H with
    | [(.ptr 0 0)], [(.cells 44 none [(.v (.s a0)), (.v (.i .i64 a1)), (.v (.i .i64 a2))])] => some (a0, a1, a2)
    | _, _ => none
  ecA := fun (a0, a1, a2) => [(.ptr 0 0)]
  ecH := fun (a0, a1, a2) => [(.cells 44 none [(.v (.s a0)), (.v (.i .i64 a1)), (.v (.i .i64 a2))])]
  dcO o := match o with
    | .panic (.ifc 41 (.agg [(.v (.i .i64 a0)), (.v (.i .i64 a1))])) [(.cells 44 none [(.v (.s a2)), (.v (.i .i64 a3)), (.v (.i .i64 a4))])] => some (a0, a1, a2, a3, a4)
    | _ => none
  goO := fun _ (a0, a1, a2, a3, a4) k => k (.panic (.ifc 41 (.agg [(.v (.i .i64 a0)), (.v (.i .i64 a1))])) [(.cells 44 none [(.v (.s a2)), (.v (.i .i64 a3)), (.v (.i .i64 a4))])])
  ecO := fun (a0, a1, a2, a3, a4) => .panic (.ifc 41 (.agg [(.v (.i .i64 a0)), (.v (.i .i64 a1))])) [(.cells 44 none [(.v (.s a2)), (.v (.i .i64 a3)), (.v (.i .i64 a4))])]
theorem sp_lex_reader_fail_ok : SpecOk sp_lex_reader_fail := by
  refine ⟨fun a H i h => ?_, fun o x h => ?_, fun R e k => by kernel_rfl⟩
  · simp only [sp_lex_reader_fail] at h ⊢; split at h <;> first | (cases h; exact ⟨rfl, rfl⟩) | (cases h; done)
  · simp only [sp_lex_reader_fail] at h ⊢; split at h <;> first | (cases h; rfl) | (cases h; done)
theorem ok_lex_reader_fail (κ : Nat) (m : Int) : EOk Tryd.prog C (G m) 35 (sp_lex_reader_fail.entry (fun (a0, a1, a2) => lex_reader_fail κ a0 a1 a2)) :=
  Spec.ok sp_lex_reader_fail_ok C_ok mixed (gam2_ok κ m) (cut := noCut) (NR := (gcN 1 [0])) (NP := (gcN 1 [0])) (nB := 1) Tryd.func35 (c := (getBody Tryd.f35)) (by kernel_rfl) (by kernel_rfl) (fun i => by kernel_rfl) gcN_ok gcN_ok (cuts_by (l := []) (by kernel_rfl) (all_nil)) (fun i => by kernel_rfl)
noncomputable def gam3 (κ : Nat) : Gam T := (gam2 κ).addS 35 sp_lex_reader_fail (fun (a0, a1, a2) => lex_reader_fail κ a0 a1 a2)
theorem gam3_ok (κ : Nat) (m : Int) : GOk Tryd.prog C (G m) (gam3 κ) := (gam2_ok κ m).addS (ok_lex_reader_fail κ m)
def sp_strings_Builder_String : Spec T (Unit) (ByteArray) where
  dcI a H := match a, H with
    | [(.ptr 0 0)], [(.cells 57 none [(.v .pn), .cap0])] => some ()
    | _, _ => none
  ecA := fun _ => [(.ptr 0 0)]
  ecH := fun _ => [(.cells 57 none [(.v .pn), .cap0])]
  dcO o := match o with
    | .ret (.v (.s a0)) [(.cells 57 none [(.v .pn), .cap0])] => some a0
    | _ => none
  goO := fun _ a0 k => k (.ret (.v (.s a0)) [(.cells 57 none [(.v .pn), .cap0])])
  ecO := fun a0 => .ret (.v (.s a0)) [(.cells 57 none [(.v .pn), .cap0])]
theorem sp_strings_Builder_String_ok : SpecOk sp_strings_Builder_String := by
  refine ⟨fun a H i h => ?_, fun o x h => ?_, fun R e k => by kernel_rfl⟩
  · simp only [sp_strings_Builder_String] at h ⊢; split at h <;> first | (cases h; exact ⟨rfl, rfl⟩) | (cases h; done)
  · simp only [sp_strings_Builder_String] at h ⊢; split at h <;> first | (cases h; rfl) | (cases h; done)
theorem ok_strings_Builder_String (κ : Nat) (m : Int) : EOk Tryd.prog C (G m) 27 (sp_strings_Builder_String.entry (fun _ => strings_Builder_String κ )) :=
  Spec.ok sp_strings_Builder_String_ok C_ok mixed (gam3_ok κ m) (cut := noCut) (NR := (gcN 1 [0])) (NP := (gcN 1 [0])) (nB := 1) Tryd.func27 (c := (getBody Tryd.f27)) (by kernel_rfl) (by kernel_rfl) (fun i => by kernel_rfl) gcN_ok gcN_ok (cuts_by (l := []) (by kernel_rfl) (all_nil)) (fun i => by kernel_rfl)
noncomputable def gam4 (κ : Nat) : Gam T := (gam3 κ).addS 27 sp_strings_Builder_String (fun _ => strings_Builder_String κ )
theorem gam4_ok (κ : Nat) (m : Int) : GOk Tryd.prog C (G m) (gam4 κ) := (gam3_ok κ m).addS (ok_strings_Builder_String κ m)
def p_strings_Builder_copyCheck_0 : Piece T (Bool) (Unit) where
  dcS env H ds := match env 0, env 6, H, ds with
    | (.ptr 0 0), (.v (.b a0)), [(.cells 57 none [(.v .pn), .cap0])], [] => some a0
    | _, _, _, _ => none
  slS := fun a0 => [(0, (.ptr 0 0)), (6, (.v (.b a0)))]
  obS := fun a0 => [(.cells 57 none [(.v .pn), .cap0])]
  dsS := fun a0 => []
  dcE x env H ds := match x, H, ds with
    | .normal, [(.cells 57 none [(.ptr 0 0), .cap0])], [] => some ()
    | _, _, _ => none
  exE := fun _ => .normal
  slE := fun _ => []
  obE := fun _ => [(.cells 57 none [(.ptr 0 0), .cap0])]
  dsE := fun _ => []
  goE := fun _ _ k => k .normal [] [(.cells 57 none [(.ptr 0 0), .cap0])] []
theorem p_strings_Builder_copyCheck_0_ok : PieceOk p_strings_Builder_copyCheck_0 := by
  refine ⟨fun env H ds s h => ?_, fun x env H ds e h => ?_, fun R e k => by kernel_rfl⟩
  · simp only [p_strings_Builder_copyCheck_0] at h ⊢; split at h <;> first | (cases h; simp only [List.forall_mem_cons]; simp_all; done) | (cases h; done)
  · simp only [p_strings_Builder_copyCheck_0] at h ⊢; split at h <;> first | (cases h; simp only [List.forall_mem_cons]; simp_all; done) | (cases h; done)
theorem p_strings_Builder_copyCheck_0_ct (κ : Nat) (m : Int) : CutOk Tryd.prog C (G m) Tryd.f38.ntmps 1 (pieceOf (.cnd 6 2) (getBody Tryd.f38)) (p_strings_Builder_copyCheck_0.cut (gcN 1 [0, 6]) (fun a0 => strings_Builder_copyCheck.v0 κ a0)) :=
  Piece.join p_strings_Builder_copyCheck_0_ok C_ok mixed (gam4_ok κ m) gcN_ok (xN_ok gcN_ok (ex_nil) gcN_ok gcN_ok) (cut := noCut) (X := (xN (gcN 1 []) [] (gcN 1 []) (gcN 1 [1000000]))) (cuts_by (l := []) (by kernel_rfl) (all_nil)) (fun s => by kernel_rfl)
def cc_strings_Builder_copyCheck_1 (κ : Nat) : Cut T := p_strings_Builder_copyCheck_0.cut (gcN 1 [0, 6]) (fun a0 => strings_Builder_copyCheck.v0 κ a0)
theorem cc_strings_Builder_copyCheck_1_ok (κ : Nat) (m : Int) : CutOk Tryd.prog C (G m) Tryd.f38.ntmps 1 (pieceOf (.cnd 6 2) (getBody Tryd.f38)) (cc_strings_Builder_copyCheck_1 κ) := p_strings_Builder_copyCheck_0_ct κ m
def ct_strings_Builder_copyCheck_1 (κ : Nat) : Key → Option (Cut T) := addCut noCut (.cnd 6 2) (cc_strings_Builder_copyCheck_1 κ)
def sp_strings_Builder_copyCheck : Spec T (Unit) (Unit) where
  dcI a H := match a, H with
    | [(.ptr 0 0)], [(.cells 57 none [(.v .pn), .cap0])] => some ()
    | _, _ => none
  ecA := fun _ => [(.ptr 0 0)]
  ecH := fun _ => [(.cells 57 none [(.v .pn), .cap0])]
  dcO o := match o with
    | .ret (.tup []) [(.cells 57 none [(.ptr 0 0), .cap0])] => some ()
    | _ => none
  goO := fun _ _ k => k (.ret (.tup []) [(.cells 57 none [(.ptr 0 0), .cap0])])
  ecO := fun _ => .ret (.tup []) [(.cells 57 none [(.ptr 0 0), .cap0])]
theorem sp_strings_Builder_copyCheck_ok : SpecOk sp_strings_Builder_copyCheck := by
  refine ⟨fun a H i h => ?_, fun o x h => ?_, fun R e k => by kernel_rfl⟩
  · simp only [sp_strings_Builder_copyCheck] at h ⊢; split at h <;> first | (cases h; exact ⟨rfl, rfl⟩) | (cases h; done)
  · simp only [sp_strings_Builder_copyCheck] at h ⊢; split at h <;> first | (cases h; rfl) | (cases h; done)
theorem ok_strings_Builder_copyCheck (κ : Nat) (m : Int) : EOk Tryd.prog C (G m) 38 (sp_strings_Builder_copyCheck.entry (fun _ => strings_Builder_copyCheck κ )) :=
  Spec.ok sp_strings_Builder_copyCheck_ok C_ok mixed (gam4_ok κ m) (cut := (ct_strings_Builder_copyCheck_1 κ)) (NR := (gcN 1 [0])) (NP := (gcN 1 [0])) (nB := 1) Tryd.func38 (c := (getBody Tryd.f38)) (by kernel_rfl) (by kernel_rfl) (fun i => by kernel_rfl) gcN_ok gcN_ok (cuts_by (l := [(pieceOf (.cnd 6 2) (getBody Tryd.f38), cc_strings_Builder_copyCheck_1 κ)]) (by kernel_rfl) (all_cons (cc_strings_Builder_copyCheck_1_ok κ m) (all_nil))) (fun i => by kernel_rfl)
noncomputable def gam5 (κ : Nat) : Gam T := (gam4 κ).addS 38 sp_strings_Builder_copyCheck (fun _ => strings_Builder_copyCheck κ )
theorem gam5_ok (κ : Nat) (m : Int) : GOk Tryd.prog C (G m) (gam5 κ) := (gam4_ok κ m).addS (ok_strings_Builder_copyCheck κ m)
def sp_strings_Builder_WriteString : Spec T (ByteArray) (Int × (List Int)) where
  dcI a H := match a, H with
    | [(.ptr 0 0), (.v (.s a0))], [(.cells 57 none [(.v .pn), .cap0])] => some a0
    | _, _ => none
  ecA := fun a0 => [(.ptr 0 0), (.v (.s a0))]
  ecH := fun a0 => [(.cells 57 none [(.v .pn), .cap0])]
  dcO o := match o with
    | .ret (.tup [(.v (.i .i64 a0)), (.v .if0)]) [(.cells 57 none [(.ptr 0 0), (.own 1)]), (.row 5 a1 true)] => some (a0, a1)
    | _ => none
  goO := fun _ (a0, a1) k => k (.ret (.tup [(.v (.i .i64 a0)), (.v .if0)]) [(.cells 57 none [(.ptr 0 0), (.own 1)]), (.row 5 a1 true)])
  ecO := fun (a0, a1) => .ret (.tup [(.v (.i .i64 a0)), (.v .if0)]) [(.cells 57 none [(.ptr 0 0), (.own 1)]), (.row 5 a1 true)]
theorem sp_strings_Builder_WriteString_ok : SpecOk sp_strings_Builder_WriteString := by
  refine ⟨fun a H i h => ?_, fun o x h => ?_, fun R e k => by kernel_rfl⟩
  · simp only [sp_strings_Builder_WriteString] at h ⊢; split at h <;> first | (cases h; exact ⟨rfl, rfl⟩) | (cases h; done)
  · simp only [sp_strings_Builder_WriteString] at h ⊢; split at h <;> first | (cases h; rfl) | (cases h; done)
theorem ok_strings_Builder_WriteString (κ : Nat) (m : Int) : EOk Tryd.prog C (G m) 25 (sp_strings_Builder_WriteString.entry (fun a0 => strings_Builder_WriteString κ a0)) :=
  Spec.ok sp_strings_Builder_WriteString_ok C_ok mixed (gam5_ok κ m) (cut := noCut) (NR := (gcN 1 [0])) (NP := (gcN 1 [0])) (nB := 1) Tryd.func25 (c := (getBody Tryd.f25)) (by kernel_rfl) (by kernel_rfl) (fun i => by kernel_rfl) gcN_ok gcN_ok (cuts_by (l := []) (by kernel_rfl) (all_nil)) (fun i => by kernel_rfl)
noncomputable def gam6 (κ : Nat) : Gam T := (gam5 κ).addS 25 sp_strings_Builder_WriteString (fun a0 => strings_Builder_WriteString κ a0)
theorem gam6_ok (κ : Nat) (m : Int) : GOk Tryd.prog C (G m) (gam6 κ) := (gam5_ok κ m).addS (ok_strings_Builder_WriteString κ m)
def p_lex_reader_digit_0 : Piece T (Int × ByteArray × Int × Int) (Int × Bool × ByteArray × Int × Int) where
  dcS env H ds := match env 0, env 3, H, ds with
    | (.ptr 0 0), (.v (.i .i64 a0)), [(.cells 44 none [(.v (.s a1)), (.v (.i .i64 a2)), (.v (.i .i64 a3))])], [] => some (a0, a1, a2, a3)
    | _, _, _, _ => none
  slS := fun (a0, a1, a2, a3) => [(0, (.ptr 0 0)), (3, (.v (.i .i64 a0)))]
  obS := fun (a0, a1, a2, a3) => [(.cells 44 none [(.v (.s a1)), (.v (.i .i64 a2)), (.v (.i .i64 a3))])]
  dsS := fun (a0, a1, a2, a3) => []
  dcE x env H ds := match x, env 0, env 3, env 21, H, ds with
    | .normal, (.ptr 0 0), (.v (.i .i64 a0)), (.v (.b a1)), [(.cells 44 none [(.v (.s a2)), (.v (.i .i64 a3)), (.v (.i .i64 a4))])], [] => some (a0, a1, a2, a3, a4)
    | _, _, _, _, _, _ => none
  exE := fun (a0, a1, a2, a3, a4) => .normal
  slE := fun (a0, a1, a2, a3, a4) => [(0, (.ptr 0 0)), (3, (.v (.i .i64 a0))), (21, (.v (.b a1)))]
  obE := fun (a0, a1, a2, a3, a4) => [(.cells 44 none [(.v (.s a2)), (.v (.i .i64 a3)), (.v (.i .i64 a4))])]
  dsE := fun (a0, a1, a2, a3, a4) => []
  goE := fun _ (a0, a1, a2, a3, a4) k => k .normal [(0, (.ptr 0 0)), (3, (.v (.i .i64 a0))), (21, (.v (.b a1)))] [(.cells 44 none [(.v (.s a2)), (.v (.i .i64 a3)), (.v (.i .i64 a4))])] []
theorem p_lex_reader_digit_0_ok : PieceOk p_lex_reader_digit_0 := by
  refine ⟨fun env H ds s h => ?_, fun x env H ds e h => ?_, fun R e k => by kernel_rfl⟩
  · simp only [p_lex_reader_digit_0] at h ⊢; split at h <;> first | (cases h; simp only [List.forall_mem_cons]; simp_all; done) | (cases h; done)
  · simp only [p_lex_reader_digit_0] at h ⊢; split at h <;> first | (cases h; simp only [List.forall_mem_cons]; simp_all; done) | (cases h; done)
theorem p_lex_reader_digit_0_ct (κ : Nat) (m : Int) : CutOk Tryd.prog C (G m) Tryd.f64.ntmps 1 (pieceOf (.reg 2) (getBody Tryd.f64)) (p_lex_reader_digit_0.cut (gcN 1 [0, 3]) (fun (a0, a1, a2, a3) => lex_reader_digit.v0 κ a0 a1 a2 a3)) :=
  Piece.join p_lex_reader_digit_0_ok C_ok mixed (gam6_ok κ m) gcN_ok (xN_ok gcN_ok (ex_nil) gcN_ok gcN_ok) (cut := noCut) (X := (xN (gcN 1 [0, 3, 21]) [] (gcN 1 [2]) (gcN 1 [1000000]))) (cuts_by (l := []) (by kernel_rfl) (all_nil)) (fun s => by kernel_rfl)
def cc_lex_reader_digit_1 (κ : Nat) : Cut T := p_lex_reader_digit_0.cut (gcN 1 [0, 3]) (fun (a0, a1, a2, a3) => lex_reader_digit.v0 κ a0 a1 a2 a3)
theorem cc_lex_reader_digit_1_ok (κ : Nat) (m : Int) : CutOk Tryd.prog C (G m) Tryd.f64.ntmps 1 (pieceOf (.reg 2) (getBody Tryd.f64)) (cc_lex_reader_digit_1 κ) := p_lex_reader_digit_0_ct κ m
def ct_lex_reader_digit_1 (κ : Nat) : Key → Option (Cut T) := addCut noCut (.reg 2) (cc_lex_reader_digit_1 κ)
def p_lex_reader_digit_2 : Piece T (Int × Bool × ByteArray × Int × Int) ((Int × ByteArray × Int × Int) ⊕ (Int × Int × ByteArray × Int × Int)) where
  dcS env H ds := match env 0, env 3, env 21, H, ds with
    | (.ptr 0 0), (.v (.i .i64 a0)), (.v (.b a1)), [(.cells 44 none [(.v (.s a2)), (.v (.i .i64 a3)), (.v (.i .i64 a4))])], [] => some (a0, a1, a2, a3, a4)
    | _, _, _, _, _ => none
  slS := fun (a0, a1, a2, a3, a4) => [(0, (.ptr 0 0)), (3, (.v (.i .i64 a0))), (21, (.v (.b a1)))]
  obS := fun (a0, a1, a2, a3, a4) => [(.cells 44 none [(.v (.s a2)), (.v (.i .i64 a3)), (.v (.i .i64 a4))])]
  dsS := fun (a0, a1, a2, a3, a4) => []
  dcE x env H ds := match x, env 0, env 3, H, ds with
    | .normal, (.ptr 0 0), (.v (.i .i64 a0)), [(.cells 44 none [(.v (.s a1)), (.v (.i .i64 a2)), (.v (.i .i64 a3))])], [] => some (.inl (a0, a1, a2, a3))
    | (.pan (.ifc 41 (.agg [(.v (.i .i64 a0)), (.v (.i .i64 a1))]))), _, _, [(.cells 44 none [(.v (.s a2)), (.v (.i .i64 a3)), (.v (.i .i64 a4))])], [] => some (.inr (a0, a1, a2, a3, a4))
    | _, _, _, _, _ => none
  exE := fun x => match x with
    | (.inl (a0, a1, a2, a3)) => .normal
    | (.inr (a0, a1, a2, a3, a4)) => (.pan (.ifc 41 (.agg [(.v (.i .i64 a0)), (.v (.i .i64 a1))])))
  slE := fun x => match x with
    | (.inl (a0, a1, a2, a3)) => [(0, (.ptr 0 0)), (3, (.v (.i .i64 a0)))]
    | (.inr (a0, a1, a2, a3, a4)) => []
  obE := fun x => match x with
    | (.inl (a0, a1, a2, a3)) => [(.cells 44 none [(.v (.s a1)), (.v (.i .i64 a2)), (.v (.i .i64 a3))])]
    | (.inr (a0, a1, a2, a3, a4)) => [(.cells 44 none [(.v (.s a2)), (.v (.i .i64 a3)), (.v (.i .i64 a4))])]
  dsE := fun x => match x with
    | (.inl (a0, a1, a2, a3)) => []
    | (.inr (a0, a1, a2, a3, a4)) => []
  goE := fun _ x k => match x with
    | (.inl (a0, a1, a2, a3)) => k .normal [(0, (.ptr 0 0)), (3, (.v (.i .i64 a0)))] [(.cells 44 none [(.v (.s a1)), (.v (.i .i64 a2)), (.v (.i .i64 a3))])] []
    | (.inr (a0, a1, a2, a3, a4)) => k (.pan (.ifc 41 (.agg [(.v (.i .i64 a0)), (.v (.i .i64 a1))]))) [] [(.cells 44 none [(.v (.s a2)), (.v (.i .i64 a3)), (.v (.i .i64 a4))])] []
theorem p_lex_reader_digit_2_ok : PieceOk p_lex_reader_digit_2 := by
  refine ⟨fun env H ds s h => ?_, fun x env H ds e h => ?_, fun R e k => by rcases e with e | e <;> kernel_rfl⟩
  · simp only [p_lex_reader_digit_2] at h ⊢; split at h <;> first | (cases h; simp only [List.forall_mem_cons]; simp_all; done) | (cases h; done)
  · simp only [p_lex_reader_digit_2] at h ⊢; split at h <;> first | (cases h; simp only [List.forall_mem_cons]; simp_all; done) | (cases h; done)
theorem p_lex_reader_digit_2_ct (κ : Nat) (m : Int) : CutOk Tryd.prog C (G m) Tryd.f64.ntmps 1 (pieceOf (.cnd 21 4) (getBody Tryd.f64)) (p_lex_reader_digit_2.cut (gcN 1 [0, 3, 21]) (fun (a0, a1, a2, a3, a4) => lex_reader_digit.v2 κ a0 a1 a2 a3 a4)) :=
  Piece.join p_lex_reader_digit_2_ok C_ok mixed (gam6_ok κ m) gcN_ok (xN_ok gcN_ok (ex_nil) gcN_ok gcN_ok) (cut := (ct_lex_reader_digit_1 κ)) (X := (xN (gcN 1 [0, 3]) [] (gcN 1 [2]) (gcN 1 [1000000]))) (cuts_by (l := []) (by kernel_rfl) (all_nil)) (fun s => by kernel_rfl)
def cc_lex_reader_digit_3 (κ : Nat) : Cut T := p_lex_reader_digit_2.cut (gcN 1 [0, 3, 21]) (fun (a0, a1, a2, a3, a4) => lex_reader_digit.v2 κ a0 a1 a2 a3 a4)
theorem cc_lex_reader_digit_3_ok (κ : Nat) (m : Int) : CutOk Tryd.prog C (G m) Tryd.f64.ntmps 1 (pieceOf (.cnd 21 4) (getBody Tryd.f64)) (cc_lex_reader_digit_3 κ) := p_lex_reader_digit_2_ct κ m
def ct_lex_reader_digit_3 (κ : Nat) : Key → Option (Cut T) := addCut (ct_lex_reader_digit_1 κ) (.cnd 21 4) (cc_lex_reader_digit_3 κ)
def sp_lex_reader_digit : Spec T (ByteArray × Int × Int) ((Int × ByteArray × Int × Int) ⊕ (Int × Int × ByteArray × Int × Int)) where
  dcI a H := match a, H with
    | [(.ptr 0 0)], [(.cells 44 none [(.v (.s a0)), (.v (.i .i64 a1)), (.v (.i .i64 a2))])] => some (a0, a1, a2)
    | _, _ => none
  ecA := fun (a0, a1, a2) => [(.ptr 0 0)]
  ecH := fun (a0, a1, a2) => [(.cells 44 none [(.v (.s a0)), (.v (.i .i64 a1)), (.v (.i .i64 a2))])]
  dcO o := match o with
    | .ret (.v (.i .u8 a0)) [(.cells 44 none [(.v (.s a1)), (.v (.i .i64 a2)), (.v (.i .i64 a3))])] => some (.inl (a0, a1, a2, a3))
    | .panic (.ifc 41 (.agg [(.v (.i .i64 a0)), (.v (.i .i64 a1))])) [(.cells 44 none [(.v (.s a2)), (.v (.i .i64 a3)), (.v (.i .i64 a4))])] => some (.inr (a0, a1, a2, a3, a4))
    | _ => none
  goO := fun _ x k => match x with
    | (.inl (a0, a1, a2, a3)) => k (.ret (.v (.i .u8 a0)) [(.cells 44 none [(.v (.s a1)), (.v (.i .i64 a2)), (.v (.i .i64 a3))])])
    | (.inr (a0, a1, a2, a3, a4)) => k (.panic (.ifc 41 (.agg [(.v (.i .i64 a0)), (.v (.i .i64 a1))])) [(.cells 44 none [(.v (.s a2)), (.v (.i .i64 a3)), (.v (.i .i64 a4))])])
  ecO := fun x => match x with
    | (.inl (a0, a1, a2, a3)) => .ret (.v (.i .u8 a0)) [(.cells 44 none [(.v (.s a1)), (.v (.i .i64 a2)), (.v (.i .i64 a3))])]
    | (.inr (a0, a1, a2, a3, a4)) => .panic (.ifc 41 (.agg [(.v (.i .i64 a0)), (.v (.i .i64 a1))])) [(.cells 44 none [(.v (.s a2)), (.v (.i .i64 a3)), (.v (.i .i64 a4))])]
theorem sp_lex_reader_digit_ok : SpecOk sp_lex_reader_digit := by
  refine ⟨fun a H i h => ?_, fun o x h => ?_, fun R e k => by rcases e with e | e <;> kernel_rfl⟩
  · simp only [sp_lex_reader_digit] at h ⊢; split at h <;> first | (cases h; exact ⟨rfl, rfl⟩) | (cases h; done)
  · simp only [sp_lex_reader_digit] at h ⊢; split at h <;> first | (cases h; rfl) | (cases h; done)
theorem ok_lex_reader_digit (κ : Nat) (m : Int) : EOk Tryd.prog C (G m) 64 (sp_lex_reader_digit.entry (fun (a0, a1, a2) => lex_reader_digit κ a0 a1 a2)) :=
  Spec.ok sp_lex_reader_digit_ok C_ok mixed (gam6_ok κ m) (cut := (ct_lex_reader_digit_3 κ)) (NR := (gcN 1 [0])) (NP := (gcN 1 [0])) (nB := 1) Tryd.func64 (c := (getBody Tryd.f64)) (by kernel_rfl) (by kernel_rfl) (fun i => by kernel_rfl) gcN_ok gcN_ok (cuts_by (l := [(pieceOf (.reg 2) (getBody Tryd.f64), cc_lex_reader_digit_1 κ), (pieceOf (.cnd 21 4) (getBody Tryd.f64), cc_lex_reader_digit_3 κ)]) (by kernel_rfl) (all_cons (cc_lex_reader_digit_1_ok κ m) (all_cons (cc_lex_reader_digit_3_ok κ m) (all_nil)))) (fun i => by kernel_rfl)
noncomputable def gam7 (κ : Nat) : Gam T := (gam6 κ).addS 64 sp_lex_reader_digit (fun (a0, a1, a2) => lex_reader_digit κ a0 a1 a2)
theorem gam7_ok (κ : Nat) (m : Int) : GOk Tryd.prog C (G m) (gam7 κ) := (gam6_ok κ m).addS (ok_lex_reader_digit κ m)
def p_lex_reader_escape_0 : Piece T (ByteArray × Int × ByteArray × Int × Int) (Int × Bool × ByteArray × Int × Int) where
  dcS env H ds := match env 0, env 3, env 5, H, ds with
    | (.ptr 0 0), (.v (.s a0)), (.v (.i .i64 a1)), [(.cells 44 none [(.v (.s a2)), (.v (.i .i64 a3)), (.v (.i .i64 a4))])], [] => some (a0, a1, a2, a3, a4)
    | _, _, _, _, _ => none
  slS := fun (a0, a1, a2, a3, a4) => [(0, (.ptr 0 0)), (3, (.v (.s a0))), (5, (.v (.i .i64 a1)))]
  obS := fun (a0, a1, a2, a3, a4) => [(.cells 44 none [(.v (.s a2)), (.v (.i .i64 a3)), (.v (.i .i64 a4))])]
  dsS := fun (a0, a1, a2, a3, a4) => []
  dcE x env H ds := match x, env 0, env 5, env 28, H, ds with
    | .normal, (.ptr 0 0), (.v (.i .i64 a0)), (.v (.b a1)), [(.cells 44 none [(.v (.s a2)), (.v (.i .i64 a3)), (.v (.i .i64 a4))])], [] => some (a0, a1, a2, a3, a4)
    | _, _, _, _, _, _ => none
  exE := fun (a0, a1, a2, a3, a4) => .normal
  slE := fun (a0, a1, a2, a3, a4) => [(0, (.ptr 0 0)), (5, (.v (.i .i64 a0))), (28, (.v (.b a1)))]
  obE := fun (a0, a1, a2, a3, a4) => [(.cells 44 none [(.v (.s a2)), (.v (.i .i64 a3)), (.v (.i .i64 a4))])]
  dsE := fun (a0, a1, a2, a3, a4) => []
  goE := fun _ (a0, a1, a2, a3, a4) k => k .normal [(0, (.ptr 0 0)), (5, (.v (.i .i64 a0))), (28, (.v (.b a1)))] [(.cells 44 none [(.v (.s a2)), (.v (.i .i64 a3)), (.v (.i .i64 a4))])] []
theorem p_lex_reader_escape_0_ok : PieceOk p_lex_reader_escape_0 := by
  refine ⟨fun env H ds s h => ?_, fun x env H ds e h => ?_, fun R e k => by kernel_rfl⟩
  · simp only [p_lex_reader_escape_0] at h ⊢; split at h <;> first | (cases h; simp only [List.forall_mem_cons]; simp_all; done) | (cases h; done)
  · simp only [p_lex_reader_escape_0] at h ⊢; split at h <;> first | (cases h; simp only [List.forall_mem_cons]; simp_all; done) | (cases h; done)
theorem p_lex_reader_escape_0_ct (κ : Nat) (m : Int) : CutOk Tryd.prog C (G m) Tryd.f54.ntmps 1 (pieceOf (.reg 7) (getBody Tryd.f54)) (p_lex_reader_escape_0.cut (gcN 1 [0, 3, 5]) (fun (a0, a1, a2, a3, a4) => lex_reader_escape.v0 κ a0 a1 a2 a3 a4)) :=
  Piece.join p_lex_reader_escape_0_ok C_ok mixed (gam7_ok κ m) gcN_ok (xN_ok gcN_ok (ex_nil) gcN_ok gcN_ok) (cut := noCut) (X := (xN (gcN 1 [0, 5, 28]) [] (gcN 1 [2]) (gcN 1 [1000000]))) (cuts_by (l := []) (by kernel_rfl) (all_nil)) (fun s => by kernel_rfl)
def cc_lex_reader_escape_1 (κ : Nat) : Cut T := p_lex_reader_escape_0.cut (gcN 1 [0, 3, 5]) (fun (a0, a1, a2, a3, a4) => lex_reader_escape.v0 κ a0 a1 a2 a3 a4)
theorem cc_lex_reader_escape_1_ok (κ : Nat) (m : Int) : CutOk Tryd.prog C (G m) Tryd.f54.ntmps 1 (pieceOf (.reg 7) (getBody Tryd.f54)) (cc_lex_reader_escape_1 κ) := p_lex_reader_escape_0_ct κ m
def ct_lex_reader_escape_1 (κ : Nat) : Key → Option (Cut T) := addCut noCut (.reg 7) (cc_lex_reader_escape_1 κ)
def p_lex_reader_escape_2 : Piece T (Int × Bool × ByteArray × Int × Int) ((Int × ByteArray × Int × Int) ⊕ (Int × Int × ByteArray × Int × Int)) where
  dcS env H ds := match env 0, env 5, env 28, H, ds with
    | (.ptr 0 0), (.v (.i .i64 a0)), (.v (.b a1)), [(.cells 44 none [(.v (.s a2)), (.v (.i .i64 a3)), (.v (.i .i64 a4))])], [] => some (a0, a1, a2, a3, a4)
    | _, _, _, _, _ => none
  slS := fun (a0, a1, a2, a3, a4) => [(0, (.ptr 0 0)), (5, (.v (.i .i64 a0))), (28, (.v (.b a1)))]
  obS := fun (a0, a1, a2, a3, a4) => [(.cells 44 none [(.v (.s a2)), (.v (.i .i64 a3)), (.v (.i .i64 a4))])]
  dsS := fun (a0, a1, a2, a3, a4) => []
  dcE x env H ds := match x, env 0, env 5, H, ds with
    | .normal, (.ptr 0 0), (.v (.i .i64 a0)), [(.cells 44 none [(.v (.s a1)), (.v (.i .i64 a2)), (.v (.i .i64 a3))])], [] => some (.inl (a0, a1, a2, a3))
    | (.pan (.ifc 41 (.agg [(.v (.i .i64 a0)), (.v (.i .i64 a1))]))), _, _, [(.cells 44 none [(.v (.s a2)), (.v (.i .i64 a3)), (.v (.i .i64 a4))])], [] => some (.inr (a0, a1, a2, a3, a4))
    | _, _, _, _, _ => none
  exE := fun x => match x with
    | (.inl (a0, a1, a2, a3)) => .normal
    | (.inr (a0, a1, a2, a3, a4)) => (.pan (.ifc 41 (.agg [(.v (.i .i64 a0)), (.v (.i .i64 a1))])))
  slE := fun x => match x with
    | (.inl (a0, a1, a2, a3)) => [(0, (.ptr 0 0)), (5, (.v (.i .i64 a0)))]
    | (.inr (a0, a1, a2, a3, a4)) => []
  obE := fun x => match x with
    | (.inl (a0, a1, a2, a3)) => [(.cells 44 none [(.v (.s a1)), (.v (.i .i64 a2)), (.v (.i .i64 a3))])]
    | (.inr (a0, a1, a2, a3, a4)) => [(.cells 44 none [(.v (.s a2)), (.v (.i .i64 a3)), (.v (.i .i64 a4))])]
  dsE := fun x => match x with
    | (.inl (a0, a1, a2, a3)) => []
    | (.inr (a0, a1, a2, a3, a4)) => []
  goE := fun _ x k => match x with
    | (.inl (a0, a1, a2, a3)) => k .normal [(0, (.ptr 0 0)), (5, (.v (.i .i64 a0)))] [(.cells 44 none [(.v (.s a1)), (.v (.i .i64 a2)), (.v (.i .i64 a3))])] []
    | (.inr (a0, a1, a2, a3, a4)) => k (.pan (.ifc 41 (.agg [(.v (.i .i64 a0)), (.v (.i .i64 a1))]))) [] [(.cells 44 none [(.v (.s a2)), (.v (.i .i64 a3)), (.v (.i .i64 a4))])] []
theorem p_lex_reader_escape_2_ok : PieceOk p_lex_reader_escape_2 := by
  refine ⟨fun env H ds s h => ?_, fun x env H ds e h => ?_, fun R e k => by rcases e with e | e <;> kernel_rfl⟩
  · simp only [p_lex_reader_escape_2] at h ⊢; split at h <;> first | (cases h; simp only [List.forall_mem_cons]; simp_all; done) | (cases h; done)
  · simp only [p_lex_reader_escape_2] at h ⊢; split at h <;> first | (cases h; simp only [List.forall_mem_cons]; simp_all; done) | (cases h; done)
theorem p_lex_reader_escape_2_ct (κ : Nat) (m : Int) : CutOk Tryd.prog C (G m) Tryd.f54.ntmps 1 (pieceOf (.cnd 28 9) (getBody Tryd.f54)) (p_lex_reader_escape_2.cut (gcN 1 [0, 5, 28]) (fun (a0, a1, a2, a3, a4) => lex_reader_escape.v2 κ a0 a1 a2 a3 a4)) :=
  Piece.join p_lex_reader_escape_2_ok C_ok mixed (gam7_ok κ m) gcN_ok (xN_ok gcN_ok (ex_nil) gcN_ok gcN_ok) (cut := (ct_lex_reader_escape_1 κ)) (X := (xN (gcN 1 [0, 5]) [] (gcN 1 [2]) (gcN 1 [1000000]))) (cuts_by (l := []) (by kernel_rfl) (all_nil)) (fun s => by kernel_rfl)
def cc_lex_reader_escape_3 (κ : Nat) : Cut T := p_lex_reader_escape_2.cut (gcN 1 [0, 5, 28]) (fun (a0, a1, a2, a3, a4) => lex_reader_escape.v2 κ a0 a1 a2 a3 a4)
theorem cc_lex_reader_escape_3_ok (κ : Nat) (m : Int) : CutOk Tryd.prog C (G m) Tryd.f54.ntmps 1 (pieceOf (.cnd 28 9) (getBody Tryd.f54)) (cc_lex_reader_escape_3 κ) := p_lex_reader_escape_2_ct κ m
def ct_lex_reader_escape_3 (κ : Nat) : Key → Option (Cut T) := addCut (ct_lex_reader_escape_1 κ) (.cnd 28 9) (cc_lex_reader_escape_3 κ)
def sp_lex_reader_escape : Spec T (ByteArray × Int × Int) ((ByteArray × ByteArray × Int × Int) ⊕ (Int × Int × ByteArray × Int × Int)) where
  dcI a H := match a, H with
    | [(.ptr 0 0)], [(.cells 44 none [(.v (.s a0)), (.v (.i .i64 a1)), (.v (.i .i64 a2))])] => some (a0, a1, a2)
    | _, _ => none
  ecA := fun (a0, a1, a2) => [(.ptr 0 0)]
  ecH := fun (a0, a1, a2) => [(.cells 44 none [(.v (.s a0)), (.v (.i .i64 a1)), (.v (.i .i64 a2))])]
  dcO o := match o with
    | .ret (.v (.s a0)) [(.cells 44 none [(.v (.s a1)), (.v (.i .i64 a2)), (.v (.i .i64 a3))])] => some (.inl (a0, a1, a2, a3))
    | .panic (.ifc 41 (.agg [(.v (.i .i64 a0)), (.v (.i .i64 a1))])) [(.cells 44 none [(.v (.s a2)), (.v (.i .i64 a3)), (.v (.i .i64 a4))])] => some (.inr (a0, a1, a2, a3, a4))
    | _ => none
  goO := fun _ x k => match x with
    | (.inl (a0, a1, a2, a3)) => k (.ret (.v (.s a0)) [(.cells 44 none [(.v (.s a1)), (.v (.i .i64 a2)), (.v (.i .i64 a3))])])
    | (.inr (a0, a1, a2, a3, a4)) => k (.panic (.ifc 41 (.agg [(.v (.i .i64 a0)), (.v (.i .i64 a1))])) [(.cells 44 none [(.v (.s a2)), (.v (.i .i64 a3)), (.v (.i .i64 a4))])])
  ecO := fun x => match x with
    | (.inl (a0, a1, a2, a3)) => .ret (.v (.s a0)) [(.cells 44 none [(.v (.s a1)), (.v (.i .i64 a2)), (.v (.i .i64 a3))])]
    | (.inr (a0, a1, a2, a3, a4)) => .panic (.ifc 41 (.agg [(.v (.i .i64 a0)), (.v (.i .i64 a1))])) [(.cells 44 none [(.v (.s a2)), (.v (.i .i64 a3)), (.v (.i .i64 a4))])]
theorem sp_lex_reader_escape_ok : SpecOk sp_lex_reader_escape := by
  refine ⟨fun a H i h => ?_, fun o x h => ?_, fun R e k => by rcases e with e | e <;> kernel_rfl⟩
  · simp only [sp_lex_reader_escape] at h ⊢; split at h <;> first | (cases h; exact ⟨rfl, rfl⟩) | (cases h; done)
  · simp only [sp_lex_reader_escape] at h ⊢; split at h <;> first | (cases h; rfl) | (cases h; done)
theorem ok_lex_reader_escape (κ : Nat) (m : Int) : EOk Tryd.prog C (G m) 54 (sp_lex_reader_escape.entry (fun (a0, a1, a2) => lex_reader_escape κ a0 a1 a2)) :=
  Spec.ok sp_lex_reader_escape_ok C_ok mixed (gam7_ok κ m) (cut := (ct_lex_reader_escape_3 κ)) (NR := (gcN 1 [0])) (NP := (gcN 1 [0])) (nB := 1) Tryd.func54 (c := (getBody Tryd.f54)) (by kernel_rfl) (by kernel_rfl) (fun i => by kernel_rfl) gcN_ok gcN_ok (cuts_by (l := [(pieceOf (.reg 7) (getBody Tryd.f54), cc_lex_reader_escape_1 κ), (pieceOf (.cnd 28 9) (getBody Tryd.f54), cc_lex_reader_escape_3 κ)]) (by kernel_rfl) (all_cons (cc_lex_reader_escape_1_ok κ m) (all_cons (cc_lex_reader_escape_3_ok κ m) (all_nil)))) (fun i => by kernel_rfl)
noncomputable def gam8 (κ : Nat) : Gam T := (gam7 κ).addS 54 sp_lex_reader_escape (fun (a0, a1, a2) => lex_reader_escape κ a0 a1 a2)
theorem gam8_ok (κ : Nat) (m : Int) : GOk Tryd.prog C (G m) (gam8 κ) := (gam7_ok κ m).addS (ok_lex_reader_escape κ m)
def sp_strings_Builder_String_2 : Spec T ((List Int)) (ByteArray) where
  dcI a H := match a, H with
    | [(.ptr 0 0)], [(.cells 57 none [(.v .pn), (.own 1)]), (.row 5 a0 true)] => some a0
    | _, _ => none
  ecA := fun a0 => [(.ptr 0 0)]
  ecH := fun a0 => [(.cells 57 none [(.v .pn), (.own 1)]), (.row 5 a0 true)]
  dcO o := match o with
    | .ret (.v (.s a0)) [(.cells 57 none [(.v .pn), .any]), .dead] => some a0
    | _ => none
  goO := fun _ a0 k => k (.ret (.v (.s a0)) [(.cells 57 none [(.v .pn), .any]), .dead])
  ecO := fun a0 => .ret (.v (.s a0)) [(.cells 57 none [(.v .pn), .any]), .dead]
theorem sp_strings_Builder_String_2_ok : SpecOk sp_strings_Builder_String_2 := by
  refine ⟨fun a H i h => ?_, fun o x h => ?_, fun R e k => by kernel_rfl⟩
  · simp only [sp_strings_Builder_String_2] at h ⊢; split at h <;> first | (cases h; exact ⟨rfl, rfl⟩) | (cases h; done)
  · simp only [sp_strings_Builder_String_2] at h ⊢; split at h <;> first | (cases h; rfl) | (cases h; done)
theorem ok_strings_Builder_String_2 (κ : Nat) (m : Int) : EOk Tryd.prog C (G m) 27 (sp_strings_Builder_String_2.entry (fun a0 => strings_Builder_String_2 κ a0)) :=
  Spec.ok sp_strings_Builder_String_2_ok C_ok mixed (gam8_ok κ m) (cut := noCut) (NR := (gcN 2 [0])) (NP := (gcN 2 [0])) (nB := 2) Tryd.func27 (c := (getBody Tryd.f27)) (by kernel_rfl) (by kernel_rfl) (fun i => by kernel_rfl) gcN_ok gcN_ok (cuts_by (l := []) (by kernel_rfl) (all_nil)) (fun i => by kernel_rfl)
noncomputable def gam9 (κ : Nat) : Gam T := (gam8 κ).addS 27 sp_strings_Builder_String_2 (fun a0 => strings_Builder_String_2 κ a0)
theorem gam9_ok (κ : Nat) (m : Int) : GOk Tryd.prog C (G m) (gam9 κ) := (gam8_ok κ m).addS (ok_strings_Builder_String_2 κ m)
def p_strings_Builder_copyCheck_2_0 : Piece T (Bool × (List Int)) ((List Int)) where
  dcS env H ds := match env 0, env 6, H, ds with
    | (.ptr 0 0), (.v (.b a0)), [(.cells 57 none [(.v .pn), (.own 1)]), (.row 5 a1 true)], [] => some (a0, a1)
    | _, _, _, _ => none
  slS := fun (a0, a1) => [(0, (.ptr 0 0)), (6, (.v (.b a0)))]
  obS := fun (a0, a1) => [(.cells 57 none [(.v .pn), (.own 1)]), (.row 5 a1 true)]
  dsS := fun (a0, a1) => []
  dcE x env H ds := match x, H, ds with
    | .normal, [(.cells 57 none [(.ptr 0 0), (.own 1)]), (.row 5 a0 true)], [] => some a0
    | _, _, _ => none
  exE := fun a0 => .normal
  slE := fun a0 => []
  obE := fun a0 => [(.cells 57 none [(.ptr 0 0), (.own 1)]), (.row 5 a0 true)]
  dsE := fun a0 => []
  goE := fun _ a0 k => k .normal [] [(.cells 57 none [(.ptr 0 0), (.own 1)]), (.row 5 a0 true)] []
theorem p_strings_Builder_copyCheck_2_0_ok : PieceOk p_strings_Builder_copyCheck_2_0 := by
  refine ⟨fun env H ds s h => ?_, fun x env H ds e h => ?_, fun R e k => by kernel_rfl⟩
  · simp only [p_strings_Builder_copyCheck_2_0] at h ⊢; split at h <;> first | (cases h; simp only [List.forall_mem_cons]; simp_all; done) | (cases h; done)
  · simp only [p_strings_Builder_copyCheck_2_0] at h ⊢; split at h <;> first | (cases h; simp only [List.forall_mem_cons]; simp_all; done) | (cases h; done)
theorem p_strings_Builder_copyCheck_2_0_ct (κ : Nat) (m : Int) : CutOk Tryd.prog C (G m) Tryd.f38.ntmps 2 (pieceOf (.cnd 6 2) (getBody Tryd.f38)) (p_strings_Builder_copyCheck_2_0.cut (gcN 2 [0, 6]) (fun (a0, a1) => strings_Builder_copyCheck_2.v0 κ a0 a1)) :=
  Piece.join p_strings_Builder_copyCheck_2_0_ok C_ok mixed (gam9_ok κ m) gcN_ok (xN_ok gcN_ok (ex_nil) gcN_ok gcN_ok) (cut := noCut) (X := (xN (gcN 2 []) [] (gcN 2 []) (gcN 2 [1000000]))) (cuts_by (l := []) (by kernel_rfl) (all_nil)) (fun s => by kernel_rfl)
def cc_strings_Builder_copyCheck_2_1 (κ : Nat) : Cut T := p_strings_Builder_copyCheck_2_0.cut (gcN 2 [0, 6]) (fun (a0, a1) => strings_Builder_copyCheck_2.v0 κ a0 a1)
theorem cc_strings_Builder_copyCheck_2_1_ok (κ : Nat) (m : Int) : CutOk Tryd.prog C (G m) Tryd.f38.ntmps 2 (pieceOf (.cnd 6 2) (getBody Tryd.f38)) (cc_strings_Builder_copyCheck_2_1 κ) := p_strings_Builder_copyCheck_2_0_ct κ m
def ct_strings_Builder_copyCheck_2_1 (κ : Nat) : Key → Option (Cut T) := addCut noCut (.cnd 6 2) (cc_strings_Builder_copyCheck_2_1 κ)
def sp_strings_Builder_copyCheck_2 : Spec T ((List Int)) ((List Int)) where
  dcI a H := match a, H with
    | [(.ptr 0 0)], [(.cells 57 none [(.v .pn), (.own 1)]), (.row 5 a0 true)] => some a0
    | _, _ => none
  ecA := fun a0 => [(.ptr 0 0)]
  ecH := fun a0 => [(.cells 57 none [(.v .pn), (.own 1)]), (.row 5 a0 true)]
  dcO o := match o with
    | .ret (.tup []) [(.cells 57 none [(.ptr 0 0), (.own 1)]), (.row 5 a0 true)] => some a0
    | _ => none
  goO := fun _ a0 k => k (.ret (.tup []) [(.cells 57 none [(.ptr 0 0), (.own 1)]), (.row 5 a0 true)])
  ecO := fun a0 => .ret (.tup []) [(.cells 57 none [(.ptr 0 0), (.own 1)]), (.row 5 a0 true)]
theorem sp_strings_Builder_copyCheck_2_ok : SpecOk sp_strings_Builder_copyCheck_2 := by
  refine ⟨fun a H i h => ?_, fun o x h => ?_, fun R e k => by kernel_rfl⟩
  · simp only [sp_strings_Builder_copyCheck_2] at h ⊢; split at h <;> first | (cases h; exact ⟨rfl, rfl⟩) | (cases h; done)
  · simp only [sp_strings_Builder_copyCheck_2] at h ⊢; split at h <;> first | (cases h; rfl) | (cases h; done)
theorem ok_strings_Builder_copyCheck_2 (κ : Nat) (m : Int) : EOk Tryd.prog C (G m) 38 (sp_strings_Builder_copyCheck_2.entry (fun a0 => strings_Builder_copyCheck_2 κ a0)) :=
  Spec.ok sp_strings_Builder_copyCheck_2_ok C_ok mixed (gam9_ok κ m) (cut := (ct_strings_Builder_copyCheck_2_1 κ)) (NR := (gcN 2 [0])) (NP := (gcN 2 [0])) (nB := 2) Tryd.func38 (c := (getBody Tryd.f38)) (by kernel_rfl) (by kernel_rfl) (fun i => by kernel_rfl) gcN_ok gcN_ok (cuts_by (l := [(pieceOf (.cnd 6 2) (getBody Tryd.f38), cc_strings_Builder_copyCheck_2_1 κ)]) (by kernel_rfl) (all_cons (cc_strings_Builder_copyCheck_2_1_ok κ m) (all_nil))) (fun i => by kernel_rfl)
noncomputable def gam10 (κ : Nat) : Gam T := (gam9 κ).addS 38 sp_strings_Builder_copyCheck_2 (fun a0 => strings_Builder_copyCheck_2 κ a0)
theorem gam10_ok (κ : Nat) (m : Int) : GOk Tryd.prog C (G m) (gam10 κ) := (gam9_ok κ m).addS (ok_strings_Builder_copyCheck_2 κ m)
def sp_strings_Builder_WriteString_2 : Spec T (ByteArray × (List Int)) (Int × (List Int)) where
  dcI a H := match a, H with
    | [(.ptr 0 0), (.v (.s a0))], [(.cells 57 none [(.v .pn), (.own 1)]), (.row 5 a1 true)] => some (a0, a1)
    | _, _ => none
  ecA := fun (a0, a1) => [(.ptr 0 0), (.v (.s a0))]
  ecH := fun (a0, a1) => [(.cells 57 none [(.v .pn), (.own 1)]), (.row 5 a1 true)]
  dcO o := match o with
    | .ret (.tup [(.v (.i .i64 a0)), (.v .if0)]) [(.cells 57 none [(.ptr 0 0), (.own 1)]), (.row 5 a1 true)] => some (a0, a1)
    | _ => none
  goO := fun _ (a0, a1) k => k (.ret (.tup [(.v (.i .i64 a0)), (.v .if0)]) [(.cells 57 none [(.ptr 0 0), (.own 1)]), (.row 5 a1 true)])
  ecO := fun (a0, a1) => .ret (.tup [(.v (.i .i64 a0)), (.v .if0)]) [(.cells 57 none [(.ptr 0 0), (.own 1)]), (.row 5 a1 true)]
theorem sp_strings_Builder_WriteString_2_ok : SpecOk sp_strings_Builder_WriteString_2 := by
  refine ⟨fun a H i h => ?_, fun o x h => ?_, fun R e k => by kernel_rfl⟩
  · simp only [sp_strings_Builder_WriteString_2] at h ⊢; split at h <;> first | (cases h; exact ⟨rfl, rfl⟩) | (cases h; done)
  · simp only [sp_strings_Builder_WriteString_2] at h ⊢; split at h <;> first | (cases h; rfl) | (cases h; done)
theorem ok_strings_Builder_WriteString_2 (κ : Nat) (m : Int) : EOk Tryd.prog C (G m) 25 (sp_strings_Builder_WriteString_2.entry (fun (a0, a1) => strings_Builder_WriteString_2 κ a0 a1)) :=
  Spec.ok sp_strings_Builder_WriteString_2_ok C_ok mixed (gam10_ok κ m) (cut := noCut) (NR := (gcN 2 [0])) (NP := (gcN 2 [0])) (nB := 2) Tryd.func25 (c := (getBody Tryd.f25)) (by kernel_rfl) (by kernel_rfl) (fun i => by kernel_rfl) gcN_ok gcN_ok (cuts_by (l := []) (by kernel_rfl) (all_nil)) (fun i => by kernel_rfl)
noncomputable def gam11 (κ : Nat) : Gam T := (gam10 κ).addS 25 sp_strings_Builder_WriteString_2 (fun (a0, a1) => strings_Builder_WriteString_2 κ a0 a1)
theorem gam11_ok (κ : Nat) (m : Int) : GOk Tryd.prog C (G m) (gam11 κ) := (gam10_ok κ m).addS (ok_strings_Builder_WriteString_2 κ m)
def sp_strings_Builder_String_3 : Spec T ((List Int)) (ByteArray) where
  dcI a H := match a, H with
    | [(.ptr 0 0)], [(.cells 57 none [(.ptr 0 0), (.own 1)]), (.row 5 a0 true)] => some a0
    | _, _ => none
  ecA := fun a0 => [(.ptr 0 0)]
  ecH := fun a0 => [(.cells 57 none [(.ptr 0 0), (.own 1)]), (.row 5 a0 true)]
  dcO o := match o with
    | .ret (.v (.s a0)) [(.cells 57 none [(.ptr 0 0), .any]), .dead] => some a0
    | _ => none
  goO := fun _ a0 k => k (.ret (.v (.s a0)) [(.cells 57 none [(.ptr 0 0), .any]), .dead])
  ecO := fun a0 => .ret (.v (.s a0)) [(.cells 57 none [(.ptr 0 0), .any]), .dead]
theorem sp_strings_Builder_String_3_ok : SpecOk sp_strings_Builder_String_3 := by
  refine ⟨fun a H i h => ?_, fun o x h => ?_, fun R e k => by kernel_rfl⟩
  · simp only [sp_strings_Builder_String_3] at h ⊢; split at h <;> first | (cases h; exact ⟨rfl, rfl⟩) | (cases h; done)
  · simp only [sp_strings_Builder_String_3] at h ⊢; split at h <;> first | (cases h; rfl) | (cases h; done)
theorem ok_strings_Builder_String_3 (κ : Nat) (m : Int) : EOk Tryd.prog C (G m) 27 (sp_strings_Builder_String_3.entry (fun a0 => strings_Builder_String_3 κ a0)) :=
  Spec.ok sp_strings_Builder_String_3_ok C_ok mixed (gam11_ok κ m) (cut := noCut) (NR := (gcN 2 [0])) (NP := (gcN 2 [0])) (nB := 2) Tryd.func27 (c := (getBody Tryd.f27)) (by kernel_rfl) (by kernel_rfl) (fun i => by kernel_rfl) gcN_ok gcN_ok (cuts_by (l := []) (by kernel_rfl) (all_nil)) (fun i => by kernel_rfl)
noncomputable def gam12 (κ : Nat) : Gam T := (gam11 κ).addS 27 sp_strings_Builder_String_3 (fun a0 => strings_Builder_String_3 κ a0)
theorem gam12_ok (κ : Nat) (m : Int) : GOk Tryd.prog C (G m) (gam12 κ) := (gam11_ok κ m).addS (ok_strings_Builder_String_3 κ m)
def p_strings_Builder_copyCheck_3_0 : Piece T (Bool × (List Int)) ((List Int)) where
  dcS env H ds := match env 0, env 6, H, ds with
    | (.ptr 0 0), (.v (.b a0)), [(.cells 57 none [(.ptr 0 0), (.own 1)]), (.row 5 a1 true)], [] => some (a0, a1)
    | _, _, _, _ => none
  slS := fun (a0, a1) => [(0, (.ptr 0 0)), (6, (.v (.b a0)))]
  obS := fun (a0, a1) => [(.cells 57 none [(.ptr 0 0), (.own 1)]), (.row 5 a1 true)]
  dsS := fun (a0, a1) => []
  dcE x env H ds := match x, H, ds with
    | .normal, [(.cells 57 none [(.ptr 0 0), (.own 1)]), (.row 5 a0 true)], [] => some a0
    | _, _, _ => none
  exE := fun a0 => .normal
  slE := fun a0 => []
  obE := fun a0 => [(.cells 57 none [(.ptr 0 0), (.own 1)]), (.row 5 a0 true)]
  dsE := fun a0 => []
  goE := fun _ a0 k => k .normal [] [(.cells 57 none [(.ptr 0 0), (.own 1)]), (.row 5 a0 true)] []
theorem p_strings_Builder_copyCheck_3_0_ok : PieceOk p_strings_Builder_copyCheck_3_0 := by
  refine ⟨fun env H ds s h => ?_, fun x env H ds e h => ?_, fun R e k => by kernel_rfl⟩
  · simp only [p_strings_Builder_copyCheck_3_0] at h ⊢; split at h <;> first | (cases h; simp only [List.forall_mem_cons]; simp_all; done) | (cases h; done)
  · simp only [p_strings_Builder_copyCheck_3_0] at h ⊢; split at h <;> first | (cases h; simp only [List.forall_mem_cons]; simp_all; done) | (cases h; done)
theorem p_strings_Builder_copyCheck_3_0_ct (κ : Nat) (m : Int) : CutOk Tryd.prog C (G m) Tryd.f38.ntmps 2 (pieceOf (.cnd 6 2) (getBody Tryd.f38)) (p_strings_Builder_copyCheck_3_0.cut (gcN 2 [0, 6]) (fun (a0, a1) => strings_Builder_copyCheck_3.v0 κ a0 a1)) :=
  Piece.join p_strings_Builder_copyCheck_3_0_ok C_ok mixed (gam12_ok κ m) gcN_ok (xN_ok gcN_ok (ex_nil) gcN_ok gcN_ok) (cut := noCut) (X := (xN (gcN 2 []) [] (gcN 2 []) (gcN 2 [1000000]))) (cuts_by (l := []) (by kernel_rfl) (all_nil)) (fun s => by kernel_rfl)
def cc_strings_Builder_copyCheck_3_1 (κ : Nat) : Cut T := p_strings_Builder_copyCheck_3_0.cut (gcN 2 [0, 6]) (fun (a0, a1) => strings_Builder_copyCheck_3.v0 κ a0 a1)
theorem cc_strings_Builder_copyCheck_3_1_ok (κ : Nat) (m : Int) : CutOk Tryd.prog C (G m) Tryd.f38.ntmps 2 (pieceOf (.cnd 6 2) (getBody Tryd.f38)) (cc_strings_Builder_copyCheck_3_1 κ) := p_strings_Builder_copyCheck_3_0_ct κ m
def ct_strings_Builder_copyCheck_3_1 (κ : Nat) : Key → Option (Cut T) := addCut noCut (.cnd 6 2) (cc_strings_Builder_copyCheck_3_1 κ)
def sp_strings_Builder_copyCheck_3 : Spec T ((List Int)) ((List Int)) where
  dcI a H := match a, H with
    | [(.ptr 0 0)], [(.cells 57 none [(.ptr 0 0), (.own 1)]), (.row 5 a0 true)] => some a0
    | _, _ => none
  ecA := fun a0 => [(.ptr 0 0)]
  ecH := fun a0 => [(.cells 57 none [(.ptr 0 0), (.own 1)]), (.row 5 a0 true)]
  dcO o := match o with
    | .ret (.tup []) [(.cells 57 none [(.ptr 0 0), (.own 1)]), (.row 5 a0 true)] => some a0
    | _ => none
  goO := fun _ a0 k => k (.ret (.tup []) [(.cells 57 none [(.ptr 0 0), (.own 1)]), (.row 5 a0 true)])
  ecO := fun a0 => .ret (.tup []) [(.cells 57 none [(.ptr 0 0), (.own 1)]), (.row 5 a0 true)]
theorem sp_strings_Builder_copyCheck_3_ok : SpecOk sp_strings_Builder_copyCheck_3 := by
  refine ⟨fun a H i h => ?_, fun o x h => ?_, fun R e k => by kernel_rfl⟩
  · simp only [sp_strings_Builder_copyCheck_3] at h ⊢; split at h <;> first | (cases h; exact ⟨rfl, rfl⟩) | (cases h; done)
  · simp only [sp_strings_Builder_copyCheck_3] at h ⊢; split at h <;> first | (cases h; rfl) | (cases h; done)
theorem ok_strings_Builder_copyCheck_3 (κ : Nat) (m : Int) : EOk Tryd.prog C (G m) 38 (sp_strings_Builder_copyCheck_3.entry (fun a0 => strings_Builder_copyCheck_3 κ a0)) :=
  Spec.ok sp_strings_Builder_copyCheck_3_ok C_ok mixed (gam12_ok κ m) (cut := (ct_strings_Builder_copyCheck_3_1 κ)) (NR := (gcN 2 [0])) (NP := (gcN 2 [0])) (nB := 2) Tryd.func38 (c := (getBody Tryd.f38)) (by kernel_rfl) (by kernel_rfl) (fun i => by kernel_rfl) gcN_ok gcN_ok (cuts_by (l := [(pieceOf (.cnd 6 2) (getBody Tryd.f38), cc_strings_Builder_copyCheck_3_1 κ)]) (by kernel_rfl) (all_cons (cc_strings_Builder_copyCheck_3_1_ok κ m) (all_nil))) (fun i => by kernel_rfl)
noncomputable def gam13 (κ : Nat) : Gam T := (gam12 κ).addS 38 sp_strings_Builder_copyCheck_3 (fun a0 => strings_Builder_copyCheck_3 κ a0)
theorem gam13_ok (κ : Nat) (m : Int) : GOk Tryd.prog C (G m) (gam13 κ) := (gam12_ok κ m).addS (ok_strings_Builder_copyCheck_3 κ m)
def sp_strings_Builder_WriteString_3 : Spec T (ByteArray × (List Int)) (Int × (List Int)) where
  dcI a H := match a, H with
    | [(.ptr 0 0), (.v (.s a0))], [(.cells 57 none [(.ptr 0 0), (.own 1)]), (.row 5 a1 true)] => some (a0, a1)
    | _, _ => none
  ecA := fun (a0, a1) => [(.ptr 0 0), (.v (.s a0))]
  ecH := fun (a0, a1) => [(.cells 57 none [(.ptr 0 0), (.own 1)]), (.row 5 a1 true)]
  dcO o := match o with
    | .ret (.tup [(.v (.i .i64 a0)), (.v .if0)]) [(.cells 57 none [(.ptr 0 0), (.own 1)]), (.row 5 a1 true)] => some (a0, a1)
    | _ => none
  goO := fun _ (a0, a1) k => k (.ret (.tup [(.v (.i .i64 a0)), (.v .if0)]) [(.cells 57 none [(.ptr 0 0), (.own 1)]), (.row 5 a1 true)])
  ecO := fun (a0, a1) => .ret (.tup [(.v (.i .i64 a0)), (.v .if0)]) [(.cells 57 none [(.ptr 0 0), (.own 1)]), (.row 5 a1 true)]
theorem sp_strings_Builder_WriteString_3_ok : SpecOk sp_strings_Builder_WriteString_3 := by
  refine ⟨fun a H i h => ?_, fun o x h => ?_, fun R e k => by kernel_rfl⟩
  · simp only [sp_strings_Builder_WriteString_3] at h ⊢; split at h <;> first | (cases h; exact ⟨rfl, rfl⟩) | (cases h; done)
  · simp only [sp_strings_Builder_WriteString_3] at h ⊢; split at h <;> first | (cases h; rfl) | (cases h; done)
theorem ok_strings_Builder_WriteString_3 (κ : Nat) (m : Int) : EOk Tryd.prog C (G m) 25 (sp_strings_Builder_WriteString_3.entry (fun (a0, a1) => strings_Builder_WriteString_3 κ a0 a1)) :=
  Spec.ok sp_strings_Builder_WriteString_3_ok C_ok mixed (gam13_ok κ m) (cut := noCut) (NR := (gcN 2 [0])) (NP := (gcN 2 [0])) (nB := 2) Tryd.func25 (c := (getBody Tryd.f25)) (by kernel_rfl) (by kernel_rfl) (fun i => by kernel_rfl) gcN_ok gcN_ok (cuts_by (l := []) (by kernel_rfl) (all_nil)) (fun i => by kernel_rfl)
noncomputable def gam14 (κ : Nat) : Gam T := (gam13 κ).addS 25 sp_strings_Builder_WriteString_3 (fun (a0, a1) => strings_Builder_WriteString_3 κ a0 a1)
theorem gam14_ok (κ : Nat) (m : Int) : GOk Tryd.prog C (G m) (gam14 κ) := (gam13_ok κ m).addS (ok_strings_Builder_WriteString_3 κ m)
def p_lex_reader_text_33 : Piece T (ByteArray × ByteArray × Int × Int × (List Int)) (ByteArray × Bool × ByteArray × Int × Int × (List Int)) where
  dcS env H ds := match env 0, env 3, env 4, H, ds with
    | (.ptr 0 0), (.ptr 1 0), (.v (.s a0)), [(.cells 44 none [(.v (.s a1)), (.v (.i .i64 a2)), (.v (.i .i64 a3))]), (.cells 57 none [(.v .pn), (.own 2)]), (.row 5 a4 true)], [] => some (a0, a1, a2, a3, a4)
    | _, _, _, _, _ => none
  slS := fun (a0, a1, a2, a3, a4) => [(0, (.ptr 0 0)), (3, (.ptr 1 0)), (4, (.v (.s a0)))]
  obS := fun (a0, a1, a2, a3, a4) => [(.cells 44 none [(.v (.s a1)), (.v (.i .i64 a2)), (.v (.i .i64 a3))]), (.cells 57 none [(.v .pn), (.own 2)]), (.row 5 a4 true)]
  dsS := fun (a0, a1, a2, a3, a4) => []
  dcE x env H ds := match x, env 0, env 3, env 4, env 10, H, ds with
    | .normal, (.ptr 0 0), (.ptr 1 0), (.v (.s a0)), (.v (.b a1)), [(.cells 44 none [(.v (.s a2)), (.v (.i .i64 a3)), (.v (.i .i64 a4))]), (.cells 57 none [(.v .pn), (.own 2)]), (.row 5 a5 true)], [] => some (a0, a1, a2, a3, a4, a5)
    | _, _, _, _, _, _, _ => none
  exE := fun (a0, a1, a2, a3, a4, a5) => .normal
  slE := fun (a0, a1, a2, a3, a4, a5) => [(0, (.ptr 0 0)), (3, (.ptr 1 0)), (4, (.v (.s a0))), (10, (.v (.b a1)))]
  obE := fun (a0, a1, a2, a3, a4, a5) => [(.cells 44 none [(.v (.s a2)), (.v (.i .i64 a3)), (.v (.i .i64 a4))]), (.cells 57 none [(.v .pn), (.own 2)]), (.row 5 a5 true)]
  dsE := fun (a0, a1, a2, a3, a4, a5) => []
  goE := fun _ (a0, a1, a2, a3, a4, a5) k => k .normal [(0, (.ptr 0 0)), (3, (.ptr 1 0)), (4, (.v (.s a0))), (10, (.v (.b a1)))] [(.cells 44 none [(.v (.s a2)), (.v (.i .i64 a3)), (.v (.i .i64 a4))]), (.cells 57 none [(.v .pn), (.own 2)]), (.row 5 a5 true)] []
theorem p_lex_reader_text_33_ok : PieceOk p_lex_reader_text_33 := by
  refine ⟨fun env H ds s h => ?_, fun x env H ds e h => ?_, fun R e k => by kernel_rfl⟩
  · simp only [p_lex_reader_text_33] at h ⊢; split at h <;> first | (cases h; simp only [List.forall_mem_cons]; simp_all; done) | (cases h; done)
  · simp only [p_lex_reader_text_33] at h ⊢; split at h <;> first | (cases h; simp only [List.forall_mem_cons]; simp_all; done) | (cases h; done)
theorem p_lex_reader_text_33_ct (κ : Nat) (m : Int) : CutOk Tryd.prog C (G m) Tryd.f33.ntmps 1 (pieceOf (.reg 4) (getBody Tryd.f33)) (p_lex_reader_text_33.cut (gcN 1 [0, 3, 4]) (fun (a0, a1, a2, a3, a4) => lex_reader_text.v33 κ a0 a1 a2 a3 a4)) :=
  Piece.join p_lex_reader_text_33_ok C_ok mixed (gam14_ok κ m) gcN_ok (xN_ok gcN_ok (ex_cons gcN_ok (ex_cons gcN_ok (ex_cons gcN_ok (ex_nil)))) gcN_ok gcN_ok) (cut := noCut) (X := (xN (gcN 1 [0, 3, 4, 10]) [(2, (gcN 1 [0, 3])), (1, (gcN 1 [0, 3])), (0, (gcN 1 [2]))] (gcN 1 [2]) (gcN 1 [1000000]))) (cuts_by (l := []) (by kernel_rfl) (all_nil)) (fun s => by kernel_rfl)
def cc_lex_reader_text_34 (κ : Nat) : Cut T := p_lex_reader_text_33.cut (gcN 1 [0, 3, 4]) (fun (a0, a1, a2, a3, a4) => lex_reader_text.v33 κ a0 a1 a2 a3 a4)
theorem cc_lex_reader_text_34_ok (κ : Nat) (m : Int) : CutOk Tryd.prog C (G m) Tryd.f33.ntmps 1 (pieceOf (.reg 4) (getBody Tryd.f33)) (cc_lex_reader_text_34 κ) := p_lex_reader_text_33_ct κ m
def ct_lex_reader_text_34 (κ : Nat) : Key → Option (Cut T) := addCut noCut (.reg 4) (cc_lex_reader_text_34 κ)
def p_lex_reader_text_36 : Piece T (Bool × ByteArray × Int × Int × (List Int)) ((ByteArray × Int × Int × (List Int)) ⊕ (Int × Int × ByteArray × Int × Int)) where
  dcS env H ds := match env 0, env 3, env 30, H, ds with
    | (.ptr 0 0), (.ptr 1 0), (.v (.b a0)), [(.cells 44 none [(.v (.s a1)), (.v (.i .i64 a2)), (.v (.i .i64 a3))]), (.cells 57 none [(.v .pn), (.own 2)]), (.row 5 a4 true)], [] => some (a0, a1, a2, a3, a4)
    | _, _, _, _, _ => none
  slS := fun (a0, a1, a2, a3, a4) => [(0, (.ptr 0 0)), (3, (.ptr 1 0)), (30, (.v (.b a0)))]
  obS := fun (a0, a1, a2, a3, a4) => [(.cells 44 none [(.v (.s a1)), (.v (.i .i64 a2)), (.v (.i .i64 a3))]), (.cells 57 none [(.v .pn), (.own 2)]), (.row 5 a4 true)]
  dsS := fun (a0, a1, a2, a3, a4) => []
  dcE x env H ds := match x, env 0, env 3, H, ds with
    | .normal, (.ptr 0 0), (.ptr 1 0), [(.cells 44 none [(.v (.s a0)), (.v (.i .i64 a1)), (.v (.i .i64 a2))]), (.cells 57 none [(.ptr 1 0), (.own 2)]), (.row 5 a3 true)], [] => some (.inl (a0, a1, a2, a3))
    | (.pan (.ifc 41 (.agg [(.v (.i .i64 a0)), (.v (.i .i64 a1))]))), _, _, [(.cells 44 none [(.v (.s a2)), (.v (.i .i64 a3)), (.v (.i .i64 a4))])], [] => some (.inr (a0, a1, a2, a3, a4))
    | _, _, _, _, _ => none
  exE := fun x => match x with
    | (.inl (a0, a1, a2, a3)) => .normal
    | (.inr (a0, a1, a2, a3, a4)) => (.pan (.ifc 41 (.agg [(.v (.i .i64 a0)), (.v (.i .i64 a1))])))
  slE := fun x => match x with
    | (.inl (a0, a1, a2, a3)) => [(0, (.ptr 0 0)), (3, (.ptr 1 0))]
    | (.inr (a0, a1, a2, a3, a4)) => []
  obE := fun x => match x with
    | (.inl (a0, a1, a2, a3)) => [(.cells 44 none [(.v (.s a0)), (.v (.i .i64 a1)), (.v (.i .i64 a2))]), (.cells 57 none [(.ptr 1 0), (.own 2)]), (.row 5 a3 true)]
    | (.inr (a0, a1, a2, a3, a4)) => [(.cells 44 none [(.v (.s a2)), (.v (.i .i64 a3)), (.v (.i .i64 a4))])]
  dsE := fun x => match x with
    | (.inl (a0, a1, a2, a3)) => []
    | (.inr (a0, a1, a2, a3, a4)) => []
  goE := fun _ x k => match x with
    | (.inl (a0, a1, a2, a3)) => k .normal [(0, (.ptr 0 0)), (3, (.ptr 1 0))] [(.cells 44 none [(.v (.s a0)), (.v (.i .i64 a1)), (.v (.i .i64 a2))]), (.cells 57 none [(.ptr 1 0), (.own 2)]), (.row 5 a3 true)] []
    | (.inr (a0, a1, a2, a3, a4)) => k (.pan (.ifc 41 (.agg [(.v (.i .i64 a0)), (.v (.i .i64 a1))]))) [] [(.cells 44 none [(.v (.s a2)), (.v (.i .i64 a3)), (.v (.i .i64 a4))])] []
theorem p_lex_reader_text_36_ok : PieceOk p_lex_reader_text_36 := by
  refine ⟨fun env H ds s h => ?_, fun x env H ds e h => ?_, fun R e k => by rcases e with e | e <;> kernel_rfl⟩
  · simp only [p_lex_reader_text_36] at h ⊢; split at h <;> first | (cases h; simp only [List.forall_mem_cons]; simp_all; done) | (cases h; done)
  · simp only [p_lex_reader_text_36] at h ⊢; split at h <;> first | (cases h; simp only [List.forall_mem_cons]; simp_all; done) | (cases h; done)
theorem p_lex_reader_text_36_ct (κ : Nat) (m : Int) : CutOk Tryd.prog C (G m) Tryd.f33.ntmps 1 (pieceOf (.cnd 30 11) (getBody Tryd.f33)) (p_lex_reader_text_36.cut (gcN 1 [0, 3, 30]) (fun (a0, a1, a2, a3, a4) => lex_reader_text.v36 κ a0 a1 a2 a3 a4)) :=
  Piece.join p_lex_reader_text_36_ok C_ok mixed (gam14_ok κ m) gcN_ok (xN_ok gcN_ok (ex_cons gcN_ok (ex_cons gcN_ok (ex_cons gcN_ok (ex_nil)))) gcN_ok gcN_ok) (cut := (ct_lex_reader_text_34 κ)) (X := (xN (gcN 1 [0, 3]) [(2, (gcN 1 [0, 3])), (1, (gcN 1 [0, 3])), (0, (gcN 1 [2]))] (gcN 1 [2]) (gcN 1 [1000000]))) (cuts_by (l := []) (by kernel_rfl) (all_nil)) (fun s => by kernel_rfl)
def cc_lex_reader_text_37 (κ : Nat) : Cut T := p_lex_reader_text_36.cut (gcN 1 [0, 3, 30]) (fun (a0, a1, a2, a3, a4) => lex_reader_text.v36 κ a0 a1 a2 a3 a4)
theorem cc_lex_reader_text_37_ok (κ : Nat) (m : Int) : CutOk Tryd.prog C (G m) Tryd.f33.ntmps 1 (pieceOf (.cnd 30 11) (getBody Tryd.f33)) (cc_lex_reader_text_37 κ) := p_lex_reader_text_36_ct κ m
def ct_lex_reader_text_37 (κ : Nat) : Key → Option (Cut T) := addCut (ct_lex_reader_text_34 κ) (.cnd 30 11) (cc_lex_reader_text_37 κ)
def p_lex_reader_text_35 : Piece T (ByteArray × Bool × ByteArray × Int × Int × (List Int)) ((ByteArray × Int × Int × (List Int)) ⊕ ((Int × Int × ByteArray × Int × Int) ⊕ (ByteArray × ByteArray × Int × Int))) where
  dcS env H ds := match env 0, env 3, env 4, env 10, H, ds with
    | (.ptr 0 0), (.ptr 1 0), (.v (.s a0)), (.v (.b a1)), [(.cells 44 none [(.v (.s a2)), (.v (.i .i64 a3)), (.v (.i .i64 a4))]), (.cells 57 none [(.v .pn), (.own 2)]), (.row 5 a5 true)], [] => some (a0, a1, a2, a3, a4, a5)
    | _, _, _, _, _, _ => none
  slS := fun (a0, a1, a2, a3, a4, a5) => [(0, (.ptr 0 0)), (3, (.ptr 1 0)), (4, (.v (.s a0))), (10, (.v (.b a1)))]
  obS := fun (a0, a1, a2, a3, a4, a5) => [(.cells 44 none [(.v (.s a2)), (.v (.i .i64 a3)), (.v (.i .i64 a4))]), (.cells 57 none [(.v .pn), (.own 2)]), (.row 5 a5 true)]
  dsS := fun (a0, a1, a2, a3, a4, a5) => []
  dcE x env H ds := match x, env 0, env 2, env 3, H, ds with
    | .normal, (.ptr 0 0), _, (.ptr 1 0), [(.cells 44 none [(.v (.s a0)), (.v (.i .i64 a1)), (.v (.i .i64 a2))]), (.cells 57 none [(.ptr 1 0), (.own 2)]), (.row 5 a3 true)], [] => some (.inl (a0, a1, a2, a3))
    | (.pan (.ifc 41 (.agg [(.v (.i .i64 a0)), (.v (.i .i64 a1))]))), _, _, _, [(.cells 44 none [(.v (.s a2)), (.v (.i .i64 a3)), (.v (.i .i64 a4))])], [] => some (.inr (.inl (a0, a1, a2, a3, a4)))
    | .ret, _, (.v (.s a0)), _, [(.cells 44 none [(.v (.s a1)), (.v (.i .i64 a2)), (.v (.i .i64 a3))])], [] => some (.inr (.inr (a0, a1, a2, a3)))
    | _, _, _, _, _, _ => none
  exE := fun x => match x with
    | (.inl (a0, a1, a2, a3)) => .normal
    | (.inr (.inl (a0, a1, a2, a3, a4))) => (.pan (.ifc 41 (.agg [(.v (.i .i64 a0)), (.v (.i .i64 a1))])))
    | (.inr (.inr (a0, a1, a2, a3))) => .ret
  slE := fun x => match x with
    | (.inl (a0, a1, a2, a3)) => [(0, (.ptr 0 0)), (3, (.ptr 1 0))]
    | (.inr (.inl (a0, a1, a2, a3, a4))) => []
    | (.inr (.inr (a0, a1, a2, a3))) => [(2, (.v (.s a0)))]
  obE := fun x => match x with
    | (.inl (a0, a1, a2, a3)) => [(.cells 44 none [(.v (.s a0)), (.v (.i .i64 a1)), (.v (.i .i64 a2))]), (.cells 57 none [(.ptr 1 0), (.own 2)]), (.row 5 a3 true)]
    | (.inr (.inl (a0, a1, a2, a3, a4))) => [(.cells 44 none [(.v (.s a2)), (.v (.i .i64 a3)), (.v (.i .i64 a4))])]
    | (.inr (.inr (a0, a1, a2, a3))) => [(.cells 44 none [(.v (.s a1)), (.v (.i .i64 a2)), (.v (.i .i64 a3))])]
  dsE := fun x => match x with
    | (.inl (a0, a1, a2, a3)) => []
    | (.inr (.inl (a0, a1, a2, a3, a4))) => []
    | (.inr (.inr (a0, a1, a2, a3))) => []
  goE := fun _ x k => match x with
    | (.inl (a0, a1, a2, a3)) => k .normal [(0, (.ptr 0 0)), (3, (.ptr 1 0))] [(.cells 44 none [(.v (.s a0)), (.v (.i .i64 a1)), (.v (.i .i64 a2))]), (.cells 57 none [(.ptr 1 0), (.own 2)]), (.row 5 a3 true)] []
    | (.inr (.inl (a0, a1, a2, a3, a4))) => k (.pan (.ifc 41 (.agg [(.v (.i .i64 a0)), (.v (.i .i64 a1))]))) [] [(.cells 44 none [(.v (.s a2)), (.v (.i .i64 a3)), (.v (.i .i64 a4))])] []
    | (.inr (.inr (a0, a1, a2, a3))) => k .ret [(2, (.v (.s a0)))] [(.cells 44 none [(.v (.s a1)), (.v (.i .i64 a2)), (.v (.i .i64 a3))])] []
theorem p_lex_reader_text_35_ok : PieceOk p_lex_reader_text_35 := by
  refine ⟨fun env H ds s h => ?_, fun x env H ds e h => ?_, fun R e k => by rcases e with e | e | e <;> kernel_rfl⟩
  · simp only [p_lex_reader_text_35] at h ⊢; split at h <;> first | (cases h; simp only [List.forall_mem_cons]; simp_all; done) | (cases h; done)
  · simp only [p_lex_reader_text_35] at h ⊢; split at h <;> first | (cases h; simp only [List.forall_mem_cons]; simp_all; done) | (cases h; done)
theorem p_lex_reader_text_35_ct (κ : Nat) (m : Int) : CutOk Tryd.prog C (G m) Tryd.f33.ntmps 1 (pieceOf (.cnd 10 6) (getBody Tryd.f33)) (p_lex_reader_text_35.cut (gcN 1 [0, 3, 4, 10]) (fun (a0, a1, a2, a3, a4, a5) => lex_reader_text.v35 κ a0 a1 a2 a3 a4 a5)) :=
  Piece.join p_lex_reader_text_35_ok C_ok mixed (gam14_ok κ m) gcN_ok (xN_ok gcN_ok (ex_cons gcN_ok (ex_cons gcN_ok (ex_cons gcN_ok (ex_nil)))) gcN_ok gcN_ok) (cut := (ct_lex_reader_text_37 κ)) (X := (xN (gcN 1 [0, 3]) [(2, (gcN 1 [0, 3])), (1, (gcN 1 [0, 3])), (0, (gcN 1 [2]))] (gcN 1 [2]) (gcN 1 [1000000]))) (cuts_by (l := [(pieceOf (.cnd 30 11) (getBody Tryd.f33), cc_lex_reader_text_37 κ)]) (by kernel_rfl) (all_cons (cc_lex_reader_text_37_ok κ m) (all_nil))) (fun s => by kernel_rfl)
def cc_lex_reader_text_38 (κ : Nat) : Cut T := p_lex_reader_text_35.cut (gcN 1 [0, 3, 4, 10]) (fun (a0, a1, a2, a3, a4, a5) => lex_reader_text.v35 κ a0 a1 a2 a3 a4 a5)
theorem cc_lex_reader_text_38_ok (κ : Nat) (m : Int) : CutOk Tryd.prog C (G m) Tryd.f33.ntmps 1 (pieceOf (.cnd 10 6) (getBody Tryd.f33)) (cc_lex_reader_text_38 κ) := p_lex_reader_text_35_ct κ m
def ct_lex_reader_text_38 (κ : Nat) : Key → Option (Cut T) := addCut (ct_lex_reader_text_34 κ) (.cnd 10 6) (cc_lex_reader_text_38 κ)
def p_lex_reader_text_32 : Piece T (ByteArray × ByteArray × Int × Int × (List Int)) ((ByteArray × Int × Int × (List Int)) ⊕ ((Int × Int × ByteArray × Int × Int) ⊕ (ByteArray × ByteArray × Int × Int))) where
  dcS env H ds := match env 0, env 3, env 4, H, ds with
    | (.ptr 0 0), (.ptr 1 0), (.v (.s a0)), [(.cells 44 none [(.v (.s a1)), (.v (.i .i64 a2)), (.v (.i .i64 a3))]), (.cells 57 none [(.v .pn), (.own 2)]), (.row 5 a4 true)], [] => some (a0, a1, a2, a3, a4)
    | _, _, _, _, _ => none
  slS := fun (a0, a1, a2, a3, a4) => [(0, (.ptr 0 0)), (3, (.ptr 1 0)), (4, (.v (.s a0)))]
  obS := fun (a0, a1, a2, a3, a4) => [(.cells 44 none [(.v (.s a1)), (.v (.i .i64 a2)), (.v (.i .i64 a3))]), (.cells 57 none [(.v .pn), (.own 2)]), (.row 5 a4 true)]
  dsS := fun (a0, a1, a2, a3, a4) => []
  dcE x env H ds := match x, env 0, env 2, env 3, H, ds with
    | .normal, (.ptr 0 0), _, (.ptr 1 0), [(.cells 44 none [(.v (.s a0)), (.v (.i .i64 a1)), (.v (.i .i64 a2))]), (.cells 57 none [(.ptr 1 0), (.own 2)]), (.row 5 a3 true)], [] => some (.inl (a0, a1, a2, a3))
    | (.pan (.ifc 41 (.agg [(.v (.i .i64 a0)), (.v (.i .i64 a1))]))), _, _, _, [(.cells 44 none [(.v (.s a2)), (.v (.i .i64 a3)), (.v (.i .i64 a4))])], [] => some (.inr (.inl (a0, a1, a2, a3, a4)))
    | .ret, _, (.v (.s a0)), _, [(.cells 44 none [(.v (.s a1)), (.v (.i .i64 a2)), (.v (.i .i64 a3))])], [] => some (.inr (.inr (a0, a1, a2, a3)))
    | _, _, _, _, _, _ => none
  exE := fun x => match x with
    | (.inl (a0, a1, a2, a3)) => .normal
    | (.inr (.inl (a0, a1, a2, a3, a4))) => (.pan (.ifc 41 (.agg [(.v (.i .i64 a0)), (.v (.i .i64 a1))])))
    | (.inr (.inr (a0, a1, a2, a3))) => .ret
  slE := fun x => match x with
    | (.inl (a0, a1, a2, a3)) => [(0, (.ptr 0 0)), (3, (.ptr 1 0))]
    | (.inr (.inl (a0, a1, a2, a3, a4))) => []
    | (.inr (.inr (a0, a1, a2, a3))) => [(2, (.v (.s a0)))]
  obE := fun x => match x with
    | (.inl (a0, a1, a2, a3)) => [(.cells 44 none [(.v (.s a0)), (.v (.i .i64 a1)), (.v (.i .i64 a2))]), (.cells 57 none [(.ptr 1 0), (.own 2)]), (.row 5 a3 true)]
    | (.inr (.inl (a0, a1, a2, a3, a4))) => [(.cells 44 none [(.v (.s a2)), (.v (.i .i64 a3)), (.v (.i .i64 a4))])]
    | (.inr (.inr (a0, a1, a2, a3))) => [(.cells 44 none [(.v (.s a1)), (.v (.i .i64 a2)), (.v (.i .i64 a3))])]
  dsE := fun x => match x with
    | (.inl (a0, a1, a2, a3)) => []
    | (.inr (.inl (a0, a1, a2, a3, a4))) => []
    | (.inr (.inr (a0, a1, a2, a3))) => []
  goE := fun _ x k => match x with
    | (.inl (a0, a1, a2, a3)) => k .normal [(0, (.ptr 0 0)), (3, (.ptr 1 0))] [(.cells 44 none [(.v (.s a0)), (.v (.i .i64 a1)), (.v (.i .i64 a2))]), (.cells 57 none [(.ptr 1 0), (.own 2)]), (.row 5 a3 true)] []
    | (.inr (.inl (a0, a1, a2, a3, a4))) => k (.pan (.ifc 41 (.agg [(.v (.i .i64 a0)), (.v (.i .i64 a1))]))) [] [(.cells 44 none [(.v (.s a2)), (.v (.i .i64 a3)), (.v (.i .i64 a4))])] []
    | (.inr (.inr (a0, a1, a2, a3))) => k .ret [(2, (.v (.s a0)))] [(.cells 44 none [(.v (.s a1)), (.v (.i .i64 a2)), (.v (.i .i64 a3))])] []
theorem p_lex_reader_text_32_ok : PieceOk p_lex_reader_text_32 := by
  refine ⟨fun env H ds s h => ?_, fun x env H ds e h => ?_, fun R e k => by rcases e with e | e | e <;> kernel_rfl⟩
  · simp only [p_lex_reader_text_32] at h ⊢; split at h <;> first | (cases h; simp only [List.forall_mem_cons]; simp_all; done) | (cases h; done)
  · simp only [p_lex_reader_text_32] at h ⊢; split at h <;> first | (cases h; simp only [List.forall_mem_cons]; simp_all; done) | (cases h; done)
theorem p_lex_reader_text_32_ct (κ : Nat) (m : Int) : CutOk Tryd.prog C (G m) Tryd.f33.ntmps 1 (pieceOf (.blk 2) (getBody Tryd.f33)) (p_lex_reader_text_32.cut (gcN 1 [0, 3, 4]) (fun (a0, a1, a2, a3, a4) => lex_reader_text.v32 κ a0 a1 a2 a3 a4)) :=
  Piece.join p_lex_reader_text_32_ok C_ok mixed (gam14_ok κ m) gcN_ok (xN_ok gcN_ok (ex_cons gcN_ok (ex_cons gcN_ok (ex_nil))) gcN_ok gcN_ok) (cut := (ct_lex_reader_text_38 κ)) (X := (xN (gcN 1 [0, 3]) [(1, (gcN 1 [0, 3])), (0, (gcN 1 [2]))] (gcN 1 [2]) (gcN 1 [1000000]))) (cuts_by (l := [(pieceOf (.reg 4) (getBody Tryd.f33), cc_lex_reader_text_34 κ), (pieceOf (.cnd 10 6) (getBody Tryd.f33), cc_lex_reader_text_38 κ)]) (by kernel_rfl) (all_cons (cc_lex_reader_text_34_ok κ m) (all_cons (cc_lex_reader_text_38_ok κ m) (all_nil)))) (fun s => by kernel_rfl)
def p_lex_reader_text_40 : Piece T (ByteArray × ByteArray × Int × Int × (List Int)) (ByteArray × Bool × ByteArray × Int × Int × (List Int)) where
  dcS env H ds := match env 0, env 3, env 4, H, ds with
    | (.ptr 0 0), (.ptr 1 0), (.v (.s a0)), [(.cells 44 none [(.v (.s a1)), (.v (.i .i64 a2)), (.v (.i .i64 a3))]), (.cells 57 none [(.ptr 1 0), (.own 2)]), (.row 5 a4 true)], [] => some (a0, a1, a2, a3, a4)
    | _, _, _, _, _ => none
  slS := fun (a0, a1, a2, a3, a4) => [(0, (.ptr 0 0)), (3, (.ptr 1 0)), (4, (.v (.s a0)))]
  obS := fun (a0, a1, a2, a3, a4) => [(.cells 44 none [(.v (.s a1)), (.v (.i .i64 a2)), (.v (.i .i64 a3))]), (.cells 57 none [(.ptr 1 0), (.own 2)]), (.row 5 a4 true)]
  dsS := fun (a0, a1, a2, a3, a4) => []
  dcE x env H ds := match x, env 0, env 3, env 4, env 10, H, ds with
    | .normal, (.ptr 0 0), (.ptr 1 0), (.v (.s a0)), (.v (.b a1)), [(.cells 44 none [(.v (.s a2)), (.v (.i .i64 a3)), (.v (.i .i64 a4))]), (.cells 57 none [(.ptr 1 0), (.own 2)]), (.row 5 a5 true)], [] => some (a0, a1, a2, a3, a4, a5)
    | _, _, _, _, _, _, _ => none
  exE := fun (a0, a1, a2, a3, a4, a5) => .normal
  slE := fun (a0, a1, a2, a3, a4, a5) => [(0, (.ptr 0 0)), (3, (.ptr 1 0)), (4, (.v (.s a0))), (10, (.v (.b a1)))]
  obE := fun (a0, a1, a2, a3, a4, a5) => [(.cells 44 none [(.v (.s a2)), (.v (.i .i64 a3)), (.v (.i .i64 a4))]), (.cells 57 none [(.ptr 1 0), (.own 2)]), (.row 5 a5 true)]
  dsE := fun (a0, a1, a2, a3, a4, a5) => []
  goE := fun _ (a0, a1, a2, a3, a4, a5) k => k .normal [(0, (.ptr 0 0)), (3, (.ptr 1 0)), (4, (.v (.s a0))), (10, (.v (.b a1)))] [(.cells 44 none [(.v (.s a2)), (.v (.i .i64 a3)), (.v (.i .i64 a4))]), (.cells 57 none [(.ptr 1 0), (.own 2)]), (.row 5 a5 true)] []
theorem p_lex_reader_text_40_ok : PieceOk p_lex_reader_text_40 := by
  refine ⟨fun env H ds s h => ?_, fun x env H ds e h => ?_, fun R e k => by kernel_rfl⟩
  · simp only [p_lex_reader_text_40] at h ⊢; split at h <;> first | (cases h; simp only [List.forall_mem_cons]; simp_all; done) | (cases h; done)
  · simp only [p_lex_reader_text_40] at h ⊢; split at h <;> first | (cases h; simp only [List.forall_mem_cons]; simp_all; done) | (cases h; done)
theorem p_lex_reader_text_40_ct (κ : Nat) (m : Int) : CutOk Tryd.prog C (G m) Tryd.f33.ntmps 1 (pieceOf (.reg 4) (getBody Tryd.f33)) (p_lex_reader_text_40.cut (gcN 1 [0, 3, 4]) (fun (a0, a1, a2, a3, a4) => lex_reader_text.v40 κ a0 a1 a2 a3 a4)) :=
  Piece.join p_lex_reader_text_40_ok C_ok mixed (gam14_ok κ m) gcN_ok (xN_ok gcN_ok (ex_cons gcN_ok (ex_cons gcN_ok (ex_cons gcN_ok (ex_nil)))) gcN_ok gcN_ok) (cut := noCut) (X := (xN (gcN 1 [0, 3, 4, 10]) [(2, (gcN 1 [0, 3])), (1, (gcN 1 [0, 3])), (0, (gcN 1 [2]))] (gcN 1 [2]) (gcN 1 [1000000]))) (cuts_by (l := []) (by kernel_rfl) (all_nil)) (fun s => by kernel_rfl)
def cc_lex_reader_text_41 (κ : Nat) : Cut T := p_lex_reader_text_40.cut (gcN 1 [0, 3, 4]) (fun (a0, a1, a2, a3, a4) => lex_reader_text.v40 κ a0 a1 a2 a3 a4)
theorem cc_lex_reader_text_41_ok (κ : Nat) (m : Int) : CutOk Tryd.prog C (G m) Tryd.f33.ntmps 1 (pieceOf (.reg 4) (getBody Tryd.f33)) (cc_lex_reader_text_41 κ) := p_lex_reader_text_40_ct κ m
def ct_lex_reader_text_41 (κ : Nat) : Key → Option (Cut T) := addCut noCut (.reg 4) (cc_lex_reader_text_41 κ)
def p_lex_reader_text_43 : Piece T (Bool × ByteArray × Int × Int × (List Int)) ((ByteArray × Int × Int × (List Int)) ⊕ (Int × Int × ByteArray × Int × Int)) where
  dcS env H ds := match env 0, env 3, env 30, H, ds with
    | (.ptr 0 0), (.ptr 1 0), (.v (.b a0)), [(.cells 44 none [(.v (.s a1)), (.v (.i .i64 a2)), (.v (.i .i64 a3))]), (.cells 57 none [(.ptr 1 0), (.own 2)]), (.row 5 a4 true)], [] => some (a0, a1, a2, a3, a4)
    | _, _, _, _, _ => none
  slS := fun (a0, a1, a2, a3, a4) => [(0, (.ptr 0 0)), (3, (.ptr 1 0)), (30, (.v (.b a0)))]
  obS := fun (a0, a1, a2, a3, a4) => [(.cells 44 none [(.v (.s a1)), (.v (.i .i64 a2)), (.v (.i .i64 a3))]), (.cells 57 none [(.ptr 1 0), (.own 2)]), (.row 5 a4 true)]
  dsS := fun (a0, a1, a2, a3, a4) => []
  dcE x env H ds := match x, env 0, env 3, H, ds with
    | .normal, (.ptr 0 0), (.ptr 1 0), [(.cells 44 none [(.v (.s a0)), (.v (.i .i64 a1)), (.v (.i .i64 a2))]), (.cells 57 none [(.ptr 1 0), (.own 2)]), (.row 5 a3 true)], [] => some (.inl (a0, a1, a2, a3))
    | (.pan (.ifc 41 (.agg [(.v (.i .i64 a0)), (.v (.i .i64 a1))]))), _, _, [(.cells 44 none [(.v (.s a2)), (.v (.i .i64 a3)), (.v (.i .i64 a4))])], [] => some (.inr (a0, a1, a2, a3, a4))
    | _, _, _, _, _ => none
  exE := fun x => match x with
    | (.inl (a0, a1, a2, a3)) => .normal
    | (.inr (a0, a1, a2, a3, a4)) => (.pan (.ifc 41 (.agg [(.v (.i .i64 a0)), (.v (.i .i64 a1))])))
  slE := fun x => match x with
    | (.inl (a0, a1, a2, a3)) => [(0, (.ptr 0 0)), (3, (.ptr 1 0))]
    | (.inr (a0, a1, a2, a3, a4)) => []
  obE := fun x => match x with
    | (.inl (a0, a1, a2, a3)) => [(.cells 44 none [(.v (.s a0)), (.v (.i .i64 a1)), (.v (.i .i64 a2))]), (.cells 57 none [(.ptr 1 0), (.own 2)]), (.row 5 a3 true)]
    | (.inr (a0, a1, a2, a3, a4)) => [(.cells 44 none [(.v (.s a2)), (.v (.i .i64 a3)), (.v (.i .i64 a4))])]
  dsE := fun x => match x with
    | (.inl (a0, a1, a2, a3)) => []
    | (.inr (a0, a1, a2, a3, a4)) => []
  goE := fun _ x k => match x with
    | (.inl (a0, a1, a2, a3)) => k .normal [(0, (.ptr 0 0)), (3, (.ptr 1 0))] [(.cells 44 none [(.v (.s a0)), (.v (.i .i64 a1)), (.v (.i .i64 a2))]), (.cells 57 none [(.ptr 1 0), (.own 2)]), (.row 5 a3 true)] []
    | (.inr (a0, a1, a2, a3, a4)) => k (.pan (.ifc 41 (.agg [(.v (.i .i64 a0)), (.v (.i .i64 a1))]))) [] [(.cells 44 none [(.v (.s a2)), (.v (.i .i64 a3)), (.v (.i .i64 a4))])] []
theorem p_lex_reader_text_43_ok : PieceOk p_lex_reader_text_43 := by
  refine ⟨fun env H ds s h => ?_, fun x env H ds e h => ?_, fun R e k => by rcases e with e | e <;> kernel_rfl⟩
  · simp only [p_lex_reader_text_43] at h ⊢; split at h <;> first | (cases h; simp only [List.forall_mem_cons]; simp_all; done) | (cases h; done)
  · simp only [p_lex_reader_text_43] at h ⊢; split at h <;> first | (cases h; simp only [List.forall_mem_cons]; simp_all; done) | (cases h; done)
theorem p_lex_reader_text_43_ct (κ : Nat) (m : Int) : CutOk Tryd.prog C (G m) Tryd.f33.ntmps 1 (pieceOf (.cnd 30 11) (getBody Tryd.f33)) (p_lex_reader_text_43.cut (gcN 1 [0, 3, 30]) (fun (a0, a1, a2, a3, a4) => lex_reader_text.v43 κ a0 a1 a2 a3 a4)) :=
  Piece.join p_lex_reader_text_43_ok C_ok mixed (gam14_ok κ m) gcN_ok (xN_ok gcN_ok (ex_cons gcN_ok (ex_cons gcN_ok (ex_cons gcN_ok (ex_nil)))) gcN_ok gcN_ok) (cut := (ct_lex_reader_text_41 κ)) (X := (xN (gcN 1 [0, 3]) [(2, (gcN 1 [0, 3])), (1, (gcN 1 [0, 3])), (0, (gcN 1 [2]))] (gcN 1 [2]) (gcN 1 [1000000]))) (cuts_by (l := []) (by kernel_rfl) (all_nil)) (fun s => by kernel_rfl)
def cc_lex_reader_text_44 (κ : Nat) : Cut T := p_lex_reader_text_43.cut (gcN 1 [0, 3, 30]) (fun (a0, a1, a2, a3, a4) => lex_reader_text.v43 κ a0 a1 a2 a3 a4)
theorem cc_lex_reader_text_44_ok (κ : Nat) (m : Int) : CutOk Tryd.prog C (G m) Tryd.f33.ntmps 1 (pieceOf (.cnd 30 11) (getBody Tryd.f33)) (cc_lex_reader_text_44 κ) := p_lex_reader_text_43_ct κ m
def ct_lex_reader_text_44 (κ : Nat) : Key → Option (Cut T) := addCut (ct_lex_reader_text_41 κ) (.cnd 30 11) (cc_lex_reader_text_44 κ)
def p_lex_reader_text_42 : Piece T (ByteArray × Bool × ByteArray × Int × Int × (List Int)) ((ByteArray × Int × Int × (List Int)) ⊕ ((Int × Int × ByteArray × Int × Int) ⊕ (ByteArray × ByteArray × Int × Int))) where
  dcS env H ds := match env 0, env 3, env 4, env 10, H, ds with
    | (.ptr 0 0), (.ptr 1 0), (.v (.s a0)), (.v (.b a1)), [(.cells 44 none [(.v (.s a2)), (.v (.i .i64 a3)), (.v (.i .i64 a4))]), (.cells 57 none [(.ptr 1 0), (.own 2)]), (.row 5 a5 true)], [] => some (a0, a1, a2, a3, a4, a5)
    | _, _, _, _, _, _ => none
  slS := fun (a0, a1, a2, a3, a4, a5) => [(0, (.ptr 0 0)), (3, (.ptr 1 0)), (4, (.v (.s a0))), (10, (.v (.b a1)))]
  obS := fun (a0, a1, a2, a3, a4, a5) => [(.cells 44 none [(.v (.s a2)), (.v (.i .i64 a3)), (.v (.i .i64 a4))]), (.cells 57 none [(.ptr 1 0), (.own 2)]), (.row 5 a5 true)]
  dsS := fun (a0, a1, a2, a3, a4, a5) => []
  dcE x env H ds := match x, env 0, env 2, env 3, H, ds with
    | .normal, (.ptr 0 0), _, (.ptr 1 0), [(.cells 44 none [(.v (.s a0)), (.v (.i .i64 a1)), (.v (.i .i64 a2))]), (.cells 57 none [(.ptr 1 0), (.own 2)]), (.row 5 a3 true)], [] => some (.inl (a0, a1, a2, a3))
    | (.pan (.ifc 41 (.agg [(.v (.i .i64 a0)), (.v (.i .i64 a1))]))), _, _, _, [(.cells 44 none [(.v (.s a2)), (.v (.i .i64 a3)), (.v (.i .i64 a4))])], [] => some (.inr (.inl (a0, a1, a2, a3, a4)))
    | .ret, _, (.v (.s a0)), _, [(.cells 44 none [(.v (.s a1)), (.v (.i .i64 a2)), (.v (.i .i64 a3))])], [] => some (.inr (.inr (a0, a1, a2, a3)))
    | _, _, _, _, _, _ => none
  exE := fun x => match x with
    | (.inl (a0, a1, a2, a3)) => .normal
    | (.inr (.inl (a0, a1, a2, a3, a4))) => (.pan (.ifc 41 (.agg [(.v (.i .i64 a0)), (.v (.i .i64 a1))])))
    | (.inr (.inr (a0, a1, a2, a3))) => .ret
  slE := fun x => match x with
    | (.inl (a0, a1, a2, a3)) => [(0, (.ptr 0 0)), (3, (.ptr 1 0))]
    | (.inr (.inl (a0, a1, a2, a3, a4))) => []
    | (.inr (.inr (a0, a1, a2, a3))) => [(2, (.v (.s a0)))]
  obE := fun x => match x with
    | (.inl (a0, a1, a2, a3)) => [(.cells 44 none [(.v (.s a0)), (.v (.i .i64 a1)), (.v (.i .i64 a2))]), (.cells 57 none [(.ptr 1 0), (.own 2)]), (.row 5 a3 true)]
    | (.inr (.inl (a0, a1, a2, a3, a4))) => [(.cells 44 none [(.v (.s a2)), (.v (.i .i64 a3)), (.v (.i .i64 a4))])]
    | (.inr (.inr (a0, a1, a2, a3))) => [(.cells 44 none [(.v (.s a1)), (.v (.i .i64 a2)), (.v (.i .i64 a3))])]
  dsE := fun x => match x with
    | (.inl (a0, a1, a2, a3)) => []
    | (.inr (.inl (a0, a1, a2, a3, a4))) => []
    | (.inr (.inr (a0, a1, a2, a3))) => []
  goE := fun _ x k => match x with
    | (.inl (a0, a1, a2, a3)) => k .normal [(0, (.ptr 0 0)), (3, (.ptr 1 0))] [(.cells 44 none [(.v (.s a0)), (.v (.i .i64 a1)), (.v (.i .i64 a2))]), (.cells 57 none [(.ptr 1 0), (.own 2)]), (.row 5 a3 true)] []
    | (.inr (.inl (a0, a1, a2, a3, a4))) => k (.pan (.ifc 41 (.agg [(.v (.i .i64 a0)), (.v (.i .i64 a1))]))) [] [(.cells 44 none [(.v (.s a2)), (.v (.i .i64 a3)), (.v (.i .i64 a4))])] []
    | (.inr (.inr (a0, a1, a2, a3))) => k .ret [(2, (.v (.s a0)))] [(.cells 44 none [(.v (.s a1)), (.v (.i .i64 a2)), (.v (.i .i64 a3))])] []
theorem p_lex_reader_text_42_ok : PieceOk p_lex_reader_text_42 := by
  refine ⟨fun env H ds s h => ?_, fun x env H ds e h => ?_, fun R e k => by rcases e with e | e | e <;> kernel_rfl⟩
  · simp only [p_lex_reader_text_42] at h ⊢; split at h <;> first | (cases h; simp only [List.forall_mem_cons]; simp_all; done) | (cases h; done)
  · simp only [p_lex_reader_text_42] at h ⊢; split at h <;> first | (cases h; simp only [List.forall_mem_cons]; simp_all; done) | (cases h; done)
theorem p_lex_reader_text_42_ct (κ : Nat) (m : Int) : CutOk Tryd.prog C (G m) Tryd.f33.ntmps 1 (pieceOf (.cnd 10 6) (getBody Tryd.f33)) (p_lex_reader_text_42.cut (gcN 1 [0, 3, 4, 10]) (fun (a0, a1, a2, a3, a4, a5) => lex_reader_text.v42 κ a0 a1 a2 a3 a4 a5)) :=
  Piece.join p_lex_reader_text_42_ok C_ok mixed (gam14_ok κ m) gcN_ok (xN_ok gcN_ok (ex_cons gcN_ok (ex_cons gcN_ok (ex_cons gcN_ok (ex_nil)))) gcN_ok gcN_ok) (cut := (ct_lex_reader_text_44 κ)) (X := (xN (gcN 1 [0, 3]) [(2, (gcN 1 [0, 3])), (1, (gcN 1 [0, 3])), (0, (gcN 1 [2]))] (gcN 1 [2]) (gcN 1 [1000000]))) (cuts_by (l := [(pieceOf (.cnd 30 11) (getBody Tryd.f33), cc_lex_reader_text_44 κ)]) (by kernel_rfl) (all_cons (cc_lex_reader_text_44_ok κ m) (all_nil))) (fun s => by kernel_rfl)
def cc_lex_reader_text_45 (κ : Nat) : Cut T := p_lex_reader_text_42.cut (gcN 1 [0, 3, 4, 10]) (fun (a0, a1, a2, a3, a4, a5) => lex_reader_text.v42 κ a0 a1 a2 a3 a4 a5)
theorem cc_lex_reader_text_45_ok (κ : Nat) (m : Int) : CutOk Tryd.prog C (G m) Tryd.f33.ntmps 1 (pieceOf (.cnd 10 6) (getBody Tryd.f33)) (cc_lex_reader_text_45 κ) := p_lex_reader_text_42_ct κ m
def ct_lex_reader_text_45 (κ : Nat) : Key → Option (Cut T) := addCut (ct_lex_reader_text_41 κ) (.cnd 10 6) (cc_lex_reader_text_45 κ)
def p_lex_reader_text_39 : Piece T (ByteArray × ByteArray × Int × Int × (List Int)) ((ByteArray × Int × Int × (List Int)) ⊕ ((Int × Int × ByteArray × Int × Int) ⊕ (ByteArray × ByteArray × Int × Int))) where
  dcS env H ds := match env 0, env 3, env 4, H, ds with
    | (.ptr 0 0), (.ptr 1 0), (.v (.s a0)), [(.cells 44 none [(.v (.s a1)), (.v (.i .i64 a2)), (.v (.i .i64 a3))]), (.cells 57 none [(.ptr 1 0), (.own 2)]), (.row 5 a4 true)], [] => some (a0, a1, a2, a3, a4)
    | _, _, _, _, _ => none
  slS := fun (a0, a1, a2, a3, a4) => [(0, (.ptr 0 0)), (3, (.ptr 1 0)), (4, (.v (.s a0)))]
  obS := fun (a0, a1, a2, a3, a4) => [(.cells 44 none [(.v (.s a1)), (.v (.i .i64 a2)), (.v (.i .i64 a3))]), (.cells 57 none [(.ptr 1 0), (.own 2)]), (.row 5 a4 true)]
  dsS := fun (a0, a1, a2, a3, a4) => []
  dcE x env H ds := match x, env 0, env 2, env 3, H, ds with
    | .normal, (.ptr 0 0), _, (.ptr 1 0), [(.cells 44 none [(.v (.s a0)), (.v (.i .i64 a1)), (.v (.i .i64 a2))]), (.cells 57 none [(.ptr 1 0), (.own 2)]), (.row 5 a3 true)], [] => some (.inl (a0, a1, a2, a3))
    | (.pan (.ifc 41 (.agg [(.v (.i .i64 a0)), (.v (.i .i64 a1))]))), _, _, _, [(.cells 44 none [(.v (.s a2)), (.v (.i .i64 a3)), (.v (.i .i64 a4))])], [] => some (.inr (.inl (a0, a1, a2, a3, a4)))
    | .ret, _, (.v (.s a0)), _, [(.cells 44 none [(.v (.s a1)), (.v (.i .i64 a2)), (.v (.i .i64 a3))])], [] => some (.inr (.inr (a0, a1, a2, a3)))
    | _, _, _, _, _, _ => none
  exE := fun x => match x with
    | (.inl (a0, a1, a2, a3)) => .normal
    | (.inr (.inl (a0, a1, a2, a3, a4))) => (.pan (.ifc 41 (.agg [(.v (.i .i64 a0)), (.v (.i .i64 a1))])))
    | (.inr (.inr (a0, a1, a2, a3))) => .ret
  slE := fun x => match x with
    | (.inl (a0, a1, a2, a3)) => [(0, (.ptr 0 0)), (3, (.ptr 1 0))]
    | (.inr (.inl (a0, a1, a2, a3, a4))) => []
    | (.inr (.inr (a0, a1, a2, a3))) => [(2, (.v (.s a0)))]
  obE := fun x => match x with
    | (.inl (a0, a1, a2, a3)) => [(.cells 44 none [(.v (.s a0)), (.v (.i .i64 a1)), (.v (.i .i64 a2))]), (.cells 57 none [(.ptr 1 0), (.own 2)]), (.row 5 a3 true)]
    | (.inr (.inl (a0, a1, a2, a3, a4))) => [(.cells 44 none [(.v (.s a2)), (.v (.i .i64 a3)), (.v (.i .i64 a4))])]
    | (.inr (.inr (a0, a1, a2, a3))) => [(.cells 44 none [(.v (.s a1)), (.v (.i .i64 a2)), (.v (.i .i64 a3))])]
  dsE := fun x => match x with
    | (.inl (a0, a1, a2, a3)) => []
    | (.inr (.inl (a0, a1, a2, a3, a4))) => []
    | (.inr (.inr (a0, a1, a2, a3))) => []
  goE := fun _ x k => match x with
    | (.inl (a0, a1, a2, a3)) => k .normal [(0, (.ptr 0 0)), (3, (.ptr 1 0))] [(.cells 44 none [(.v (.s a0)), (.v (.i .i64 a1)), (.v (.i .i64 a2))]), (.cells 57 none [(.ptr 1 0), (.own 2)]), (.row 5 a3 true)] []
    | (.inr (.inl (a0, a1, a2, a3, a4))) => k (.pan (.ifc 41 (.agg [(.v (.i .i64 a0)), (.v (.i .i64 a1))]))) [] [(.cells 44 none [(.v (.s a2)), (.v (.i .i64 a3)), (.v (.i .i64 a4))])] []
    | (.inr (.inr (a0, a1, a2, a3))) => k .ret [(2, (.v (.s a0)))] [(.cells 44 none [(.v (.s a1)), (.v (.i .i64 a2)), (.v (.i .i64 a3))])] []
theorem p_lex_reader_text_39_ok : PieceOk p_lex_reader_text_39 := by
  refine ⟨fun env H ds s h => ?_, fun x env H ds e h => ?_, fun R e k => by rcases e with e | e | e <;> kernel_rfl⟩
  · simp only [p_lex_reader_text_39] at h ⊢; split at h <;> first | (cases h; simp only [List.forall_mem_cons]; simp_all; done) | (cases h; done)
  · simp only [p_lex_reader_text_39] at h ⊢; split at h <;> first | (cases h; simp only [List.forall_mem_cons]; simp_all; done) | (cases h; done)
theorem p_lex_reader_text_39_ct (κ : Nat) (m : Int) : CutOk Tryd.prog C (G m) Tryd.f33.ntmps 1 (pieceOf (.blk 2) (getBody Tryd.f33)) (p_lex_reader_text_39.cut (gcN 1 [0, 3, 4]) (fun (a0, a1, a2, a3, a4) => lex_reader_text.v39 κ a0 a1 a2 a3 a4)) :=
  Piece.join p_lex_reader_text_39_ok C_ok mixed (gam14_ok κ m) gcN_ok (xN_ok gcN_ok (ex_cons gcN_ok (ex_cons gcN_ok (ex_nil))) gcN_ok gcN_ok) (cut := (ct_lex_reader_text_45 κ)) (X := (xN (gcN 1 [0, 3]) [(1, (gcN 1 [0, 3])), (0, (gcN 1 [2]))] (gcN 1 [2]) (gcN 1 [1000000]))) (cuts_by (l := [(pieceOf (.reg 4) (getBody Tryd.f33), cc_lex_reader_text_41 κ), (pieceOf (.cnd 10 6) (getBody Tryd.f33), cc_lex_reader_text_45 κ)]) (by kernel_rfl) (all_cons (cc_lex_reader_text_41_ok κ m) (all_cons (cc_lex_reader_text_45_ok κ m) (all_nil)))) (fun s => by kernel_rfl)
def cc_lex_reader_text_46 (κ : Nat) : Cut T := p_lex_reader_text_32.cutOr (gcN 1 [0, 3, 4]) (fun (a0, a1, a2, a3, a4) => lex_reader_text.v32 κ a0 a1 a2 a3 a4) (p_lex_reader_text_39.cut (gcN 1 [0, 3, 4]) (fun (a0, a1, a2, a3, a4) => lex_reader_text.v39 κ a0 a1 a2 a3 a4))
theorem cc_lex_reader_text_46_ok (κ : Nat) (m : Int) : CutOk Tryd.prog C (G m) Tryd.f33.ntmps 1 (pieceOf (.blk 2) (getBody Tryd.f33)) (cc_lex_reader_text_46 κ) := Piece.or_ok (p_lex_reader_text_32_ct κ m) (p_lex_reader_text_39_ct κ m)
def ct_lex_reader_text_46 (κ : Nat) : Key → Option (Cut T) := addCut noCut (.blk 2) (cc_lex_reader_text_46 κ)
def p_lex_reader_text_31 : Piece T ((ByteArray × Int × Int × (List Int)) ⊕ (ByteArray × Int × Int × (List Int))) ((Int × Int × ByteArray × Int × Int) ⊕ (ByteArray × ByteArray × Int × Int)) where
  dcS env H ds := match env 0, env 3, H, ds with
    | (.ptr 0 0), (.ptr 1 0), [(.cells 44 none [(.v (.s a0)), (.v (.i .i64 a1)), (.v (.i .i64 a2))]), (.cells 57 none [(.v .pn), (.own 2)]), (.row 5 a3 true)], [] => some (.inl (a0, a1, a2, a3))
    | (.ptr 0 0), (.ptr 1 0), [(.cells 44 none [(.v (.s a0)), (.v (.i .i64 a1)), (.v (.i .i64 a2))]), (.cells 57 none [(.ptr 1 0), (.own 2)]), (.row 5 a3 true)], [] => some (.inr (a0, a1, a2, a3))
    | _, _, _, _ => none
  slS := fun s => match s with
    | (.inl (a0, a1, a2, a3)) => [(0, (.ptr 0 0)), (3, (.ptr 1 0))]
    | (.inr (a0, a1, a2, a3)) => [(0, (.ptr 0 0)), (3, (.ptr 1 0))]
  obS := fun s => match s with
    | (.inl (a0, a1, a2, a3)) => [(.cells 44 none [(.v (.s a0)), (.v (.i .i64 a1)), (.v (.i .i64 a2))]), (.cells 57 none [(.v .pn), (.own 2)]), (.row 5 a3 true)]
    | (.inr (a0, a1, a2, a3)) => [(.cells 44 none [(.v (.s a0)), (.v (.i .i64 a1)), (.v (.i .i64 a2))]), (.cells 57 none [(.ptr 1 0), (.own 2)]), (.row 5 a3 true)]
  dsS := fun s => match s with
    | (.inl (a0, a1, a2, a3)) => []
    | (.inr (a0, a1, a2, a3)) => []
  dcE x env H ds := match x, env 2, H, ds with
    | (.pan (.ifc 41 (.agg [(.v (.i .i64 a0)), (.v (.i .i64 a1))]))), _, [(.cells 44 none [(.v (.s a2)), (.v (.i .i64 a3)), (.v (.i .i64 a4))])], [] => some (.inl (a0, a1, a2, a3, a4))
    | .ret, (.v (.s a0)), [(.cells 44 none [(.v (.s a1)), (.v (.i .i64 a2)), (.v (.i .i64 a3))])], [] => some (.inr (a0, a1, a2, a3))
    | _, _, _, _ => none
  exE := fun x => match x with
    | (.inl (a0, a1, a2, a3, a4)) => (.pan (.ifc 41 (.agg [(.v (.i .i64 a0)), (.v (.i .i64 a1))])))
    | (.inr (a0, a1, a2, a3)) => .ret
  slE := fun x => match x with
    | (.inl (a0, a1, a2, a3, a4)) => []
    | (.inr (a0, a1, a2, a3)) => [(2, (.v (.s a0)))]
  obE := fun x => match x with
    | (.inl (a0, a1, a2, a3, a4)) => [(.cells 44 none [(.v (.s a2)), (.v (.i .i64 a3)), (.v (.i .i64 a4))])]
    | (.inr (a0, a1, a2, a3)) => [(.cells 44 none [(.v (.s a1)), (.v (.i .i64 a2)), (.v (.i .i64 a3))])]
  dsE := fun x => match x with
    | (.inl (a0, a1, a2, a3, a4)) => []
    | (.inr (a0, a1, a2, a3)) => []
  goE := fun _ x k => match x with
    | (.inl (a0, a1, a2, a3, a4)) => k (.pan (.ifc 41 (.agg [(.v (.i .i64 a0)), (.v (.i .i64 a1))]))) [] [(.cells 44 none [(.v (.s a2)), (.v (.i .i64 a3)), (.v (.i .i64 a4))])] []
    | (.inr (a0, a1, a2, a3)) => k .ret [(2, (.v (.s a0)))] [(.cells 44 none [(.v (.s a1)), (.v (.i .i64 a2)), (.v (.i .i64 a3))])] []
theorem p_lex_reader_text_31_ok : PieceOk p_lex_reader_text_31 := by
  refine ⟨fun env H ds s h => ?_, fun x env H ds e h => ?_, fun R e k => by rcases e with e | e <;> kernel_rfl⟩
  · simp only [p_lex_reader_text_31] at h ⊢; split at h <;> first | (cases h; simp only [List.forall_mem_cons]; simp_all; done) | (cases h; done)
  · simp only [p_lex_reader_text_31] at h ⊢; split at h <;> first | (cases h; simp only [List.forall_mem_cons]; simp_all; done) | (cases h; done)
theorem p_lex_reader_text_31_ct (κ : Nat) (m : Int) : CutOk Tryd.prog C (G m) Tryd.f33.ntmps 1 (pieceOf (.blk 0) (getBody Tryd.f33)) (p_lex_reader_text_31.cut (andN (gcN 1 [0, 3]) (andN (promC 1 1 [] 5) (gcN 1 [0, 3]))) (lex_reader_text.l31 κ κ)) :=
  Piece.loop p_lex_reader_text_31_ok C_ok mixed (gam14_ok κ m) (andN_ok gcN_ok (andN_ok promC_ok gcN_ok)) (xN_ok gcN_ok (ex_nil) gcN_ok gcN_ok) (cut := (ct_lex_reader_text_46 κ)) (X := (xN (gcN 1 [2]) [] (gcN 1 [2]) (gcN 1 [1000000]))) (id := 0) (body := bodyOf (pieceOf (.blk 0) (getBody Tryd.f33))) (cuts_by (l := [(pieceOf (.blk 2) (getBody Tryd.f33), cc_lex_reader_text_46 κ)]) (by kernel_rfl) (all_cons (cc_lex_reader_text_46_ok κ m) (all_nil))) (f := lex_reader_text.l31 κ) (fun s => by rcases s with s | s <;> kernel_rfl) (fun k s => by rcases s with s | s <;> kernel_rfl) κ
def cc_lex_reader_text_47 (κ : Nat) : Cut T := p_lex_reader_text_31.cut (andN (gcN 1 [0, 3]) (andN (promC 1 1 [] 5) (gcN 1 [0, 3]))) (lex_reader_text.l31 κ κ)
theorem cc_lex_reader_text_47_ok (κ : Nat) (m : Int) : CutOk Tryd.prog C (G m) Tryd.f33.ntmps 1 (pieceOf (.blk 0) (getBody Tryd.f33)) (cc_lex_reader_text_47 κ) := p_lex_reader_text_31_ct κ m
def ct_lex_reader_text_47 (κ : Nat) : Key → Option (Cut T) := addCut noCut (.blk 0) (cc_lex_reader_text_47 κ)
def sp_lex_reader_text : Spec T (ByteArray × Int × Int) ((Int × Int × ByteArray × Int × Int) ⊕ (ByteArray × ByteArray × Int × Int)) where
  dcI a H := match a, H with
    | [(.ptr 0 0)], [(.cells 44 none [(.v (.s a0)), (.v (.i .i64 a1)), (.v (.i .i64 a2))])] => some (a0, a1, a2)
    | _, _ => none
  ecA := fun (a0, a1, a2) => [(.ptr 0 0)]
  ecH := fun (a0, a1, a2) => [(.cells 44 none [(.v (.s a0)), (.v (.i .i64 a1)), (.v (.i .i64 a2))])]
  dcO o := match o with
    | .panic (.ifc 41 (.agg [(.v (.i .i64 a0)), (.v (.i .i64 a1))])) [(.cells 44 none [(.v (.s a2)), (.v (.i .i64 a3)), (.v (.i .i64 a4))])] => some (.inl (a0, a1, a2, a3, a4))
    | .ret (.v (.s a0)) [(.cells 44 none [(.v (.s a1)), (.v (.i .i64 a2)), (.v (.i .i64 a3))])] => some (.inr (a0, a1, a2, a3))
    | _ => none
  goO := fun _ x k => match x with
    | (.inl (a0, a1, a2, a3, a4)) => k (.panic (.ifc 41 (.agg [(.v (.i .i64 a0)), (.v (.i .i64 a1))])) [(.cells 44 none [(.v (.s a2)), (.v (.i .i64 a3)), (.v (.i .i64 a4))])])
    | (.inr (a0, a1, a2, a3)) => k (.ret (.v (.s a0)) [(.cells 44 none [(.v (.s a1)), (.v (.i .i64 a2)), (.v (.i .i64 a3))])])
  ecO := fun x => match x with
    | (.inl (a0, a1, a2, a3, a4)) => .panic (.ifc 41 (.agg [(.v (.i .i64 a0)), (.v (.i .i64 a1))])) [(.cells 44 none [(.v (.s a2)), (.v (.i .i64 a3)), (.v (.i .i64 a4))])]
    | (.inr (a0, a1, a2, a3)) => .ret (.v (.s a0)) [(.cells 44 none [(.v (.s a1)), (.v (.i .i64 a2)), (.v (.i .i64 a3))])]
theorem sp_lex_reader_text_ok : SpecOk sp_lex_reader_text := by
  refine ⟨fun a H i h => ?_, fun o x h => ?_, fun R e k => by rcases e with e | e <;> kernel_rfl⟩
  · simp only [sp_lex_reader_text] at h ⊢; split at h <;> first | (cases h; exact ⟨rfl, rfl⟩) | (cases h; done)
  · simp only [sp_lex_reader_text] at h ⊢; split at h <;> first | (cases h; rfl) | (cases h; done)
theorem ok_lex_reader_text (κ : Nat) (m : Int) : EOk Tryd.prog C (G m) 33 (sp_lex_reader_text.entry (fun (a0, a1, a2) => lex_reader_text κ a0 a1 a2)) :=
  Spec.ok sp_lex_reader_text_ok C_ok mixed (gam14_ok κ m) (cut := (ct_lex_reader_text_47 κ)) (NR := (gcN 1 [0])) (NP := (gcN 1 [0])) (nB := 1) Tryd.func33 (c := (getBody Tryd.f33)) (by kernel_rfl) (by kernel_rfl) (fun i => by kernel_rfl) gcN_ok gcN_ok (cuts_by (l := [(pieceOf (.blk 0) (getBody Tryd.f33), cc_lex_reader_text_47 κ)]) (by kernel_rfl) (all_cons (cc_lex_reader_text_47_ok κ m) (all_nil))) (fun i => by kernel_rfl)
noncomputable def gam15 (κ : Nat) : Gam T := (gam14 κ).addS 33 sp_lex_reader_text (fun (a0, a1, a2) => lex_reader_text κ a0 a1 a2)
theorem gam15_ok (κ : Nat) (m : Int) : GOk Tryd.prog C (G m) (gam15 κ) := (gam14_ok κ m).addS (ok_lex_reader_text κ m)
def sp_lex_reader_word : Spec T (ByteArray × Int × Int) (ByteArray × ByteArray × Int × Int) where
  dcI a H := match a, H with
    | [(.ptr 0 0)], [(.cells 44 none [(.v (.s a0)), (.v (.i .i64 a1)), (.v (.i .i64 a2))])] => some (a0, a1, a2)
    | _, _ => none
  ecA := fun (a0, a1, a2) => [(.ptr 0 0)]
  ecH := fun (a0, a1, a2) => [(.cells 44 none [(.v (.s a0)), (.v (.i .i64 a1)), (.v (.i .i64 a2))])]
  dcO o := match o with
    | .ret (.v (.s a0)) [(.cells 44 none [(.v (.s a1)), (.v (.i .i64 a2)), (.v (.i .i64 a3))])] => some (a0, a1, a2, a3)
    | _ => none
  goO := fun _ (a0, a1, a2, a3) k => k (.ret (.v (.s a0)) [(.cells 44 none [(.v (.s a1)), (.v (.i .i64 a2)), (.v (.i .i64 a3))])])
  ecO := fun (a0, a1, a2, a3) => .ret (.v (.s a0)) [(.cells 44 none [(.v (.s a1)), (.v (.i .i64 a2)), (.v (.i .i64 a3))])]
theorem sp_lex_reader_word_ok : SpecOk sp_lex_reader_word := by
  refine ⟨fun a H i h => ?_, fun o x h => ?_, fun R e k => by kernel_rfl⟩
  · simp only [sp_lex_reader_word] at h ⊢; split at h <;> first | (cases h; exact ⟨rfl, rfl⟩) | (cases h; done)
  · simp only [sp_lex_reader_word] at h ⊢; split at h <;> first | (cases h; rfl) | (cases h; done)
theorem ok_lex_reader_word (κ : Nat) (m : Int) : EOk Tryd.prog C (G m) 34 (sp_lex_reader_word.entry (fun (a0, a1, a2) => lex_reader_word κ a0 a1 a2)) :=
  Spec.ok sp_lex_reader_word_ok C_ok mixed (gam15_ok κ m) (cut := noCut) (NR := (gcN 1 [0])) (NP := (gcN 1 [0])) (nB := 1) Tryd.func34 (c := (getBody Tryd.f34)) (by kernel_rfl) (by kernel_rfl) (fun i => by kernel_rfl) gcN_ok gcN_ok (cuts_by (l := []) (by kernel_rfl) (all_nil)) (fun i => by kernel_rfl)
noncomputable def gam16 (κ : Nat) : Gam T := (gam15 κ).addS 34 sp_lex_reader_word (fun (a0, a1, a2) => lex_reader_word κ a0 a1 a2)
theorem gam16_ok (κ : Nat) (m : Int) : GOk Tryd.prog C (G m) (gam16 κ) := (gam15_ok κ m).addS (ok_lex_reader_word κ m)
def p_lex_reader_one_4 : Piece T (ByteArray × Int × Int × Int × ByteArray × Int × Int × Int × ByteArray × Int × Int) (Bool × ByteArray × Int × Int × Int × ByteArray × Int × Int × Int × ByteArray × Int × Int) where
  dcS env H ds := match env 0, env 2, env 4, H, ds with
    | (.ptr 0 0), (.ptr 1 0), (.ptr 2 0), [(.cells 44 none [(.v (.s a0)), (.v (.i .i64 a1)), (.v (.i .i64 a2))]), (.cells 37 none [(.v (.i .i64 a3)), (.v (.s a4)), (.v (.i .i64 a5)), (.v (.i .i64 a6))]), (.cells 37 none [(.v (.i .i64 a7)), (.v (.s a8)), (.v (.i .i64 a9)), (.v (.i .i64 a10))])], [] => some (a0, a1, a2, a3, a4, a5, a6, a7, a8, a9, a10)
    | _, _, _, _, _ => none
  slS := fun (a0, a1, a2, a3, a4, a5, a6, a7, a8, a9, a10) => [(0, (.ptr 0 0)), (2, (.ptr 1 0)), (4, (.ptr 2 0))]
  obS := fun (a0, a1, a2, a3, a4, a5, a6, a7, a8, a9, a10) => [(.cells 44 none [(.v (.s a0)), (.v (.i .i64 a1)), (.v (.i .i64 a2))]), (.cells 37 none [(.v (.i .i64 a3)), (.v (.s a4)), (.v (.i .i64 a5)), (.v (.i .i64 a6))]), (.cells 37 none [(.v (.i .i64 a7)), (.v (.s a8)), (.v (.i .i64 a9)), (.v (.i .i64 a10))])]
  dsS := fun (a0, a1, a2, a3, a4, a5, a6, a7, a8, a9, a10) => []
  dcE x env H ds := match x, env 0, env 2, env 4, env 33, H, ds with
    | .normal, (.ptr 0 0), (.ptr 1 0), (.ptr 2 0), (.v (.b a0)), [(.cells 44 none [(.v (.s a1)), (.v (.i .i64 a2)), (.v (.i .i64 a3))]), (.cells 37 none [(.v (.i .i64 a4)), (.v (.s a5)), (.v (.i .i64 a6)), (.v (.i .i64 a7))]), (.cells 37 none [(.v (.i .i64 a8)), (.v (.s a9)), (.v (.i .i64 a10)), (.v (.i .i64 a11))])], [] => some (a0, a1, a2, a3, a4, a5, a6, a7, a8, a9, a10, a11)
    | _, _, _, _, _, _, _ => none
  exE := fun (a0, a1, a2, a3, a4, a5, a6, a7, a8, a9, a10, a11) => .normal
  slE := fun (a0, a1, a2, a3, a4, a5, a6, a7, a8, a9, a10, a11) => [(0, (.ptr 0 0)), (2, (.ptr 1 0)), (4, (.ptr 2 0)), (33, (.v (.b a0)))]
  obE := fun (a0, a1, a2, a3, a4, a5, a6, a7, a8, a9, a10, a11) => [(.cells 44 none [(.v (.s a1)), (.v (.i .i64 a2)), (.v (.i .i64 a3))]), (.cells 37 none [(.v (.i .i64 a4)), (.v (.s a5)), (.v (.i .i64 a6)), (.v (.i .i64 a7))]), (.cells 37 none [(.v (.i .i64 a8)), (.v (.s a9)), (.v (.i .i64 a10)), (.v (.i .i64 a11))])]
  dsE := fun (a0, a1, a2, a3, a4, a5, a6, a7, a8, a9, a10, a11) => []
  goE := fun _ (a0, a1, a2, a3, a4, a5, a6, a7, a8, a9, a10, a11) k => k .normal [(0, (.ptr 0 0)), (2, (.ptr 1 0)), (4, (.ptr 2 0)), (33, (.v (.b a0)))] [(.cells 44 none [(.v (.s a1)), (.v (.i .i64 a2)), (.v (.i .i64 a3))]), (.cells 37 none [(.v (.i .i64 a4)), (.v (.s a5)), (.v (.i .i64 a6)), (.v (.i .i64 a7))]), (.cells 37 none [(.v (.i .i64 a8)), (.v (.s a9)), (.v (.i .i64 a10)), (.v (.i .i64 a11))])] []
theorem p_lex_reader_one_4_ok : PieceOk p_lex_reader_one_4 := by
  refine ⟨fun env H ds s h => ?_, fun x env H ds e h => ?_, fun R e k => by kernel_rfl⟩
  · simp only [p_lex_reader_one_4] at h ⊢; split at h <;> first | (cases h; simp only [List.forall_mem_cons]; simp_all; done) | (cases h; done)
  · simp only [p_lex_reader_one_4] at h ⊢; split at h <;> first | (cases h; simp only [List.forall_mem_cons]; simp_all; done) | (cases h; done)
theorem p_lex_reader_one_4_ct (κ : Nat) (m : Int) : CutOk Tryd.prog C (G m) Tryd.f18.ntmps 1 (pieceOf (.reg 8) (getBody Tryd.f18)) (p_lex_reader_one_4.cut (gcN 1 [0, 2, 4]) (fun (a0, a1, a2, a3, a4, a5, a6, a7, a8, a9, a10) => lex_reader_one.v4 κ a0 a1 a2 a3 a4 a5 a6 a7 a8 a9 a10)) :=
  Piece.join p_lex_reader_one_4_ok C_ok mixed (gam16_ok κ m) gcN_ok (xN_ok gcN_ok (ex_cons gcN_ok (ex_cons gcN_ok (ex_nil))) gcN_ok gcN_ok) (cut := noCut) (X := (xN (gcN 1 [0, 2, 4, 33]) [(1, (gcN 1 [2, 4])), (0, (gcN 1 [2, 4]))] (gcN 1 [2, 3]) (gcN 1 [1000000]))) (cuts_by (l := []) (by kernel_rfl) (all_nil)) (fun s => by kernel_rfl)
def cc_lex_reader_one_5 (κ : Nat) : Cut T := p_lex_reader_one_4.cut (gcN 1 [0, 2, 4]) (fun (a0, a1, a2, a3, a4, a5, a6, a7, a8, a9, a10) => lex_reader_one.v4 κ a0 a1 a2 a3 a4 a5 a6 a7 a8 a9 a10)
theorem cc_lex_reader_one_5_ok (κ : Nat) (m : Int) : CutOk Tryd.prog C (G m) Tryd.f18.ntmps 1 (pieceOf (.reg 8) (getBody Tryd.f18)) (cc_lex_reader_one_5 κ) := p_lex_reader_one_4_ct κ m
def ct_lex_reader_one_5 (κ : Nat) : Key → Option (Cut T) := addCut noCut (.reg 8) (cc_lex_reader_one_5 κ)
def p_lex_reader_one_3 : Piece T (ByteArray × Int × Int × Int × ByteArray × Int × Int × Int × ByteArray × Int × Int) (ByteArray × Int × Int × Int × ByteArray × Int × Int × Int × ByteArray × Int × Int) where
  dcS env H ds := match env 0, env 2, env 4, H, ds with
    | (.ptr 0 0), (.ptr 1 0), (.ptr 2 0), [(.cells 44 none [(.v (.s a0)), (.v (.i .i64 a1)), (.v (.i .i64 a2))]), (.cells 37 none [(.v (.i .i64 a3)), (.v (.s a4)), (.v (.i .i64 a5)), (.v (.i .i64 a6))]), (.cells 37 none [(.v (.i .i64 a7)), (.v (.s a8)), (.v (.i .i64 a9)), (.v (.i .i64 a10))])], [] => some (a0, a1, a2, a3, a4, a5, a6, a7, a8, a9, a10)
    | _, _, _, _, _ => none
  slS := fun (a0, a1, a2, a3, a4, a5, a6, a7, a8, a9, a10) => [(0, (.ptr 0 0)), (2, (.ptr 1 0)), (4, (.ptr 2 0))]
  obS := fun (a0, a1, a2, a3, a4, a5, a6, a7, a8, a9, a10) => [(.cells 44 none [(.v (.s a0)), (.v (.i .i64 a1)), (.v (.i .i64 a2))]), (.cells 37 none [(.v (.i .i64 a3)), (.v (.s a4)), (.v (.i .i64 a5)), (.v (.i .i64 a6))]), (.cells 37 none [(.v (.i .i64 a7)), (.v (.s a8)), (.v (.i .i64 a9)), (.v (.i .i64 a10))])]
  dsS := fun (a0, a1, a2, a3, a4, a5, a6, a7, a8, a9, a10) => []
  dcE x env H ds := match x, env 2, env 4, H, ds with
    | .normal, (.ptr 1 0), (.ptr 2 0), [(.cells 44 none [(.v (.s a0)), (.v (.i .i64 a1)), (.v (.i .i64 a2))]), (.cells 37 none [(.v (.i .i64 a3)), (.v (.s a4)), (.v (.i .i64 a5)), (.v (.i .i64 a6))]), (.cells 37 none [(.v (.i .i64 a7)), (.v (.s a8)), (.v (.i .i64 a9)), (.v (.i .i64 a10))])], [] => some (a0, a1, a2, a3, a4, a5, a6, a7, a8, a9, a10)
    | _, _, _, _, _ => none
  exE := fun (a0, a1, a2, a3, a4, a5, a6, a7, a8, a9, a10) => .normal
  slE := fun (a0, a1, a2, a3, a4, a5, a6, a7, a8, a9, a10) => [(2, (.ptr 1 0)), (4, (.ptr 2 0))]
  obE := fun (a0, a1, a2, a3, a4, a5, a6, a7, a8, a9, a10) => [(.cells 44 none [(.v (.s a0)), (.v (.i .i64 a1)), (.v (.i .i64 a2))]), (.cells 37 none [(.v (.i .i64 a3)), (.v (.s a4)), (.v (.i .i64 a5)), (.v (.i .i64 a6))]), (.cells 37 none [(.v (.i .i64 a7)), (.v (.s a8)), (.v (.i .i64 a9)), (.v (.i .i64 a10))])]
  dsE := fun (a0, a1, a2, a3, a4, a5, a6, a7, a8, a9, a10) => []
  goE := fun _ (a0, a1, a2, a3, a4, a5, a6, a7, a8, a9, a10) k => k .normal [(2, (.ptr 1 0)), (4, (.ptr 2 0))] [(.cells 44 none [(.v (.s a0)), (.v (.i .i64 a1)), (.v (.i .i64 a2))]), (.cells 37 none [(.v (.i .i64 a3)), (.v (.s a4)), (.v (.i .i64 a5)), (.v (.i .i64 a6))]), (.cells 37 none [(.v (.i .i64 a7)), (.v (.s a8)), (.v (.i .i64 a9)), (.v (.i .i64 a10))])] []
theorem p_lex_reader_one_3_ok : PieceOk p_lex_reader_one_3 := by
  refine ⟨fun env H ds s h => ?_, fun x env H ds e h => ?_, fun R e k => by kernel_rfl⟩
  · simp only [p_lex_reader_one_3] at h ⊢; split at h <;> first | (cases h; simp only [List.forall_mem_cons]; simp_all; done) | (cases h; done)
  · simp only [p_lex_reader_one_3] at h ⊢; split at h <;> first | (cases h; simp only [List.forall_mem_cons]; simp_all; done) | (cases h; done)
theorem p_lex_reader_one_3_ct (κ : Nat) (m : Int) : CutOk Tryd.prog C (G m) Tryd.f18.ntmps 1 (pieceOf (.blk 1) (getBody Tryd.f18)) (p_lex_reader_one_3.cut (gcN 1 [0, 2, 4]) (lex_reader_one.l3 κ κ)) :=
  Piece.loop p_lex_reader_one_3_ok C_ok mixed (gam16_ok κ m) gcN_ok (xN_ok gcN_ok (ex_cons gcN_ok (ex_nil)) gcN_ok gcN_ok) (cut := (ct_lex_reader_one_5 κ)) (X := (xN (gcN 1 [2, 4]) [(0, (gcN 1 [2, 4]))] (gcN 1 [2, 3]) (gcN 1 [1000000]))) (id := 1) (body := bodyOf (pieceOf (.blk 1) (getBody Tryd.f18))) (cuts_by (l := [(pieceOf (.reg 8) (getBody Tryd.f18), cc_lex_reader_one_5 κ)]) (by kernel_rfl) (all_cons (cc_lex_reader_one_5_ok κ m) (all_nil))) (f := lex_reader_one.l3 κ) (fun s => by kernel_rfl) (fun k s => by kernel_rfl) κ
def cc_lex_reader_one_6 (κ : Nat) : Cut T := p_lex_reader_one_3.cut (gcN 1 [0, 2, 4]) (lex_reader_one.l3 κ κ)
theorem cc_lex_reader_one_6_ok (κ : Nat) (m : Int) : CutOk Tryd.prog C (G m) Tryd.f18.ntmps 1 (pieceOf (.blk 1) (getBody Tryd.f18)) (cc_lex_reader_one_6 κ) := p_lex_reader_one_3_ct κ m
def ct_lex_reader_one_6 (κ : Nat) : Key → Option (Cut T) := addCut noCut (.blk 1) (cc_lex_reader_one_6 κ)
def p_lex_reader_one_7 : Piece T (ByteArray × ByteArray × Int × Int × Int × ByteArray × Int × Int × Int × ByteArray × Int × Int) (ByteArray × Bool × ByteArray × Int × Int × Int × ByteArray × Int × Int × Int × ByteArray × Int × Int) where
  dcS env H ds := match env 0, env 2, env 4, env 5, H, ds with
    | (.ptr 0 0), (.ptr 1 0), (.ptr 2 0), (.v (.s a0)), [(.cells 44 none [(.v (.s a1)), (.v (.i .i64 a2)), (.v (.i .i64 a3))]), (.cells 37 none [(.v (.i .i64 a4)), (.v (.s a5)), (.v (.i .i64 a6)), (.v (.i .i64 a7))]), (.cells 37 none [(.v (.i .i64 a8)), (.v (.s a9)), (.v (.i .i64 a10)), (.v (.i .i64 a11))])], [] => some (a0, a1, a2, a3, a4, a5, a6, a7, a8, a9, a10, a11)
    | _, _, _, _, _, _ => none
  slS := fun (a0, a1, a2, a3, a4, a5, a6, a7, a8, a9, a10, a11) => [(0, (.ptr 0 0)), (2, (.ptr 1 0)), (4, (.ptr 2 0)), (5, (.v (.s a0)))]
  obS := fun (a0, a1, a2, a3, a4, a5, a6, a7, a8, a9, a10, a11) => [(.cells 44 none [(.v (.s a1)), (.v (.i .i64 a2)), (.v (.i .i64 a3))]), (.cells 37 none [(.v (.i .i64 a4)), (.v (.s a5)), (.v (.i .i64 a6)), (.v (.i .i64 a7))]), (.cells 37 none [(.v (.i .i64 a8)), (.v (.s a9)), (.v (.i .i64 a10)), (.v (.i .i64 a11))])]
  dsS := fun (a0, a1, a2, a3, a4, a5, a6, a7, a8, a9, a10, a11) => []
  dcE x env H ds := match x, env 0, env 2, env 4, env 5, env 37, H, ds with
    | .normal, (.ptr 0 0), (.ptr 1 0), (.ptr 2 0), (.v (.s a0)), (.v (.b a1)), [(.cells 44 none [(.v (.s a2)), (.v (.i .i64 a3)), (.v (.i .i64 a4))]), (.cells 37 none [(.v (.i .i64 a5)), (.v (.s a6)), (.v (.i .i64 a7)), (.v (.i .i64 a8))]), (.cells 37 none [(.v (.i .i64 a9)), (.v (.s a10)), (.v (.i .i64 a11)), (.v (.i .i64 a12))])], [] => some (a0, a1, a2, a3, a4, a5, a6, a7, a8, a9, a10, a11, a12)
    | _, _, _, _, _, _, _, _ => none
  exE := fun (a0, a1, a2, a3, a4, a5, a6, a7, a8, a9, a10, a11, a12) => .normal
  slE := fun (a0, a1, a2, a3, a4, a5, a6, a7, a8, a9, a10, a11, a12) => [(0, (.ptr 0 0)), (2, (.ptr 1 0)), (4, (.ptr 2 0)), (5, (.v (.s a0))), (37, (.v (.b a1)))]
  obE := fun (a0, a1, a2, a3, a4, a5, a6, a7, a8, a9, a10, a11, a12) => [(.cells 44 none [(.v (.s a2)), (.v (.i .i64 a3)), (.v (.i .i64 a4))]), (.cells 37 none [(.v (.i .i64 a5)), (.v (.s a6)), (.v (.i .i64 a7)), (.v (.i .i64 a8))]), (.cells 37 none [(.v (.i .i64 a9)), (.v (.s a10)), (.v (.i .i64 a11)), (.v (.i .i64 a12))])]
  dsE := fun (a0, a1, a2, a3, a4, a5, a6, a7, a8, a9, a10, a11, a12) => []
  goE := fun _ (a0, a1, a2, a3, a4, a5, a6, a7, a8, a9, a10, a11, a12) k => k .normal [(0, (.ptr 0 0)), (2, (.ptr 1 0)), (4, (.ptr 2 0)), (5, (.v (.s a0))), (37, (.v (.b a1)))] [(.cells 44 none [(.v (.s a2)), (.v (.i .i64 a3)), (.v (.i .i64 a4))]), (.cells 37 none [(.v (.i .i64 a5)), (.v (.s a6)), (.v (.i .i64 a7)), (.v (.i .i64 a8))]), (.cells 37 none [(.v (.i .i64 a9)), (.v (.s a10)), (.v (.i .i64 a11)), (.v (.i .i64 a12))])] []
theorem p_lex_reader_one_7_ok : PieceOk p_lex_reader_one_7 := by
  refine ⟨fun env H ds s h => ?_, fun x env H ds e h => ?_, fun R e k => by kernel_rfl⟩
  · simp only [p_lex_reader_one_7] at h ⊢; split at h <;> first | (cases h; simp only [List.forall_mem_cons]; simp_all; done) | (cases h; done)
  · simp only [p_lex_reader_one_7] at h ⊢; split at h <;> first | (cases h; simp only [List.forall_mem_cons]; simp_all; done) | (cases h; done)
theorem p_lex_reader_one_7_ct (κ : Nat) (m : Int) : CutOk Tryd.prog C (G m) Tryd.f18.ntmps 1 (pieceOf (.reg 11) (getBody Tryd.f18)) (p_lex_reader_one_7.cut (gcN 1 [0, 2, 4, 5]) (fun (a0, a1, a2, a3, a4, a5, a6, a7, a8, a9, a10, a11) => lex_reader_one.v7 κ a0 a1 a2 a3 a4 a5 a6 a7 a8 a9 a10 a11)) :=
  Piece.join p_lex_reader_one_7_ok C_ok mixed (gam16_ok κ m) gcN_ok (xN_ok gcN_ok (ex_cons gcN_ok (ex_nil)) gcN_ok gcN_ok) (cut := (ct_lex_reader_one_6 κ)) (X := (xN (gcN 1 [0, 2, 4, 5, 37]) [(0, (gcN 1 [2, 4]))] (gcN 1 [2, 3]) (gcN 1 [1000000]))) (cuts_by (l := []) (by kernel_rfl) (all_nil)) (fun s => by kernel_rfl)
def cc_lex_reader_one_8 (κ : Nat) : Cut T := p_lex_reader_one_7.cut (gcN 1 [0, 2, 4, 5]) (fun (a0, a1, a2, a3, a4, a5, a6, a7, a8, a9, a10, a11) => lex_reader_one.v7 κ a0 a1 a2 a3 a4 a5 a6 a7 a8 a9 a10 a11)
theorem cc_lex_reader_one_8_ok (κ : Nat) (m : Int) : CutOk Tryd.prog C (G m) Tryd.f18.ntmps 1 (pieceOf (.reg 11) (getBody Tryd.f18)) (cc_lex_reader_one_8 κ) := p_lex_reader_one_7_ct κ m
def ct_lex_reader_one_8 (κ : Nat) : Key → Option (Cut T) := addCut (ct_lex_reader_one_6 κ) (.reg 11) (cc_lex_reader_one_8 κ)
def p_lex_reader_one_11 : Piece T (ByteArray × ByteArray × Int × Int × Int × ByteArray × Int × Int × Int × ByteArray × Int × Int) (Bool × ByteArray × Int × Int × Int × ByteArray × Int × Int × Int × ByteArray × Int × Int) where
  dcS env H ds := match env 0, env 2, env 4, env 5, H, ds with
    | (.ptr 0 0), (.ptr 1 0), (.ptr 2 0), (.v (.s a0)), [(.cells 44 none [(.v (.s a1)), (.v (.i .i64 a2)), (.v (.i .i64 a3))]), (.cells 37 none [(.v (.i .i64 a4)), (.v (.s a5)), (.v (.i .i64 a6)), (.v (.i .i64 a7))]), (.cells 37 none [(.v (.i .i64 a8)), (.v (.s a9)), (.v (.i .i64 a10)), (.v (.i .i64 a11))])], [] => some (a0, a1, a2, a3, a4, a5, a6, a7, a8, a9, a10, a11)
    | _, _, _, _, _, _ => none
  slS := fun (a0, a1, a2, a3, a4, a5, a6, a7, a8, a9, a10, a11) => [(0, (.ptr 0 0)), (2, (.ptr 1 0)), (4, (.ptr 2 0)), (5, (.v (.s a0)))]
  obS := fun (a0, a1, a2, a3, a4, a5, a6, a7, a8, a9, a10, a11) => [(.cells 44 none [(.v (.s a1)), (.v (.i .i64 a2)), (.v (.i .i64 a3))]), (.cells 37 none [(.v (.i .i64 a4)), (.v (.s a5)), (.v (.i .i64 a6)), (.v (.i .i64 a7))]), (.cells 37 none [(.v (.i .i64 a8)), (.v (.s a9)), (.v (.i .i64 a10)), (.v (.i .i64 a11))])]
  dsS := fun (a0, a1, a2, a3, a4, a5, a6, a7, a8, a9, a10, a11) => []
  dcE x env H ds := match x, env 0, env 2, env 4, env 62, H, ds with
    | .normal, (.ptr 0 0), (.ptr 1 0), (.ptr 2 0), (.v (.b a0)), [(.cells 44 none [(.v (.s a1)), (.v (.i .i64 a2)), (.v (.i .i64 a3))]), (.cells 37 none [(.v (.i .i64 a4)), (.v (.s a5)), (.v (.i .i64 a6)), (.v (.i .i64 a7))]), (.cells 37 none [(.v (.i .i64 a8)), (.v (.s a9)), (.v (.i .i64 a10)), (.v (.i .i64 a11))])], [] => some (a0, a1, a2, a3, a4, a5, a6, a7, a8, a9, a10, a11)
    | _, _, _, _, _, _, _ => none
  exE := fun (a0, a1, a2, a3, a4, a5, a6, a7, a8, a9, a10, a11) => .normal
  slE := fun (a0, a1, a2, a3, a4, a5, a6, a7, a8, a9, a10, a11) => [(0, (.ptr 0 0)), (2, (.ptr 1 0)), (4, (.ptr 2 0)), (62, (.v (.b a0)))]
  obE := fun (a0, a1, a2, a3, a4, a5, a6, a7, a8, a9, a10, a11) => [(.cells 44 none [(.v (.s a1)), (.v (.i .i64 a2)), (.v (.i .i64 a3))]), (.cells 37 none [(.v (.i .i64 a4)), (.v (.s a5)), (.v (.i .i64 a6)), (.v (.i .i64 a7))]), (.cells 37 none [(.v (.i .i64 a8)), (.v (.s a9)), (.v (.i .i64 a10)), (.v (.i .i64 a11))])]
  dsE := fun (a0, a1, a2, a3, a4, a5, a6, a7, a8, a9, a10, a11) => []
  goE := fun _ (a0, a1, a2, a3, a4, a5, a6, a7, a8, a9, a10, a11) k => k .normal [(0, (.ptr 0 0)), (2, (.ptr 1 0)), (4, (.ptr 2 0)), (62, (.v (.b a0)))] [(.cells 44 none [(.v (.s a1)), (.v (.i .i64 a2)), (.v (.i .i64 a3))]), (.cells 37 none [(.v (.i .i64 a4)), (.v (.s a5)), (.v (.i .i64 a6)), (.v (.i .i64 a7))]), (.cells 37 none [(.v (.i .i64 a8)), (.v (.s a9)), (.v (.i .i64 a10)), (.v (.i .i64 a11))])] []
theorem p_lex_reader_one_11_ok : PieceOk p_lex_reader_one_11 := by
  refine ⟨fun env H ds s h => ?_, fun x env H ds e h => ?_, fun R e k => by kernel_rfl⟩
  · simp only [p_lex_reader_one_11] at h ⊢; split at h <;> first | (cases h; simp only [List.forall_mem_cons]; simp_all; done) | (cases h; done)
  · simp only [p_lex_reader_one_11] at h ⊢; split at h <;> first | (cases h; simp only [List.forall_mem_cons]; simp_all; done) | (cases h; done)
theorem p_lex_reader_one_11_ct (κ : Nat) (m : Int) : CutOk Tryd.prog C (G m) Tryd.f18.ntmps 1 (pieceOf (.reg 16) (getBody Tryd.f18)) (p_lex_reader_one_11.cut (gcN 1 [0, 2, 4, 5]) (fun (a0, a1, a2, a3, a4, a5, a6, a7, a8, a9, a10, a11) => lex_reader_one.v11 κ a0 a1 a2 a3 a4 a5 a6 a7 a8 a9 a10 a11)) :=
  Piece.join p_lex_reader_one_11_ok C_ok mixed (gam16_ok κ m) gcN_ok (xN_ok gcN_ok (ex_cons gcN_ok (ex_nil)) gcN_ok gcN_ok) (cut := (ct_lex_reader_one_8 κ)) (X := (xN (gcN 1 [0, 2, 4, 62]) [(0, (gcN 1 [2, 4]))] (gcN 1 [2, 3]) (gcN 1 [1000000]))) (cuts_by (l := []) (by kernel_rfl) (all_nil)) (fun s => by kernel_rfl)
def cc_lex_reader_one_12 (κ : Nat) : Cut T := p_lex_reader_one_11.cut (gcN 1 [0, 2, 4, 5]) (fun (a0, a1, a2, a3, a4, a5, a6, a7, a8, a9, a10, a11) => lex_reader_one.v11 κ a0 a1 a2 a3 a4 a5 a6 a7 a8 a9 a10 a11)
theorem cc_lex_reader_one_12_ok (κ : Nat) (m : Int) : CutOk Tryd.prog C (G m) Tryd.f18.ntmps 1 (pieceOf (.reg 16) (getBody Tryd.f18)) (cc_lex_reader_one_12 κ) := p_lex_reader_one_11_ct κ m
def ct_lex_reader_one_12 (κ : Nat) : Key → Option (Cut T) := addCut (ct_lex_reader_one_8 κ) (.reg 16) (cc_lex_reader_one_12 κ)
def p_lex_reader_one_13 : Piece T (Bool × ByteArray × Int × Int × Int × ByteArray × Int × Int × Int × ByteArray × Int × Int) ((Int × Int × ByteArray × Int × Int) ⊕ (ByteArray × Int × Int × Int × ByteArray × Int × Int × Int × ByteArray × Int × Int)) where
  dcS env H ds := match env 0, env 2, env 4, env 62, H, ds with
    | (.ptr 0 0), (.ptr 1 0), (.ptr 2 0), (.v (.b a0)), [(.cells 44 none [(.v (.s a1)), (.v (.i .i64 a2)), (.v (.i .i64 a3))]), (.cells 37 none [(.v (.i .i64 a4)), (.v (.s a5)), (.v (.i .i64 a6)), (.v (.i .i64 a7))]), (.cells 37 none [(.v (.i .i64 a8)), (.v (.s a9)), (.v (.i .i64 a10)), (.v (.i .i64 a11))])], [] => some (a0, a1, a2, a3, a4, a5, a6, a7, a8, a9, a10, a11)
    | _, _, _, _, _, _ => none
  slS := fun (a0, a1, a2, a3, a4, a5, a6, a7, a8, a9, a10, a11) => [(0, (.ptr 0 0)), (2, (.ptr 1 0)), (4, (.ptr 2 0)), (62, (.v (.b a0)))]
  obS := fun (a0, a1, a2, a3, a4, a5, a6, a7, a8, a9, a10, a11) => [(.cells 44 none [(.v (.s a1)), (.v (.i .i64 a2)), (.v (.i .i64 a3))]), (.cells 37 none [(.v (.i .i64 a4)), (.v (.s a5)), (.v (.i .i64 a6)), (.v (.i .i64 a7))]), (.cells 37 none [(.v (.i .i64 a8)), (.v (.s a9)), (.v (.i .i64 a10)), (.v (.i .i64 a11))])]
  dsS := fun (a0, a1, a2, a3, a4, a5, a6, a7, a8, a9, a10, a11) => []
  dcE x env H ds := match x, env 2, env 4, H, ds with
    | (.pan (.ifc 41 (.agg [(.v (.i .i64 a0)), (.v (.i .i64 a1))]))), _, _, [(.cells 44 none [(.v (.s a2)), (.v (.i .i64 a3)), (.v (.i .i64 a4))])], [] => some (.inl (a0, a1, a2, a3, a4))
    | .normal, (.ptr 1 0), (.ptr 2 0), [(.cells 44 none [(.v (.s a0)), (.v (.i .i64 a1)), (.v (.i .i64 a2))]), (.cells 37 none [(.v (.i .i64 a3)), (.v (.s a4)), (.v (.i .i64 a5)), (.v (.i .i64 a6))]), (.cells 37 none [(.v (.i .i64 a7)), (.v (.s a8)), (.v (.i .i64 a9)), (.v (.i .i64 a10))])], [] => some (.inr (a0, a1, a2, a3, a4, a5, a6, a7, a8, a9, a10))
    | _, _, _, _, _ => none
  exE := fun x => match x with
    | (.inl (a0, a1, a2, a3, a4)) => (.pan (.ifc 41 (.agg [(.v (.i .i64 a0)), (.v (.i .i64 a1))])))
    | (.inr (a0, a1, a2, a3, a4, a5, a6, a7, a8, a9, a10)) => .normal
  slE := fun x => match x with
    | (.inl (a0, a1, a2, a3, a4)) => []
    | (.inr (a0, a1, a2, a3, a4, a5, a6, a7, a8, a9, a10)) => [(2, (.ptr 1 0)), (4, (.ptr 2 0))]
  obE := fun x => match x with
    | (.inl (a0, a1, a2, a3, a4)) => [(.cells 44 none [(.v (.s a2)), (.v (.i .i64 a3)), (.v (.i .i64 a4))])]
    | (.inr (a0, a1, a2, a3, a4, a5, a6, a7, a8, a9, a10)) => [(.cells 44 none [(.v (.s a0)), (.v (.i .i64 a1)), (.v (.i .i64 a2))]), (.cells 37 none [(.v (.i .i64 a3)), (.v (.s a4)), (.v (.i .i64 a5)), (.v (.i .i64 a6))]), (.cells 37 none [(.v (.i .i64 a7)), (.v (.s a8)), (.v (.i .i64 a9)), (.v (.i .i64 a10))])]
  dsE := fun x => match x with
    | (.inl (a0, a1, a2, a3, a4)) => []
    | (.inr (a0, a1, a2, a3, a4, a5, a6, a7, a8, a9, a10)) => []
  goE := fun _ x k => match x with
    | (.inl (a0, a1, a2, a3, a4)) => k (.pan (.ifc 41 (.agg [(.v (.i .i64 a0)), (.v (.i .i64 a1))]))) [] [(.cells 44 none [(.v (.s a2)), (.v (.i .i64 a3)), (.v (.i .i64 a4))])] []
    | (.inr (a0, a1, a2, a3, a4, a5, a6, a7, a8, a9, a10)) => k .normal [(2, (.ptr 1 0)), (4, (.ptr 2 0))] [(.cells 44 none [(.v (.s a0)), (.v (.i .i64 a1)), (.v (.i .i64 a2))]), (.cells 37 none [(.v (.i .i64 a3)), (.v (.s a4)), (.v (.i .i64 a5)), (.v (.i .i64 a6))]), (.cells 37 none [(.v (.i .i64 a7)), (.v (.s a8)), (.v (.i .i64 a9)), (.v (.i .i64 a10))])] []
theorem p_lex_reader_one_13_ok : PieceOk p_lex_reader_one_13 := by
  refine ⟨fun env H ds s h => ?_, fun x env H ds e h => ?_, fun R e k => by rcases e with e | e <;> kernel_rfl⟩
  · simp only [p_lex_reader_one_13] at h ⊢; split at h <;> first | (cases h; simp only [List.forall_mem_cons]; simp_all; done) | (cases h; done)
  · simp only [p_lex_reader_one_13] at h ⊢; split at h <;> first | (cases h; simp only [List.forall_mem_cons]; simp_all; done) | (cases h; done)
theorem p_lex_reader_one_13_ct (κ : Nat) (m : Int) : CutOk Tryd.prog C (G m) Tryd.f18.ntmps 1 (pieceOf (.cnd 62 18) (getBody Tryd.f18)) (p_lex_reader_one_13.cut (gcN 1 [0, 2, 4, 62]) (fun (a0, a1, a2, a3, a4, a5, a6, a7, a8, a9, a10, a11) => lex_reader_one.v13 κ a0 a1 a2 a3 a4 a5 a6 a7 a8 a9 a10 a11)) :=
  Piece.join p_lex_reader_one_13_ok C_ok mixed (gam16_ok κ m) gcN_ok (xN_ok gcN_ok (ex_cons gcN_ok (ex_nil)) gcN_ok gcN_ok) (cut := (ct_lex_reader_one_12 κ)) (X := (xN (gcN 1 [2, 4]) [(0, (gcN 1 [2, 4]))] (gcN 1 [2, 3]) (gcN 1 [1000000]))) (cuts_by (l := []) (by kernel_rfl) (all_nil)) (fun s => by kernel_rfl)
def cc_lex_reader_one_14 (κ : Nat) : Cut T := p_lex_reader_one_13.cut (gcN 1 [0, 2, 4, 62]) (fun (a0, a1, a2, a3, a4, a5, a6, a7, a8, a9, a10, a11) => lex_reader_one.v13 κ a0 a1 a2 a3 a4 a5 a6 a7 a8 a9 a10 a11)
theorem cc_lex_reader_one_14_ok (κ : Nat) (m : Int) : CutOk Tryd.prog C (G m) Tryd.f18.ntmps 1 (pieceOf (.cnd 62 18) (getBody Tryd.f18)) (cc_lex_reader_one_14 κ) := p_lex_reader_one_13_ct κ m
def ct_lex_reader_one_14 (κ : Nat) : Key → Option (Cut T) := addCut (ct_lex_reader_one_12 κ) (.cnd 62 18) (cc_lex_reader_one_14 κ)
def p_lex_reader_one_10 : Piece T (ByteArray × Bool × ByteArray × Int × Int × Int × ByteArray × Int × Int × Int × ByteArray × Int × Int) ((Int × Int × ByteArray × Int × Int) ⊕ (ByteArray × Int × Int × Int × ByteArray × Int × Int × Int × ByteArray × Int × Int)) where
  dcS env H ds := match env 0, env 2, env 4, env 5, env 53, H, ds with
    | (.ptr 0 0), (.ptr 1 0), (.ptr 2 0), (.v (.s a0)), (.v (.b a1)), [(.cells 44 none [(.v (.s a2)), (.v (.i .i64 a3)), (.v (.i .i64 a4))]), (.cells 37 none [(.v (.i .i64 a5)), (.v (.s a6)), (.v (.i .i64 a7)), (.v (.i .i64 a8))]), (.cells 37 none [(.v (.i .i64 a9)), (.v (.s a10)), (.v (.i .i64 a11)), (.v (.i .i64 a12))])], [] => some (a0, a1, a2, a3, a4, a5, a6, a7, a8, a9, a10, a11, a12)
    | _, _, _, _, _, _, _ => none
  slS := fun (a0, a1, a2, a3, a4, a5, a6, a7, a8, a9, a10, a11, a12) => [(0, (.ptr 0 0)), (2, (.ptr 1 0)), (4, (.ptr 2 0)), (5, (.v (.s a0))), (53, (.v (.b a1)))]
  obS := fun (a0, a1, a2, a3, a4, a5, a6, a7, a8, a9, a10, a11, a12) => [(.cells 44 none [(.v (.s a2)), (.v (.i .i64 a3)), (.v (.i .i64 a4))]), (.cells 37 none [(.v (.i .i64 a5)), (.v (.s a6)), (.v (.i .i64 a7)), (.v (.i .i64 a8))]), (.cells 37 none [(.v (.i .i64 a9)), (.v (.s a10)), (.v (.i .i64 a11)), (.v (.i .i64 a12))])]
  dsS := fun (a0, a1, a2, a3, a4, a5, a6, a7, a8, a9, a10, a11, a12) => []
  dcE x env H ds := match x, env 2, env 4, H, ds with
    | (.pan (.ifc 41 (.agg [(.v (.i .i64 a0)), (.v (.i .i64 a1))]))), _, _, [(.cells 44 none [(.v (.s a2)), (.v (.i .i64 a3)), (.v (.i .i64 a4))])], [] => some (.inl (a0, a1, a2, a3, a4))
    | .normal, (.ptr 1 0), (.ptr 2 0), [(.cells 44 none [(.v (.s a0)), (.v (.i .i64 a1)), (.v (.i .i64 a2))]), (.cells 37 none [(.v (.i .i64 a3)), (.v (.s a4)), (.v (.i .i64 a5)), (.v (.i .i64 a6))]), (.cells 37 none [(.v (.i .i64 a7)), (.v (.s a8)), (.v (.i .i64 a9)), (.v (.i .i64 a10))])], [] => some (.inr (a0, a1, a2, a3, a4, a5, a6, a7, a8, a9, a10))
    | _, _, _, _, _ => none
  exE := fun x => match x with
    | (.inl (a0, a1, a2, a3, a4)) => (.pan (.ifc 41 (.agg [(.v (.i .i64 a0)), (.v (.i .i64 a1))])))
    | (.inr (a0, a1, a2, a3, a4, a5, a6, a7, a8, a9, a10)) => .normal
  slE := fun x => match x with
    | (.inl (a0, a1, a2, a3, a4)) => []
    | (.inr (a0, a1, a2, a3, a4, a5, a6, a7, a8, a9, a10)) => [(2, (.ptr 1 0)), (4, (.ptr 2 0))]
  obE := fun x => match x with
    | (.inl (a0, a1, a2, a3, a4)) => [(.cells 44 none [(.v (.s a2)), (.v (.i .i64 a3)), (.v (.i .i64 a4))])]
    | (.inr (a0, a1, a2, a3, a4, a5, a6, a7, a8, a9, a10)) => [(.cells 44 none [(.v (.s a0)), (.v (.i .i64 a1)), (.v (.i .i64 a2))]), (.cells 37 none [(.v (.i .i64 a3)), (.v (.s a4)), (.v (.i .i64 a5)), (.v (.i .i64 a6))]), (.cells 37 none [(.v (.i .i64 a7)), (.v (.s a8)), (.v (.i .i64 a9)), (.v (.i .i64 a10))])]
  dsE := fun x => match x with
    | (.inl (a0, a1, a2, a3, a4)) => []
    | (.inr (a0, a1, a2, a3, a4, a5, a6, a7, a8, a9, a10)) => []
  goE := fun _ x k => match x with
    | (.inl (a0, a1, a2, a3, a4)) => k (.pan (.ifc 41 (.agg [(.v (.i .i64 a0)), (.v (.i .i64 a1))]))) [] [(.cells 44 none [(.v (.s a2)), (.v (.i .i64 a3)), (.v (.i .i64 a4))])] []
    | (.inr (a0, a1, a2, a3, a4, a5, a6, a7, a8, a9, a10)) => k .normal [(2, (.ptr 1 0)), (4, (.ptr 2 0))] [(.cells 44 none [(.v (.s a0)), (.v (.i .i64 a1)), (.v (.i .i64 a2))]), (.cells 37 none [(.v (.i .i64 a3)), (.v (.s a4)), (.v (.i .i64 a5)), (.v (.i .i64 a6))]), (.cells 37 none [(.v (.i .i64 a7)), (.v (.s a8)), (.v (.i .i64 a9)), (.v (.i .i64 a10))])] []
theorem p_lex_reader_one_10_ok : PieceOk p_lex_reader_one_10 := by
  refine ⟨fun env H ds s h => ?_, fun x env H ds e h => ?_, fun R e k => by rcases e with e | e <;> kernel_rfl⟩
  · simp only [p_lex_reader_one_10] at h ⊢; split at h <;> first | (cases h; simp only [List.forall_mem_cons]; simp_all; done) | (cases h; done)
  · simp only [p_lex_reader_one_10] at h ⊢; split at h <;> first | (cases h; simp only [List.forall_mem_cons]; simp_all; done) | (cases h; done)
theorem p_lex_reader_one_10_ct (κ : Nat) (m : Int) : CutOk Tryd.prog C (G m) Tryd.f18.ntmps 1 (pieceOf (.cnd 53 15) (getBody Tryd.f18)) (p_lex_reader_one_10.cut (gcN 1 [0, 2, 4, 5, 53]) (fun (a0, a1, a2, a3, a4, a5, a6, a7, a8, a9, a10, a11, a12) => lex_reader_one.v10 κ a0 a1 a2 a3 a4 a5 a6 a7 a8 a9 a10 a11 a12)) :=
  Piece.join p_lex_reader_one_10_ok C_ok mixed (gam16_ok κ m) gcN_ok (xN_ok gcN_ok (ex_cons gcN_ok (ex_nil)) gcN_ok gcN_ok) (cut := (ct_lex_reader_one_14 κ)) (X := (xN (gcN 1 [2, 4]) [(0, (gcN 1 [2, 4]))] (gcN 1 [2, 3]) (gcN 1 [1000000]))) (cuts_by (l := [(pieceOf (.reg 16) (getBody Tryd.f18), cc_lex_reader_one_12 κ), (pieceOf (.cnd 62 18) (getBody Tryd.f18), cc_lex_reader_one_14 κ)]) (by kernel_rfl) (all_cons (cc_lex_reader_one_12_ok κ m) (all_cons (cc_lex_reader_one_14_ok κ m) (all_nil)))) (fun s => by kernel_rfl)
def cc_lex_reader_one_15 (κ : Nat) : Cut T := p_lex_reader_one_10.cut (gcN 1 [0, 2, 4, 5, 53]) (fun (a0, a1, a2, a3, a4, a5, a6, a7, a8, a9, a10, a11, a12) => lex_reader_one.v10 κ a0 a1 a2 a3 a4 a5 a6 a7 a8 a9 a10 a11 a12)
theorem cc_lex_reader_one_15_ok (κ : Nat) (m : Int) : CutOk Tryd.prog C (G m) Tryd.f18.ntmps 1 (pieceOf (.cnd 53 15) (getBody Tryd.f18)) (cc_lex_reader_one_15 κ) := p_lex_reader_one_10_ct κ m
def ct_lex_reader_one_15 (κ : Nat) : Key → Option (Cut T) := addCut (ct_lex_reader_one_8 κ) (.cnd 53 15) (cc_lex_reader_one_15 κ)
def p_lex_reader_one_9 : Piece T (ByteArray × Bool × ByteArray × Int × Int × Int × ByteArray × Int × Int × Int × ByteArray × Int × Int) ((Int × Int × ByteArray × Int × Int) ⊕ (ByteArray × Int × Int × Int × ByteArray × Int × Int × Int × ByteArray × Int × Int)) where
  dcS env H ds := match env 0, env 2, env 4, env 5, env 37, H, ds with
    | (.ptr 0 0), (.ptr 1 0), (.ptr 2 0), (.v (.s a0)), (.v (.b a1)), [(.cells 44 none [(.v (.s a2)), (.v (.i .i64 a3)), (.v (.i .i64 a4))]), (.cells 37 none [(.v (.i .i64 a5)), (.v (.s a6)), (.v (.i .i64 a7)), (.v (.i .i64 a8))]), (.cells 37 none [(.v (.i .i64 a9)), (.v (.s a10)), (.v (.i .i64 a11)), (.v (.i .i64 a12))])], [] => some (a0, a1, a2, a3, a4, a5, a6, a7, a8, a9, a10, a11, a12)
    | _, _, _, _, _, _, _ => none
  slS := fun (a0, a1, a2, a3, a4, a5, a6, a7, a8, a9, a10, a11, a12) => [(0, (.ptr 0 0)), (2, (.ptr 1 0)), (4, (.ptr 2 0)), (5, (.v (.s a0))), (37, (.v (.b a1)))]
  obS := fun (a0, a1, a2, a3, a4, a5, a6, a7, a8, a9, a10, a11, a12) => [(.cells 44 none [(.v (.s a2)), (.v (.i .i64 a3)), (.v (.i .i64 a4))]), (.cells 37 none [(.v (.i .i64 a5)), (.v (.s a6)), (.v (.i .i64 a7)), (.v (.i .i64 a8))]), (.cells 37 none [(.v (.i .i64 a9)), (.v (.s a10)), (.v (.i .i64 a11)), (.v (.i .i64 a12))])]
  dsS := fun (a0, a1, a2, a3, a4, a5, a6, a7, a8, a9, a10, a11, a12) => []
  dcE x env H ds := match x, env 2, env 4, H, ds with
    | (.pan (.ifc 41 (.agg [(.v (.i .i64 a0)), (.v (.i .i64 a1))]))), _, _, [(.cells 44 none [(.v (.s a2)), (.v (.i .i64 a3)), (.v (.i .i64 a4))])], [] => some (.inl (a0, a1, a2, a3, a4))
    | .normal, (.ptr 1 0), (.ptr 2 0), [(.cells 44 none [(.v (.s a0)), (.v (.i .i64 a1)), (.v (.i .i64 a2))]), (.cells 37 none [(.v (.i .i64 a3)), (.v (.s a4)), (.v (.i .i64 a5)), (.v (.i .i64 a6))]), (.cells 37 none [(.v (.i .i64 a7)), (.v (.s a8)), (.v (.i .i64 a9)), (.v (.i .i64 a10))])], [] => some (.inr (a0, a1, a2, a3, a4, a5, a6, a7, a8, a9, a10))
    | _, _, _, _, _ => none
  exE := fun x => match x with
    | (.inl (a0, a1, a2, a3, a4)) => (.pan (.ifc 41 (.agg [(.v (.i .i64 a0)), (.v (.i .i64 a1))])))
    | (.inr (a0, a1, a2, a3, a4, a5, a6, a7, a8, a9, a10)) => .normal
  slE := fun x => match x with
    | (.inl (a0, a1, a2, a3, a4)) => []
    | (.inr (a0, a1, a2, a3, a4, a5, a6, a7, a8, a9, a10)) => [(2, (.ptr 1 0)), (4, (.ptr 2 0))]
  obE := fun x => match x with
    | (.inl (a0, a1, a2, a3, a4)) => [(.cells 44 none [(.v (.s a2)), (.v (.i .i64 a3)), (.v (.i .i64 a4))])]
    | (.inr (a0, a1, a2, a3, a4, a5, a6, a7, a8, a9, a10)) => [(.cells 44 none [(.v (.s a0)), (.v (.i .i64 a1)), (.v (.i .i64 a2))]), (.cells 37 none [(.v (.i .i64 a3)), (.v (.s a4)), (.v (.i .i64 a5)), (.v (.i .i64 a6))]), (.cells 37 none [(.v (.i .i64 a7)), (.v (.s a8)), (.v (.i .i64 a9)), (.v (.i .i64 a10))])]
  dsE := fun x => match x with
    | (.inl (a0, a1, a2, a3, a4)) => []
    | (.inr (a0, a1, a2, a3, a4, a5, a6, a7, a8, a9, a10)) => []
  goE := fun _ x k => match x with
    | (.inl (a0, a1, a2, a3, a4)) => k (.pan (.ifc 41 (.agg [(.v (.i .i64 a0)), (.v (.i .i64 a1))]))) [] [(.cells 44 none [(.v (.s a2)), (.v (.i .i64 a3)), (.v (.i .i64 a4))])] []
    | (.inr (a0, a1, a2, a3, a4, a5, a6, a7, a8, a9, a10)) => k .normal [(2, (.ptr 1 0)), (4, (.ptr 2 0))] [(.cells 44 none [(.v (.s a0)), (.v (.i .i64 a1)), (.v (.i .i64 a2))]), (.cells 37 none [(.v (.i .i64 a3)), (.v (.s a4)), (.v (.i .i64 a5)), (.v (.i .i64 a6))]), (.cells 37 none [(.v (.i .i64 a7)), (.v (.s a8)), (.v (.i .i64 a9)), (.v (.i .i64 a10))])] []
theorem p_lex_reader_one_9_ok : PieceOk p_lex_reader_one_9 := by
  refine ⟨fun env H ds s h => ?_, fun x env H ds e h => ?_, fun R e k => by rcases e with e | e <;> kernel_rfl⟩
  · simp only [p_lex_reader_one_9] at h ⊢; split at h <;> first | (cases h; simp only [List.forall_mem_cons]; simp_all; done) | (cases h; done)
  · simp only [p_lex_reader_one_9] at h ⊢; split at h <;> first | (cases h; simp only [List.forall_mem_cons]; simp_all; done) | (cases h; done)
theorem p_lex_reader_one_9_ct (κ : Nat) (m : Int) : CutOk Tryd.prog C (G m) Tryd.f18.ntmps 1 (pieceOf (.cnd 37 13) (getBody Tryd.f18)) (p_lex_reader_one_9.cut (gcN 1 [0, 2, 4, 5, 37]) (fun (a0, a1, a2, a3, a4, a5, a6, a7, a8, a9, a10, a11, a12) => lex_reader_one.v9 κ a0 a1 a2 a3 a4 a5 a6 a7 a8 a9 a10 a11 a12)) :=
  Piece.join p_lex_reader_one_9_ok C_ok mixed (gam16_ok κ m) gcN_ok (xN_ok gcN_ok (ex_cons gcN_ok (ex_nil)) gcN_ok gcN_ok) (cut := (ct_lex_reader_one_15 κ)) (X := (xN (gcN 1 [2, 4]) [(0, (gcN 1 [2, 4]))] (gcN 1 [2, 3]) (gcN 1 [1000000]))) (cuts_by (l := [(pieceOf (.cnd 53 15) (getBody Tryd.f18), cc_lex_reader_one_15 κ)]) (by kernel_rfl) (all_cons (cc_lex_reader_one_15_ok κ m) (all_nil))) (fun s => by kernel_rfl)
def cc_lex_reader_one_16 (κ : Nat) : Cut T := p_lex_reader_one_9.cut (gcN 1 [0, 2, 4, 5, 37]) (fun (a0, a1, a2, a3, a4, a5, a6, a7, a8, a9, a10, a11, a12) => lex_reader_one.v9 κ a0 a1 a2 a3 a4 a5 a6 a7 a8 a9 a10 a11 a12)
theorem cc_lex_reader_one_16_ok (κ : Nat) (m : Int) : CutOk Tryd.prog C (G m) Tryd.f18.ntmps 1 (pieceOf (.cnd 37 13) (getBody Tryd.f18)) (cc_lex_reader_one_16 κ) := p_lex_reader_one_9_ct κ m
def ct_lex_reader_one_16 (κ : Nat) : Key → Option (Cut T) := addCut (ct_lex_reader_one_8 κ) (.cnd 37 13) (cc_lex_reader_one_16 κ)
def p_lex_reader_one_0 : Piece T (ByteArray × ByteArray × Int × Int × Int × ByteArray × Int × Int × Int × ByteArray × Int × Int) ((Int × Int × ByteArray × Int × Int) ⊕ ((ByteArray × Int × Int × Int × ByteArray × Int × Int × Int × ByteArray × Int × Int) ⊕ (Bool × ByteArray × Int × Int × Int × ByteArray × Int × Int))) where
  dcS env H ds := match env 0, env 2, env 4, env 5, H, ds with
    | (.ptr 0 0), (.ptr 1 0), (.ptr 2 0), (.v (.s a0)), [(.cells 44 none [(.v (.s a1)), (.v (.i .i64 a2)), (.v (.i .i64 a3))]), (.cells 37 none [(.v (.i .i64 a4)), (.v (.s a5)), (.v (.i .i64 a6)), (.v (.i .i64 a7))]), (.cells 37 none [(.v (.i .i64 a8)), (.v (.s a9)), (.v (.i .i64 a10)), (.v (.i .i64 a11))])], [] => some (a0, a1, a2, a3, a4, a5, a6, a7, a8, a9, a10, a11)
    | _, _, _, _, _, _ => none
  slS := fun (a0, a1, a2, a3, a4, a5, a6, a7, a8, a9, a10, a11) => [(0, (.ptr 0 0)), (2, (.ptr 1 0)), (4, (.ptr 2 0)), (5, (.v (.s a0)))]
  obS := fun (a0, a1, a2, a3, a4, a5, a6, a7, a8, a9, a10, a11) => [(.cells 44 none [(.v (.s a1)), (.v (.i .i64 a2)), (.v (.i .i64 a3))]), (.cells 37 none [(.v (.i .i64 a4)), (.v (.s a5)), (.v (.i .i64 a6)), (.v (.i .i64 a7))]), (.cells 37 none [(.v (.i .i64 a8)), (.v (.s a9)), (.v (.i .i64 a10)), (.v (.i .i64 a11))])]
  dsS := fun (a0, a1, a2, a3, a4, a5, a6, a7, a8, a9, a10, a11) => []
  dcE x env H ds := match x, env 2, env 3, env 4, H, ds with
    | (.pan (.ifc 41 (.agg [(.v (.i .i64 a0)), (.v (.i .i64 a1))]))), _, _, _, [(.cells 44 none [(.v (.s a2)), (.v (.i .i64 a3)), (.v (.i .i64 a4))])], [] => some (.inl (a0, a1, a2, a3, a4))
    | .normal, (.ptr 1 0), _, (.ptr 2 0), [(.cells 44 none [(.v (.s a0)), (.v (.i .i64 a1)), (.v (.i .i64 a2))]), (.cells 37 none [(.v (.i .i64 a3)), (.v (.s a4)), (.v (.i .i64 a5)), (.v (.i .i64 a6))]), (.cells 37 none [(.v (.i .i64 a7)), (.v (.s a8)), (.v (.i .i64 a9)), (.v (.i .i64 a10))])], [] => some (.inr (.inl (a0, a1, a2, a3, a4, a5, a6, a7, a8, a9, a10)))
    | .ret, (.ptr 1 0), (.v (.b a0)), _, [(.cells 44 none [(.v (.s a1)), (.v (.i .i64 a2)), (.v (.i .i64 a3))]), (.cells 37 none [(.v (.i .i64 a4)), (.v (.s a5)), (.v (.i .i64 a6)), (.v (.i .i64 a7))])], [] => some (.inr (.inr (a0, a1, a2, a3, a4, a5, a6, a7)))
    | _, _, _, _, _, _ => none
  exE := fun x => match x with
    | (.inl (a0, a1, a2, a3, a4)) => (.pan (.ifc 41 (.agg [(.v (.i .i64 a0)), (.v (.i .i64 a1))])))
    | (.inr (.inl (a0, a1, a2, a3, a4, a5, a6, a7, a8, a9, a10))) => .normal
    | (.inr (.inr (a0, a1, a2, a3, a4, a5, a6, a7))) => .ret
  slE := fun x => match x with
    | (.inl (a0, a1, a2, a3, a4)) => []
    | (.inr (.inl (a0, a1, a2, a3, a4, a5, a6, a7, a8, a9, a10))) => [(2, (.ptr 1 0)), (4, (.ptr 2 0))]
    | (.inr (.inr (a0, a1, a2, a3, a4, a5, a6, a7))) => [(2, (.ptr 1 0)), (3, (.v (.b a0)))]
  obE := fun x => match x with
    | (.inl (a0, a1, a2, a3, a4)) => [(.cells 44 none [(.v (.s a2)), (.v (.i .i64 a3)), (.v (.i .i64 a4))])]
    | (.inr (.inl (a0, a1, a2, a3, a4, a5, a6, a7, a8, a9, a10))) => [(.cells 44 none [(.v (.s a0)), (.v (.i .i64 a1)), (.v (.i .i64 a2))]), (.cells 37 none [(.v (.i .i64 a3)), (.v (.s a4)), (.v (.i .i64 a5)), (.v (.i .i64 a6))]), (.cells 37 none [(.v (.i .i64 a7)), (.v (.s a8)), (.v (.i .i64 a9)), (.v (.i .i64 a10))])]
    | (.inr (.inr (a0, a1, a2, a3, a4, a5, a6, a7))) => [(.cells 44 none [(.v (.s a1)), (.v (.i .i64 a2)), (.v (.i .i64 a3))]), (.cells 37 none [(.v (.i .i64 a4)), (.v (.s a5)), (.v (.i .i64 a6)), (.v (.i .i64 a7))])]
  dsE := fun x => match x with
    | (.inl (a0, a1, a2, a3, a4)) => []
    | (.inr (.inl (a0, a1, a2, a3, a4, a5, a6, a7, a8, a9, a10))) => []
    | (.inr (.inr (a0, a1, a2, a3, a4, a5, a6, a7))) => []
  goE := fun _ x k => match x with
    | (.inl (a0, a1, a2, a3, a4)) => k (.pan (.ifc 41 (.agg [(.v (.i .i64 a0)), (.v (.i .i64 a1))]))) [] [(.cells 44 none [(.v (.s a2)), (.v (.i .i64 a3)), (.v (.i .i64 a4))])] []
    | (.inr (.inl (a0, a1, a2, a3, a4, a5, a6, a7, a8, a9, a10))) => k .normal [(2, (.ptr 1 0)), (4, (.ptr 2 0))] [(.cells 44 none [(.v (.s a0)), (.v (.i .i64 a1)), (.v (.i .i64 a2))]), (.cells 37 none [(.v (.i .i64 a3)), (.v (.s a4)), (.v (.i .i64 a5)), (.v (.i .i64 a6))]), (.cells 37 none [(.v (.i .i64 a7)), (.v (.s a8)), (.v (.i .i64 a9)), (.v (.i .i64 a10))])] []
    | (.inr (.inr (a0, a1, a2, a3, a4, a5, a6, a7))) => k .ret [(2, (.ptr 1 0)), (3, (.v (.b a0)))] [(.cells 44 none [(.v (.s a1)), (.v (.i .i64 a2)), (.v (.i .i64 a3))]), (.cells 37 none [(.v (.i .i64 a4)), (.v (.s a5)), (.v (.i .i64 a6)), (.v (.i .i64 a7))])] []
theorem p_lex_reader_one_0_ok : PieceOk p_lex_reader_one_0 := by
  refine ⟨fun env H ds s h => ?_, fun x env H ds e h => ?_, fun R e k => by rcases e with e | e | e <;> kernel_rfl⟩
  · simp only [p_lex_reader_one_0] at h ⊢; split at h <;> first | (cases h; simp only [List.forall_mem_cons]; simp_all; done) | (cases h; done)
  · simp only [p_lex_reader_one_0] at h ⊢; split at h <;> first | (cases h; simp only [List.forall_mem_cons]; simp_all; done) | (cases h; done)
theorem p_lex_reader_one_0_ct (κ : Nat) (m : Int) : CutOk Tryd.prog C (G m) Tryd.f18.ntmps 1 (pieceOf (.blk 0) (getBody Tryd.f18)) (p_lex_reader_one_0.cut (gcN 1 [0, 2, 4, 5]) (fun (a0, a1, a2, a3, a4, a5, a6, a7, a8, a9, a10, a11) => lex_reader_one.v0 κ a0 a1 a2 a3 a4 a5 a6 a7 a8 a9 a10 a11)) :=
  Piece.join p_lex_reader_one_0_ok C_ok mixed (gam16_ok κ m) gcN_ok (xN_ok gcN_ok (ex_nil) gcN_ok gcN_ok) (cut := (ct_lex_reader_one_16 κ)) (X := (xN (gcN 1 [2, 4]) [] (gcN 1 [2, 3]) (gcN 1 [1000000]))) (cuts_by (l := [(pieceOf (.blk 1) (getBody Tryd.f18), cc_lex_reader_one_6 κ), (pieceOf (.reg 11) (getBody Tryd.f18), cc_lex_reader_one_8 κ), (pieceOf (.cnd 37 13) (getBody Tryd.f18), cc_lex_reader_one_16 κ)]) (by kernel_rfl) (all_cons (cc_lex_reader_one_6_ok κ m) (all_cons (cc_lex_reader_one_8_ok κ m) (all_cons (cc_lex_reader_one_16_ok κ m) (all_nil))))) (fun s => by kernel_rfl)
def cc_lex_reader_one_17 (κ : Nat) : Cut T := p_lex_reader_one_0.cut (gcN 1 [0, 2, 4, 5]) (fun (a0, a1, a2, a3, a4, a5, a6, a7, a8, a9, a10, a11) => lex_reader_one.v0 κ a0 a1 a2 a3 a4 a5 a6 a7 a8 a9 a10 a11)
theorem cc_lex_reader_one_17_ok (κ : Nat) (m : Int) : CutOk Tryd.prog C (G m) Tryd.f18.ntmps 1 (pieceOf (.blk 0) (getBody Tryd.f18)) (cc_lex_reader_one_17 κ) := p_lex_reader_one_0_ct κ m
def ct_lex_reader_one_17 (κ : Nat) : Key → Option (Cut T) := addCut noCut (.blk 0) (cc_lex_reader_one_17 κ)
def sp_lex_reader_one : Spec T (ByteArray × Int × Int) ((Int × Int × ByteArray × Int × Int) ⊕ (Int × ByteArray × Int × Int × Bool × ByteArray × Int × Int)) where
  dcI a H := match a, H with
    | [(.ptr 0 0)], [(.cells 44 none [(.v (.s a0)), (.v (.i .i64 a1)), (.v (.i .i64 a2))])] => some (a0, a1, a2)
    | _, _ => none
  ecA := fun (a0, a1, a2) => [(.ptr 0 0)]
  ecH := fun (a0, a1, a2) => [(.cells 44 none [(.v (.s a0)), (.v (.i .i64 a1)), (.v (.i .i64 a2))])]
  dcO o := match o with
    | .panic (.ifc 41 (.agg [(.v (.i .i64 a0)), (.v (.i .i64 a1))])) [(.cells 44 none [(.v (.s a2)), (.v (.i .i64 a3)), (.v (.i .i64 a4))])] => some (.inl (a0, a1, a2, a3, a4))
    | .ret (.tup [(.agg [(.v (.i .i64 a0)), (.v (.s a1)), (.v (.i .i64 a2)), (.v (.i .i64 a3))]), (.v (.b a4))]) [(.cells 44 none [(.v (.s a5)), (.v (.i .i64 a6)), (.v (.i .i64 a7))])] => some (.inr (a0, a1, a2, a3, a4, a5, a6, a7))
    | _ => none
  goO := fun _ x k => match x with
    | (.inl (a0, a1, a2, a3, a4)) => k (.panic (.ifc 41 (.agg [(.v (.i .i64 a0)), (.v (.i .i64 a1))])) [(.cells 44 none [(.v (.s a2)), (.v (.i .i64 a3)), (.v (.i .i64 a4))])])
    | (.inr (a0, a1, a2, a3, a4, a5, a6, a7)) => k (.ret (.tup [(.agg [(.v (.i .i64 a0)), (.v (.s a1)), (.v (.i .i64 a2)), (.v (.i .i64 a3))]), (.v (.b a4))]) [(.cells 44 none [(.v (.s a5)), (.v (.i .i64 a6)), (.v (.i .i64 a7))])])
  ecO := fun x => match x with
    | (.inl (a0, a1, a2, a3, a4)) => .panic (.ifc 41 (.agg [(.v (.i .i64 a0)), (.v (.i .i64 a1))])) [(.cells 44 none [(.v (.s a2)), (.v (.i .i64 a3)), (.v (.i .i64 a4))])]
    | (.inr (a0, a1, a2, a3, a4, a5, a6, a7)) => .ret (.tup [(.agg [(.v (.i .i64 a0)), (.v (.s a1)), (.v (.i .i64 a2)), (.v (.i .i64 a3))]), (.v (.b a4))]) [(.cells 44 none [(.v (.s a5)), (.v (.i .i64 a6)), (.v (.i .i64 a7))])]
theorem sp_lex_reader_one_ok : SpecOk sp_lex_reader_one := by
  refine ⟨fun a H i h => ?_, fun o x h => ?_, fun R e k => by rcases e with e | e <;> kernel_rfl⟩
  · simp only [sp_lex_reader_one] at h ⊢; split at h <;> first | (cases h; exact ⟨rfl, rfl⟩) | (cases h; done)
  · simp only [sp_lex_reader_one] at h ⊢; split at h <;> first | (cases h; rfl) | (cases h; done)
theorem ok_lex_reader_one (κ : Nat) (m : Int) : EOk Tryd.prog C (G m) 18 (sp_lex_reader_one.entry (fun (a0, a1, a2) => lex_reader_one κ a0 a1 a2)) :=
  Spec.ok sp_lex_reader_one_ok C_ok mixed (gam16_ok κ m) (cut := (ct_lex_reader_one_17 κ)) (NR := (gcN 1 [0])) (NP := (gcN 1 [0])) (nB := 1) Tryd.func18 (c := (getBody Tryd.f18)) (by kernel_rfl) (by kernel_rfl) (fun i => by kernel_rfl) gcN_ok gcN_ok (cuts_by (l := [(pieceOf (.blk 0) (getBody Tryd.f18), cc_lex_reader_one_17 κ)]) (by kernel_rfl) (all_cons (cc_lex_reader_one_17_ok κ m) (all_nil))) (fun i => by kernel_rfl)
noncomputable def gam17 (κ : Nat) : Gam T := (gam16 κ).addS 18 sp_lex_reader_one (fun (a0, a1, a2) => lex_reader_one κ a0 a1 a2)
theorem gam17_ok (κ : Nat) (m : Int) : GOk Tryd.prog C (G m) (gam17 κ) := (gam16_ok κ m).addS (ok_lex_reader_one κ m)
def sp_lex_All_1 : Spec T (Int × Int × Int × (List LexToken)) (Int × Int × Int × (List LexToken)) where
  dcI a H := match a, H with
    | [.any, (.ptr 0 0), (.ptr 1 0), (.ptr 2 0)], [(.cells 23 none [(.own 3)]), (.cells 24 none [(.v (.i .i64 a0))]), (.cells 26 none [(.v (.i .i64 a1)), (.v (.i .i64 a2))]), (.row 37 a3 true)] => some (a0, a1, a2, a3)
    | _, _ => none
  ecA := fun (a0, a1, a2, a3) => [.any, (.ptr 0 0), (.ptr 1 0), (.ptr 2 0)]
  ecH := fun (a0, a1, a2, a3) => [(.cells 23 none [(.own 3)]), (.cells 24 none [(.v (.i .i64 a0))]), (.cells 26 none [(.v (.i .i64 a1)), (.v (.i .i64 a2))]), (.row 37 a3 true)]
  dcO o := match o with
    | .ret (.tup []) [(.cells 23 none [(.own 3)]), (.cells 24 none [(.v (.i .i64 a0))]), (.cells 26 none [(.v (.i .i64 a1)), (.v (.i .i64 a2))]), (.row 37 a3 true)] => some (a0, a1, a2, a3)
    | _ => none
  goO := fun _ (a0, a1, a2, a3) k => k (.ret (.tup []) [(.cells 23 none [(.own 3)]), (.cells 24 none [(.v (.i .i64 a0))]), (.cells 26 none [(.v (.i .i64 a1)), (.v (.i .i64 a2))]), (.row 37 a3 true)])
  ecO := fun (a0, a1, a2, a3) => .ret (.tup []) [(.cells 23 none [(.own 3)]), (.cells 24 none [(.v (.i .i64 a0))]), (.cells 26 none [(.v (.i .i64 a1)), (.v (.i .i64 a2))]), (.row 37 a3 true)]
theorem sp_lex_All_1_ok : SpecOk sp_lex_All_1 := by
  refine ⟨fun a H i h => ?_, fun o x h => ?_, fun R e k => by kernel_rfl⟩
  · simp only [sp_lex_All_1] at h ⊢; split at h <;> first | (cases h; exact ⟨rfl, rfl⟩) | (cases h; done)
  · simp only [sp_lex_All_1] at h ⊢; split at h <;> first | (cases h; rfl) | (cases h; done)
noncomputable def gamD1 (κ : Nat) : GamD T := (gamDB κ).addS 17 false sp_lex_All_1 (fun (a0, a1, a2, a3) => lex_All_1 κ a0 a1 a2 a3)
theorem gamD1_ok (κ : Nat) (m : Int) : GOkD Tryd.prog C (G m) (gamD1 κ) :=
  GOkD.addS sp_lex_All_1_ok C_ok mixed (gamDB_ok κ m) (gam17_ok κ m) (cut := noCut) (NR := (gcN 4 [0])) (nB := 4) Tryd.func17 (x := fstOf (getBody Tryd.f17)) (c := sndOf (getBody Tryd.f17)) (by kernel_rfl) (by kernel_rfl) (fun i => by kernel_rfl) gcN_ok (cuts_by (l := []) (by kernel_rfl) all_nil) (fun i => by kernel_rfl)
def sp_lex_All_1_2 : Spec T (Int × Int × Int × Int × Int × (List LexToken)) (Int × Int × Int × (List LexToken)) where
  dcI a H := match a, H with
    | [(.ifc 41 (.agg [(.v (.i .i64 a0)), (.v (.i .i64 a1))])), (.ptr 0 0), (.ptr 1 0), (.ptr 2 0)], [(.cells 23 none [(.own 3)]), (.cells 24 none [(.v (.i .i64 a2))]), (.cells 26 none [(.v (.i .i64 a3)), (.v (.i .i64 a4))]), (.row 37 a5 true)] => some (a0, a1, a2, a3, a4, a5)
    | _, _ => none
  ecA := fun (a0, a1, a2, a3, a4, a5) => [(.ifc 41 (.agg [(.v (.i .i64 a0)), (.v (.i .i64 a1))])), (.ptr 0 0), (.ptr 1 0), (.ptr 2 0)]
  ecH := fun (a0, a1, a2, a3, a4, a5) => [(.cells 23 none [(.own 3)]), (.cells 24 none [(.v (.i .i64 a2))]), (.cells 26 none [(.v (.i .i64 a3)), (.v (.i .i64 a4))]), (.row 37 a5 true)]
  dcO o := match o with
    | .ret (.tup []) [(.cells 23 none [.cap0]), (.cells 24 none [(.v (.i .i64 a0))]), (.cells 26 none [(.v (.i .i64 a1)), (.v (.i .i64 a2))]), (.row 37 a3 true)] => some (a0, a1, a2, a3)
    | _ => none
  goO := fun _ (a0, a1, a2, a3) k => k (.ret (.tup []) [(.cells 23 none [.cap0]), (.cells 24 none [(.v (.i .i64 a0))]), (.cells 26 none [(.v (.i .i64 a1)), (.v (.i .i64 a2))]), (.row 37 a3 true)])
  ecO := fun (a0, a1, a2, a3) => .ret (.tup []) [(.cells 23 none [.cap0]), (.cells 24 none [(.v (.i .i64 a0))]), (.cells 26 none [(.v (.i .i64 a1)), (.v (.i .i64 a2))]), (.row 37 a3 true)]
theorem sp_lex_All_1_2_ok : SpecOk sp_lex_All_1_2 := by
  refine ⟨fun a H i h => ?_, fun o x h => ?_, fun R e k => by kernel_rfl⟩
  · simp only [sp_lex_All_1_2] at h ⊢; split at h <;> first | (cases h; exact ⟨rfl, rfl⟩) | (cases h; done)
  · simp only [sp_lex_All_1_2] at h ⊢; split at h <;> first | (cases h; rfl) | (cases h; done)
noncomputable def gamD2 (κ : Nat) : GamD T := (gamD1 κ).addS 17 true sp_lex_All_1_2 (fun (a0, a1, a2, a3, a4, a5) => lex_All_1_2 κ a0 a1 a2 a3 a4 a5)
theorem gamD2_ok (κ : Nat) (m : Int) : GOkD Tryd.prog C (G m) (gamD2 κ) :=
  GOkD.addS sp_lex_All_1_2_ok C_ok mixed (gamD1_ok κ m) (gam17_ok κ m) (cut := noCut) (NR := (gcN 4 [0])) (nB := 4) Tryd.func17 (x := fstOf (getBody Tryd.f17)) (c := sndOf (getBody Tryd.f17)) (by kernel_rfl) (by kernel_rfl) (fun i => by kernel_rfl) gcN_ok (cuts_by (l := []) (by kernel_rfl) all_nil) (fun i => by kernel_rfl)
def p_lex_All_10 : Piece T (Bool × Int × Int × Int × ByteArray × Int × Int × Int × ByteArray × Int × Int × (List LexToken)) (Int × Int × Int × ByteArray × Int × Int × (List LexToken)) where
  dcS env H ds := match env 2, env 3, env 4, env 5, env 6, env 27, H, ds with
    | (.ptr 0 0), (.ptr 1 0), (.ptr 2 0), (.ptr 3 0), (.ptr 4 0), (.v (.b a0)), [(.cells 23 none [(.own 5)]), (.cells 24 none [(.v (.i .i64 a1))]), (.cells 26 none [(.v (.i .i64 a2)), (.v (.i .i64 a3))]), (.cells 44 none [(.v (.s a4)), (.v (.i .i64 a5)), (.v (.i .i64 a6))]), (.cells 37 none [(.v (.i .i64 a7)), (.v (.s a8)), (.v (.i .i64 a9)), (.v (.i .i64 a10))]), (.row 37 a11 true)], [((.func 17), [], [(.ptr 0 0), (.ptr 1 0), (.ptr 2 0)])] => some (a0, a1, a2, a3, a4, a5, a6, a7, a8, a9, a10, a11)
    | _, _, _, _, _, _, _, _ => none
  slS := fun (a0, a1, a2, a3, a4, a5, a6, a7, a8, a9, a10, a11) => [(2, (.ptr 0 0)), (3, (.ptr 1 0)), (4, (.ptr 2 0)), (5, (.ptr 3 0)), (6, (.ptr 4 0)), (27, (.v (.b a0)))]
  obS := fun (a0, a1, a2, a3, a4, a5, a6, a7, a8, a9, a10, a11) => [(.cells 23 none [(.own 5)]), (.cells 24 none [(.v (.i .i64 a1))]), (.cells 26 none [(.v (.i .i64 a2)), (.v (.i .i64 a3))]), (.cells 44 none [(.v (.s a4)), (.v (.i .i64 a5)), (.v (.i .i64 a6))]), (.cells 37 none [(.v (.i .i64 a7)), (.v (.s a8)), (.v (.i .i64 a9)), (.v (.i .i64 a10))]), (.row 37 a11 true)]
  dsS := fun (a0, a1, a2, a3, a4, a5, a6, a7, a8, a9, a10, a11) => [((.func 17), [], [(.ptr 0 0), (.ptr 1 0), (.ptr 2 0)])]
  dcE x env H ds := match x, env 2, env 3, env 4, env 5, H, ds with
    | .normal, (.ptr 0 0), (.ptr 1 0), (.ptr 2 0), (.ptr 3 0), [(.cells 23 none [(.own 4)]), (.cells 24 none [(.v (.i .i64 a0))]), (.cells 26 none [(.v (.i .i64 a1)), (.v (.i .i64 a2))]), (.cells 44 none [(.v (.s a3)), (.v (.i .i64 a4)), (.v (.i .i64 a5))]), (.row 37 a6 true)], [((.func 17), [], [(.ptr 0 0), (.ptr 1 0), (.ptr 2 0)])] => some (a0, a1, a2, a3, a4, a5, a6)
    | _, _, _, _, _, _, _ => none
  exE := fun (a0, a1, a2, a3, a4, a5, a6) => .normal
  slE := fun (a0, a1, a2, a3, a4, a5, a6) => [(2, (.ptr 0 0)), (3, (.ptr 1 0)), (4, (.ptr 2 0)), (5, (.ptr 3 0))]
  obE := fun (a0, a1, a2, a3, a4, a5, a6) => [(.cells 23 none [(.own 4)]), (.cells 24 none [(.v (.i .i64 a0))]), (.cells 26 none [(.v (.i .i64 a1)), (.v (.i .i64 a2))]), (.cells 44 none [(.v (.s a3)), (.v (.i .i64 a4)), (.v (.i .i64 a5))]), (.row 37 a6 true)]
  dsE := fun (a0, a1, a2, a3, a4, a5, a6) => [((.func 17), [], [(.ptr 0 0), (.ptr 1 0), (.ptr 2 0)])]
  goE := fun _ (a0, a1, a2, a3, a4, a5, a6) k => k .normal [(2, (.ptr 0 0)), (3, (.ptr 1 0)), (4, (.ptr 2 0)), (5, (.ptr 3 0))] [(.cells 23 none [(.own 4)]), (.cells 24 none [(.v (.i .i64 a0))]), (.cells 26 none [(.v (.i .i64 a1)), (.v (.i .i64 a2))]), (.cells 44 none [(.v (.s a3)), (.v (.i .i64 a4)), (.v (.i .i64 a5))]), (.row 37 a6 true)] [((.func 17), [], [(.ptr 0 0), (.ptr 1 0), (.ptr 2 0)])]
theorem p_lex_All_10_ok : PieceOk p_lex_All_10 := by
  refine ⟨fun env H ds s h => ?_, fun x env H ds e h => ?_, fun R e k => by kernel_rfl⟩
  · simp only [p_lex_All_10] at h ⊢; split at h <;> first | (cases h; simp only [List.forall_mem_cons]; simp_all; done) | (cases h; done)
  · simp only [p_lex_All_10] at h ⊢; split at h <;> first | (cases h; simp only [List.forall_mem_cons]; simp_all; done) | (cases h; done)
theorem p_lex_All_10_ct (κ : Nat) (m : Int) : CutOk Tryd.prog C (G m) Tryd.f9.ntmps 0 (pieceOf (.cnd 27 9) (getBody Tryd.f9)) (p_lex_All_10.cut (gcN 0 [2, 3, 4, 5, 6, 27]) (fun (a0, a1, a2, a3, a4, a5, a6, a7, a8, a9, a10, a11) => lex_All.v10 κ a0 a1 a2 a3 a4 a5 a6 a7 a8 a9 a10 a11)) :=
  Piece.join p_lex_All_10_ok C_ok mixed (gam17_ok κ m) gcN_ok (xN_ok gcN_ok (ex_cons gcN_ok (ex_cons gcN_ok (ex_nil))) gcN_ok gcN_ok) (cut := noCut) (X := (xN (gcN 0 [2, 3, 4, 5]) [(1, (gcN 0 [2, 3, 4, 5])), (0, (gcN 0 [2, 3, 4, 5]))] (gcN 0 [2, 3, 4]) (gcN 0 [2, 3, 4, 1000000]))) (cuts_by (l := []) (by kernel_rfl) (all_nil)) (fun s => by kernel_rfl)
def cc_lex_All_11 (κ : Nat) : Cut T := p_lex_All_10.cut (gcN 0 [2, 3, 4, 5, 6, 27]) (fun (a0, a1, a2, a3, a4, a5, a6, a7, a8, a9, a10, a11) => lex_All.v10 κ a0 a1 a2 a3 a4 a5 a6 a7 a8 a9 a10 a11)
theorem cc_lex_All_11_ok (κ : Nat) (m : Int) : CutOk Tryd.prog C (G m) Tryd.f9.ntmps 0 (pieceOf (.cnd 27 9) (getBody Tryd.f9)) (cc_lex_All_11 κ) := p_lex_All_10_ct κ m
def ct_lex_All_11 (κ : Nat) : Key → Option (Cut T) := addCut noCut (.cnd 27 9) (cc_lex_All_11 κ)
def p_lex_All_9 : Piece T (Int × Int × Int × ByteArray × Int × Int × (List LexToken)) ((Int × Int × Int × Int × Int × (List LexToken)) ⊕ (Int × Int × Int × ByteArray × Int × Int × (List LexToken))) where
  dcS env H ds := match env 2, env 3, env 4, env 5, H, ds with
    | (.ptr 0 0), (.ptr 1 0), (.ptr 2 0), (.ptr 3 0), [(.cells 23 none [(.own 4)]), (.cells 24 none [(.v (.i .i64 a0))]), (.cells 26 none [(.v (.i .i64 a1)), (.v (.i .i64 a2))]), (.cells 44 none [(.v (.s a3)), (.v (.i .i64 a4)), (.v (.i .i64 a5))]), (.row 37 a6 true)], [((.func 17), [], [(.ptr 0 0), (.ptr 1 0), (.ptr 2 0)])] => some (a0, a1, a2, a3, a4, a5, a6)
    | _, _, _, _, _, _ => none
  slS := fun (a0, a1, a2, a3, a4, a5, a6) => [(2, (.ptr 0 0)), (3, (.ptr 1 0)), (4, (.ptr 2 0)), (5, (.ptr 3 0))]
  obS := fun (a0, a1, a2, a3, a4, a5, a6) => [(.cells 23 none [(.own 4)]), (.cells 24 none [(.v (.i .i64 a0))]), (.cells 26 none [(.v (.i .i64 a1)), (.v (.i .i64 a2))]), (.cells 44 none [(.v (.s a3)), (.v (.i .i64 a4)), (.v (.i .i64 a5))]), (.row 37 a6 true)]
  dsS := fun (a0, a1, a2, a3, a4, a5, a6) => [((.func 17), [], [(.ptr 0 0), (.ptr 1 0), (.ptr 2 0)])]
  dcE x env H ds := match x, env 2, env 3, env 4, env 5, H, ds with
    | (.pan (.ifc 41 (.agg [(.v (.i .i64 a0)), (.v (.i .i64 a1))]))), (.ptr 0 0), (.ptr 1 0), (.ptr 2 0), _, [(.cells 23 none [(.own 3)]), (.cells 24 none [(.v (.i .i64 a2))]), (.cells 26 none [(.v (.i .i64 a3)), (.v (.i .i64 a4))]), (.row 37 a5 true)], [((.func 17), [], [(.ptr 0 0), (.ptr 1 0), (.ptr 2 0)])] => some (.inl (a0, a1, a2, a3, a4, a5))
    | .normal, (.ptr 0 0), (.ptr 1 0), (.ptr 2 0), (.ptr 3 0), [(.cells 23 none [(.own 4)]), (.cells 24 none [(.v (.i .i64 a0))]), (.cells 26 none [(.v (.i .i64 a1)), (.v (.i .i64 a2))]), (.cells 44 none [(.v (.s a3)), (.v (.i .i64 a4)), (.v (.i .i64 a5))]), (.row 37 a6 true)], [((.func 17), [], [(.ptr 0 0), (.ptr 1 0), (.ptr 2 0)])] => some (.inr (a0, a1, a2, a3, a4, a5, a6))
    | _, _, _, _, _, _, _ => none
  exE := fun x => match x with
    | (.inl (a0, a1, a2, a3, a4, a5)) => (.pan (.ifc 41 (.agg [(.v (.i .i64 a0)), (.v (.i .i64 a1))])))
    | (.inr (a0, a1, a2, a3, a4, a5, a6)) => .normal
  slE := fun x => match x with
    | (.inl (a0, a1, a2, a3, a4, a5)) => [(2, (.ptr 0 0)), (3, (.ptr 1 0)), (4, (.ptr 2 0))]
    | (.inr (a0, a1, a2, a3, a4, a5, a6)) => [(2, (.ptr 0 0)), (3, (.ptr 1 0)), (4, (.ptr 2 0)), (5, (.ptr 3 0))]
  obE := fun x => match x with
    | (.inl (a0, a1, a2, a3, a4, a5)) => [(.cells 23 none [(.own 3)]), (.cells 24 none [(.v (.i .i64 a2))]), (.cells 26 none [(.v (.i .i64 a3)), (.v (.i .i64 a4))]), (.row 37 a5 true)]
    | (.inr (a0, a1, a2, a3, a4, a5, a6)) => [(.cells 23 none [(.own 4)]), (.cells 24 none [(.v (.i .i64 a0))]), (.cells 26 none [(.v (.i .i64 a1)), (.v (.i .i64 a2))]), (.cells 44 none [(.v (.s a3)), (.v (.i .i64 a4)), (.v (.i .i64 a5))]), (.row 37 a6 true)]
  dsE := fun x => match x with
    | (.inl (a0, a1, a2, a3, a4, a5)) => [((.func 17), [], [(.ptr 0 0), (.ptr 1 0), (.ptr 2 0)])]
    | (.inr (a0, a1, a2, a3, a4, a5, a6)) => [((.func 17), [], [(.ptr 0 0), (.ptr 1 0), (.ptr 2 0)])]
  goE := fun _ x k => match x with
    | (.inl (a0, a1, a2, a3, a4, a5)) => k (.pan (.ifc 41 (.agg [(.v (.i .i64 a0)), (.v (.i .i64 a1))]))) [(2, (.ptr 0 0)), (3, (.ptr 1 0)), (4, (.ptr 2 0))] [(.cells 23 none [(.own 3)]), (.cells 24 none [(.v (.i .i64 a2))]), (.cells 26 none [(.v (.i .i64 a3)), (.v (.i .i64 a4))]), (.row 37 a5 true)] [((.func 17), [], [(.ptr 0 0), (.ptr 1 0), (.ptr 2 0)])]
    | (.inr (a0, a1, a2, a3, a4, a5, a6)) => k .normal [(2, (.ptr 0 0)), (3, (.ptr 1 0)), (4, (.ptr 2 0)), (5, (.ptr 3 0))] [(.cells 23 none [(.own 4)]), (.cells 24 none [(.v (.i .i64 a0))]), (.cells 26 none [(.v (.i .i64 a1)), (.v (.i .i64 a2))]), (.cells 44 none [(.v (.s a3)), (.v (.i .i64 a4)), (.v (.i .i64 a5))]), (.row 37 a6 true)] [((.func 17), [], [(.ptr 0 0), (.ptr 1 0), (.ptr 2 0)])]
theorem p_lex_All_9_ok : PieceOk p_lex_All_9 := by
  refine ⟨fun env H ds s h => ?_, fun x env H ds e h => ?_, fun R e k => by rcases e with e | e <;> kernel_rfl⟩
  · simp only [p_lex_All_9] at h ⊢; split at h <;> first | (cases h; simp only [List.forall_mem_cons]; simp_all; done) | (cases h; done)
  · simp only [p_lex_All_9] at h ⊢; split at h <;> first | (cases h; simp only [List.forall_mem_cons]; simp_all; done) | (cases h; done)
theorem p_lex_All_9_ct (κ : Nat) (m : Int) : CutOk Tryd.prog C (G m) Tryd.f9.ntmps 0 (pieceOf (.blk 1) (getBody Tryd.f9)) (p_lex_All_9.cut (gcN 0 [2, 3, 4, 5]) (fun (a0, a1, a2, a3, a4, a5, a6) => lex_All.v9 κ a0 a1 a2 a3 a4 a5 a6)) :=
  Piece.join p_lex_All_9_ok C_ok mixed (gam17_ok κ m) gcN_ok (xN_ok gcN_ok (ex_cons gcN_ok (ex_nil)) gcN_ok gcN_ok) (cut := (ct_lex_All_11 κ)) (X := (xN (gcN 0 [2, 3, 4, 5]) [(0, (gcN 0 [2, 3, 4, 5]))] (gcN 0 [2, 3, 4]) (gcN 0 [2, 3, 4, 1000000]))) (cuts_by (l := [(pieceOf (.cnd 27 9) (getBody Tryd.f9), cc_lex_All_11 κ)]) (by kernel_rfl) (all_cons (cc_lex_All_11_ok κ m) (all_nil))) (fun s => by kernel_rfl)
def cc_lex_All_12 (κ : Nat) : Cut T := p_lex_All_9.cut (gcN 0 [2, 3, 4, 5]) (fun (a0, a1, a2, a3, a4, a5, a6) => lex_All.v9 κ a0 a1 a2 a3 a4 a5 a6)
theorem cc_lex_All_12_ok (κ : Nat) (m : Int) : CutOk Tryd.prog C (G m) Tryd.f9.ntmps 0 (pieceOf (.blk 1) (getBody Tryd.f9)) (cc_lex_All_12 κ) := p_lex_All_9_ct κ m
def ct_lex_All_12 (κ : Nat) : Key → Option (Cut T) := addCut noCut (.blk 1) (cc_lex_All_12 κ)
def p_lex_All_8 : Piece T (Int × Int × Int × ByteArray × Int × Int × (List LexToken)) ((Int × Int × Int × ByteArray × Int × Int × (List LexToken)) ⊕ (Int × Int × Int × Int × Int × (List LexToken))) where
  dcS env H ds := match env 2, env 3, env 4, env 5, H, ds with
    | (.ptr 0 0), (.ptr 1 0), (.ptr 2 0), (.ptr 3 0), [(.cells 23 none [(.own 4)]), (.cells 24 none [(.v (.i .i64 a0))]), (.cells 26 none [(.v (.i .i64 a1)), (.v (.i .i64 a2))]), (.cells 44 none [(.v (.s a3)), (.v (.i .i64 a4)), (.v (.i .i64 a5))]), (.row 37 a6 true)], [((.func 17), [], [(.ptr 0 0), (.ptr 1 0), (.ptr 2 0)])] => some (a0, a1, a2, a3, a4, a5, a6)
    | _, _, _, _, _, _ => none
  slS := fun (a0, a1, a2, a3, a4, a5, a6) => [(2, (.ptr 0 0)), (3, (.ptr 1 0)), (4, (.ptr 2 0)), (5, (.ptr 3 0))]
  obS := fun (a0, a1, a2, a3, a4, a5, a6) => [(.cells 23 none [(.own 4)]), (.cells 24 none [(.v (.i .i64 a0))]), (.cells 26 none [(.v (.i .i64 a1)), (.v (.i .i64 a2))]), (.cells 44 none [(.v (.s a3)), (.v (.i .i64 a4)), (.v (.i .i64 a5))]), (.row 37 a6 true)]
  dsS := fun (a0, a1, a2, a3, a4, a5, a6) => [((.func 17), [], [(.ptr 0 0), (.ptr 1 0), (.ptr 2 0)])]
  dcE x env H ds := match x, env 2, env 3, env 4, env 5, H, ds with
    | .normal, (.ptr 0 0), (.ptr 1 0), (.ptr 2 0), (.ptr 3 0), [(.cells 23 none [(.own 4)]), (.cells 24 none [(.v (.i .i64 a0))]), (.cells 26 none [(.v (.i .i64 a1)), (.v (.i .i64 a2))]), (.cells 44 none [(.v (.s a3)), (.v (.i .i64 a4)), (.v (.i .i64 a5))]), (.row 37 a6 true)], [((.func 17), [], [(.ptr 0 0), (.ptr 1 0), (.ptr 2 0)])] => some (.inl (a0, a1, a2, a3, a4, a5, a6))
    | (.pan (.ifc 41 (.agg [(.v (.i .i64 a0)), (.v (.i .i64 a1))]))), (.ptr 0 0), (.ptr 1 0), (.ptr 2 0), _, [(.cells 23 none [(.own 3)]), (.cells 24 none [(.v (.i .i64 a2))]), (.cells 26 none [(.v (.i .i64 a3)), (.v (.i .i64 a4))]), (.row 37 a5 true)], [((.func 17), [], [(.ptr 0 0), (.ptr 1 0), (.ptr 2 0)])] => some (.inr (a0, a1, a2, a3, a4, a5))
    | _, _, _, _, _, _, _ => none
  exE := fun x => match x with
    | (.inl (a0, a1, a2, a3, a4, a5, a6)) => .normal
    | (.inr (a0, a1, a2, a3, a4, a5)) => (.pan (.ifc 41 (.agg [(.v (.i .i64 a0)), (.v (.i .i64 a1))])))
  slE := fun x => match x with
    | (.inl (a0, a1, a2, a3, a4, a5, a6)) => [(2, (.ptr 0 0)), (3, (.ptr 1 0)), (4, (.ptr 2 0)), (5, (.ptr 3 0))]
    | (.inr (a0, a1, a2, a3, a4, a5)) => [(2, (.ptr 0 0)), (3, (.ptr 1 0)), (4, (.ptr 2 0))]
  obE := fun x => match x with
    | (.inl (a0, a1, a2, a3, a4, a5, a6)) => [(.cells 23 none [(.own 4)]), (.cells 24 none [(.v (.i .i64 a0))]), (.cells 26 none [(.v (.i .i64 a1)), (.v (.i .i64 a2))]), (.cells 44 none [(.v (.s a3)), (.v (.i .i64 a4)), (.v (.i .i64 a5))]), (.row 37 a6 true)]
    | (.inr (a0, a1, a2, a3, a4, a5)) => [(.cells 23 none [(.own 3)]), (.cells 24 none [(.v (.i .i64 a2))]), (.cells 26 none [(.v (.i .i64 a3)), (.v (.i .i64 a4))]), (.row 37 a5 true)]
  dsE := fun x => match x with
    | (.inl (a0, a1, a2, a3, a4, a5, a6)) => [((.func 17), [], [(.ptr 0 0), (.ptr 1 0), (.ptr 2 0)])]
    | (.inr (a0, a1, a2, a3, a4, a5)) => [((.func 17), [], [(.ptr 0 0), (.ptr 1 0), (.ptr 2 0)])]
  goE := fun _ x k => match x with
    | (.inl (a0, a1, a2, a3, a4, a5, a6)) => k .normal [(2, (.ptr 0 0)), (3, (.ptr 1 0)), (4, (.ptr 2 0)), (5, (.ptr 3 0))] [(.cells 23 none [(.own 4)]), (.cells 24 none [(.v (.i .i64 a0))]), (.cells 26 none [(.v (.i .i64 a1)), (.v (.i .i64 a2))]), (.cells 44 none [(.v (.s a3)), (.v (.i .i64 a4)), (.v (.i .i64 a5))]), (.row 37 a6 true)] [((.func 17), [], [(.ptr 0 0), (.ptr 1 0), (.ptr 2 0)])]
    | (.inr (a0, a1, a2, a3, a4, a5)) => k (.pan (.ifc 41 (.agg [(.v (.i .i64 a0)), (.v (.i .i64 a1))]))) [(2, (.ptr 0 0)), (3, (.ptr 1 0)), (4, (.ptr 2 0))] [(.cells 23 none [(.own 3)]), (.cells 24 none [(.v (.i .i64 a2))]), (.cells 26 none [(.v (.i .i64 a3)), (.v (.i .i64 a4))]), (.row 37 a5 true)] [((.func 17), [], [(.ptr 0 0), (.ptr 1 0), (.ptr 2 0)])]
theorem p_lex_All_8_ok : PieceOk p_lex_All_8 := by
  refine ⟨fun env H ds s h => ?_, fun x env H ds e h => ?_, fun R e k => by rcases e with e | e <;> kernel_rfl⟩
  · simp only [p_lex_All_8] at h ⊢; split at h <;> first | (cases h; simp only [List.forall_mem_cons]; simp_all; done) | (cases h; done)
  · simp only [p_lex_All_8] at h ⊢; split at h <;> first | (cases h; simp only [List.forall_mem_cons]; simp_all; done) | (cases h; done)
theorem p_lex_All_8_ct (κ : Nat) (m : Int) : CutOk Tryd.prog C (G m) Tryd.f9.ntmps 0 (pieceOf (.blk 0) (getBody Tryd.f9)) (p_lex_All_8.cut (andN (gcN 0 [2, 3, 4, 5]) (andN (promC 0 0 [] 37) (gcN 0 [2, 3, 4, 5]))) (lex_All.l8 κ κ)) :=
  Piece.loop p_lex_All_8_ok C_ok mixed (gam17_ok κ m) (andN_ok gcN_ok (andN_ok promC_ok gcN_ok)) (xN_ok gcN_ok (ex_nil) gcN_ok gcN_ok) (cut := (ct_lex_All_12 κ)) (X := (xN (gcN 0 [2, 3, 4, 5]) [] (gcN 0 [2, 3, 4]) (gcN 0 [2, 3, 4, 1000000]))) (id := 0) (body := bodyOf (pieceOf (.blk 0) (getBody Tryd.f9))) (cuts_by (l := [(pieceOf (.blk 1) (getBody Tryd.f9), cc_lex_All_12 κ)]) (by kernel_rfl) (all_cons (cc_lex_All_12_ok κ m) (all_nil))) (f := lex_All.l8 κ) (fun s => by kernel_rfl) (fun k s => by kernel_rfl) κ
def cc_lex_All_13 (κ : Nat) : Cut T := p_lex_All_8.cut (andN (gcN 0 [2, 3, 4, 5]) (andN (promC 0 0 [] 37) (gcN 0 [2, 3, 4, 5]))) (lex_All.l8 κ κ)
theorem cc_lex_All_13_ok (κ : Nat) (m : Int) : CutOk Tryd.prog C (G m) Tryd.f9.ntmps 0 (pieceOf (.blk 0) (getBody Tryd.f9)) (cc_lex_All_13 κ) := p_lex_All_8_ct κ m
def ct_lex_All_13 (κ : Nat) : Key → Option (Cut T) := addCut noCut (.blk 0) (cc_lex_All_13 κ)
def sp_lex_All : Spec T (ByteArray) (Int × Int × Int × (List LexToken)) where
  dcI a H := match a, H with
    | [(.v (.s a0))], [] => some a0
    | _, _ => none
  ecA := fun a0 => [(.v (.s a0))]
  ecH := fun a0 => []
  dcO o := match o with
    | .ret (.tup [(.own 0), (.v (.i .i64 a0)), (.agg [(.v (.i .i64 a1)), (.v (.i .i64 a2))])]) [(.row 37 a3 true)] => some (a0, a1, a2, a3)
    | _ => none
  goO := fun _ (a0, a1, a2, a3) k => k (.ret (.tup [(.own 0), (.v (.i .i64 a0)), (.agg [(.v (.i .i64 a1)), (.v (.i .i64 a2))])]) [(.row 37 a3 true)])
  ecO := fun (a0, a1, a2, a3) => .ret (.tup [(.own 0), (.v (.i .i64 a0)), (.agg [(.v (.i .i64 a1)), (.v (.i .i64 a2))])]) [(.row 37 a3 true)]
theorem sp_lex_All_ok : SpecOk sp_lex_All := by
  refine ⟨fun a H i h => ?_, fun o x h => ?_, fun R e k => by kernel_rfl⟩
  · simp only [sp_lex_All] at h ⊢; split at h <;> first | (cases h; exact ⟨rfl, rfl⟩) | (cases h; done)
  · simp only [sp_lex_All] at h ⊢; split at h <;> first | (cases h; rfl) | (cases h; done)
theorem ok_lex_All (κ : Nat) (m : Int) : EOk Tryd.prog C (G m) 9 (sp_lex_All.entry (fun a0 => lex_All κ a0)) :=
  Spec.okF sp_lex_All_ok C_ok mixed (gam17_ok κ m) (gamD2_ok κ m) (cut := (ct_lex_All_13 κ)) (NR := (andN (promS 0 [0] 37) (gcN 0 [0]))) (NP := (gcN 0 [0])) (nB := 0) Tryd.func9 (c := (getBody Tryd.f9)) (by kernel_rfl) (by kernel_rfl) (fun i => by kernel_rfl) (andN_ok promS_ok gcN_ok) gcN_ok (cuts_by (l := [(pieceOf (.blk 0) (getBody Tryd.f9), cc_lex_All_13 κ)]) (by kernel_rfl) (all_cons (cc_lex_All_13_ok κ m) (all_nil))) (fun i => by kernel_rfl)
noncomputable def gam18 (κ : Nat) : Gam T := (gam17 κ).addS 9 sp_lex_All (fun a0 => lex_All κ a0)
theorem gam18_ok (κ : Nat) (m : Int) : GOk Tryd.prog C (G m) (gam18 κ) := (gam17_ok κ m).addS (ok_lex_All κ m)
def p_lex_Plain_0 : Piece T (ByteArray) (Bool) where
  dcS env H ds := match env 0, H, ds with
    | (.v (.s a0)), [], [] => some a0
    | _, _, _ => none
  slS := fun a0 => [(0, (.v (.s a0)))]
  obS := fun a0 => []
  dsS := fun a0 => []
  dcE x env H ds := match x, env 2, H, ds with
    | .normal, (.v (.b a0)), [], [] => some a0
    | _, _, _, _ => none
  exE := fun a0 => .normal
  slE := fun a0 => [(2, (.v (.b a0)))]
  obE := fun a0 => []
  dsE := fun a0 => []
  goE := fun _ a0 k => k .normal [(2, (.v (.b a0)))] [] []
theorem p_lex_Plain_0_ok : PieceOk p_lex_Plain_0 := by
  refine ⟨fun env H ds s h => ?_, fun x env H ds e h => ?_, fun R e k => by kernel_rfl⟩
  · simp only [p_lex_Plain_0] at h ⊢; split at h <;> first | (cases h; simp only [List.forall_mem_cons]; simp_all; done) | (cases h; done)
  · simp only [p_lex_Plain_0] at h ⊢; split at h <;> first | (cases h; simp only [List.forall_mem_cons]; simp_all; done) | (cases h; done)
theorem p_lex_Plain_0_ct (κ : Nat) (m : Int) : CutOk Tryd.prog C (G m) Tryd.f14.ntmps 0 (pieceOf (.reg 1) (getBody Tryd.f14)) (p_lex_Plain_0.cut (gcN 0 [0]) (fun a0 => lex_Plain.v0 κ a0)) :=
  Piece.join p_lex_Plain_0_ok C_ok mixed (gam18_ok κ m) gcN_ok (xN_ok gcN_ok (ex_nil) gcN_ok gcN_ok) (cut := noCut) (X := (xN (gcN 0 [2]) [] (gcN 0 [2]) (gcN 0 [1000000]))) (cuts_by (l := []) (by kernel_rfl) (all_nil)) (fun s => by kernel_rfl)
def cc_lex_Plain_1 (κ : Nat) : Cut T := p_lex_Plain_0.cut (gcN 0 [0]) (fun a0 => lex_Plain.v0 κ a0)
theorem cc_lex_Plain_1_ok (κ : Nat) (m : Int) : CutOk Tryd.prog C (G m) Tryd.f14.ntmps 0 (pieceOf (.reg 1) (getBody Tryd.f14)) (cc_lex_Plain_1 κ) := p_lex_Plain_0_ct κ m
def ct_lex_Plain_1 (κ : Nat) : Key → Option (Cut T) := addCut noCut (.reg 1) (cc_lex_Plain_1 κ)
def sp_lex_Plain : Spec T (ByteArray) (Bool) where
  dcI a H := match a, H with
    | [(.v (.s a0))], [] => some a0
    | _, _ => none
  ecA := fun a0 => [(.v (.s a0))]
  ecH := fun a0 => []
  dcO o := match o with
    | .ret (.v (.b a0)) [] => some a0
    | _ => none
  goO := fun _ a0 k => k (.ret (.v (.b a0)) [])
  ecO := fun a0 => .ret (.v (.b a0)) []
theorem sp_lex_Plain_ok : SpecOk sp_lex_Plain := by
  refine ⟨fun a H i h => ?_, fun o x h => ?_, fun R e k => by kernel_rfl⟩
  · simp only [sp_lex_Plain] at h ⊢; split at h <;> first | (cases h; exact ⟨rfl, rfl⟩) | (cases h; done)
  · simp only [sp_lex_Plain] at h ⊢; split at h <;> first | (cases h; rfl) | (cases h; done)
theorem ok_lex_Plain (κ : Nat) (m : Int) : EOk Tryd.prog C (G m) 14 (sp_lex_Plain.entry (fun a0 => lex_Plain κ a0)) :=
  Spec.ok sp_lex_Plain_ok C_ok mixed (gam18_ok κ m) (cut := (ct_lex_Plain_1 κ)) (NR := (gcN 0 [0])) (NP := (gcN 0 [0])) (nB := 0) Tryd.func14 (c := (getBody Tryd.f14)) (by kernel_rfl) (by kernel_rfl) (fun i => by kernel_rfl) gcN_ok gcN_ok (cuts_by (l := [(pieceOf (.reg 1) (getBody Tryd.f14), cc_lex_Plain_1 κ)]) (by kernel_rfl) (all_cons (cc_lex_Plain_1_ok κ m) (all_nil))) (fun i => by kernel_rfl)
noncomputable def gam19 (κ : Nat) : Gam T := (gam18 κ).addS 14 sp_lex_Plain (fun a0 => lex_Plain κ a0)
theorem gam19_ok (κ : Nat) (m : Int) : GOk Tryd.prog C (G m) (gam19 κ) := (gam18_ok κ m).addS (ok_lex_Plain κ m)
def sp_strings_Builder_WriteByte : Spec T (Int) ((List Int)) where
  dcI a H := match a, H with
    | [(.ptr 0 0), (.v (.i .u8 a0))], [(.cells 57 none [(.v .pn), .cap0])] => some a0
    | _, _ => none
  ecA := fun a0 => [(.ptr 0 0), (.v (.i .u8 a0))]
  ecH := fun a0 => [(.cells 57 none [(.v .pn), .cap0])]
  dcO o := match o with
    | .ret (.v .if0) [(.cells 57 none [(.ptr 0 0), (.own 1)]), (.row 5 a0 true)] => some a0
    | _ => none
  goO := fun _ a0 k => k (.ret (.v .if0) [(.cells 57 none [(.ptr 0 0), (.own 1)]), (.row 5 a0 true)])
  ecO := fun a0 => .ret (.v .if0) [(.cells 57 none [(.ptr 0 0), (.own 1)]), (.row 5 a0 true)]
theorem sp_strings_Builder_WriteByte_ok : SpecOk sp_strings_Builder_WriteByte := by
  refine ⟨fun a H i h => ?_, fun o x h => ?_, fun R e k => by kernel_rfl⟩
  · simp only [sp_strings_Builder_WriteByte] at h ⊢; split at h <;> first | (cases h; exact ⟨rfl, rfl⟩) | (cases h; done)
  · simp only [sp_strings_Builder_WriteByte] at h ⊢; split at h <;> first | (cases h; rfl) | (cases h; done)
theorem ok_strings_Builder_WriteByte (κ : Nat) (m : Int) : EOk Tryd.prog C (G m) 22 (sp_strings_Builder_WriteByte.entry (fun a0 => strings_Builder_WriteByte κ a0)) :=
  Spec.ok sp_strings_Builder_WriteByte_ok C_ok mixed (gam19_ok κ m) (cut := noCut) (NR := (gcN 1 [0])) (NP := (gcN 1 [0])) (nB := 1) Tryd.func22 (c := (getBody Tryd.f22)) (by kernel_rfl) (by kernel_rfl) (fun i => by kernel_rfl) gcN_ok gcN_ok (cuts_by (l := []) (by kernel_rfl) (all_nil)) (fun i => by kernel_rfl)
noncomputable def gam20 (κ : Nat) : Gam T := (gam19 κ).addS 22 sp_strings_Builder_WriteByte (fun a0 => strings_Builder_WriteByte κ a0)
theorem gam20_ok (κ : Nat) (m : Int) : GOk Tryd.prog C (G m) (gam20 κ) := (gam19_ok κ m).addS (ok_strings_Builder_WriteByte κ m)
def p_unicode_utf8_ValidRune_0 : Piece T (Int) (Int × Bool) where
  dcS env H ds := match env 0, H, ds with
    | (.v (.i .i32 a0)), [], [] => some a0
    | _, _, _ => none
  slS := fun a0 => [(0, (.v (.i .i32 a0)))]
  obS := fun a0 => []
  dsS := fun a0 => []
  dcE x env H ds := match x, env 0, env 3, H, ds with
    | .normal, (.v (.i .i32 a0)), (.v (.b a1)), [], [] => some (a0, a1)
    | _, _, _, _, _ => none
  exE := fun (a0, a1) => .normal
  slE := fun (a0, a1) => [(0, (.v (.i .i32 a0))), (3, (.v (.b a1)))]
  obE := fun (a0, a1) => []
  dsE := fun (a0, a1) => []
  goE := fun _ (a0, a1) k => k .normal [(0, (.v (.i .i32 a0))), (3, (.v (.b a1)))] [] []
theorem p_unicode_utf8_ValidRune_0_ok : PieceOk p_unicode_utf8_ValidRune_0 := by
  refine ⟨fun env H ds s h => ?_, fun x env H ds e h => ?_, fun R e k => by kernel_rfl⟩
  · simp only [p_unicode_utf8_ValidRune_0] at h ⊢; split at h <;> first | (cases h; simp only [List.forall_mem_cons]; simp_all; done) | (cases h; done)
  · simp only [p_unicode_utf8_ValidRune_0] at h ⊢; split at h <;> first | (cases h; simp only [List.forall_mem_cons]; simp_all; done) | (cases h; done)
theorem p_unicode_utf8_ValidRune_0_ct (κ : Nat) (m : Int) : CutOk Tryd.prog C (G m) Tryd.f41.ntmps 0 (pieceOf (.reg 1) (getBody Tryd.f41)) (p_unicode_utf8_ValidRune_0.cut (gcN 0 [0]) (fun a0 => unicode_utf8_ValidRune.v0 κ a0)) :=
  Piece.join p_unicode_utf8_ValidRune_0_ok C_ok mixed (gam20_ok κ m) gcN_ok (xN_ok gcN_ok (ex_cons gcN_ok (ex_nil)) gcN_ok gcN_ok) (cut := noCut) (X := (xN (gcN 0 [0, 3]) [(0, (gcN 0 []))] (gcN 0 [2]) (gcN 0 [1000000]))) (cuts_by (l := []) (by kernel_rfl) (all_nil)) (fun s => by kernel_rfl)
def cc_unicode_utf8_ValidRune_1 (κ : Nat) : Cut T := p_unicode_utf8_ValidRune_0.cut (gcN 0 [0]) (fun a0 => unicode_utf8_ValidRune.v0 κ a0)
theorem cc_unicode_utf8_ValidRune_1_ok (κ : Nat) (m : Int) : CutOk Tryd.prog C (G m) Tryd.f41.ntmps 0 (pieceOf (.reg 1) (getBody Tryd.f41)) (cc_unicode_utf8_ValidRune_1 κ) := p_unicode_utf8_ValidRune_0_ct κ m
def ct_unicode_utf8_ValidRune_1 (κ : Nat) : Key → Option (Cut T) := addCut noCut (.reg 1) (cc_unicode_utf8_ValidRune_1 κ)
def p_unicode_utf8_ValidRune_2 : Piece T (Int) (Bool) where
  dcS env H ds := match env 0, H, ds with
    | (.v (.i .i32 a0)), [], [] => some a0
    | _, _, _ => none
  slS := fun a0 => [(0, (.v (.i .i32 a0)))]
  obS := fun a0 => []
  dsS := fun a0 => []
  dcE x env H ds := match x, env 10, H, ds with
    | .normal, (.v (.b a0)), [], [] => some a0
    | _, _, _, _ => none
  exE := fun a0 => .normal
  slE := fun a0 => [(10, (.v (.b a0)))]
  obE := fun a0 => []
  dsE := fun a0 => []
  goE := fun _ a0 k => k .normal [(10, (.v (.b a0)))] [] []
theorem p_unicode_utf8_ValidRune_2_ok : PieceOk p_unicode_utf8_ValidRune_2 := by
  refine ⟨fun env H ds s h => ?_, fun x env H ds e h => ?_, fun R e k => by kernel_rfl⟩
  · simp only [p_unicode_utf8_ValidRune_2] at h ⊢; split at h <;> first | (cases h; simp only [List.forall_mem_cons]; simp_all; done) | (cases h; done)
  · simp only [p_unicode_utf8_ValidRune_2] at h ⊢; split at h <;> first | (cases h; simp only [List.forall_mem_cons]; simp_all; done) | (cases h; done)
theorem p_unicode_utf8_ValidRune_2_ct (κ : Nat) (m : Int) : CutOk Tryd.prog C (G m) Tryd.f41.ntmps 0 (pieceOf (.reg 3) (getBody Tryd.f41)) (p_unicode_utf8_ValidRune_2.cut (gcN 0 [0]) (fun a0 => unicode_utf8_ValidRune.v2 κ a0)) :=
  Piece.join p_unicode_utf8_ValidRune_2_ok C_ok mixed (gam20_ok κ m) gcN_ok (xN_ok gcN_ok (ex_cons gcN_ok (ex_nil)) gcN_ok gcN_ok) (cut := (ct_unicode_utf8_ValidRune_1 κ)) (X := (xN (gcN 0 [10]) [(0, (gcN 0 []))] (gcN 0 [2]) (gcN 0 [1000000]))) (cuts_by (l := []) (by kernel_rfl) (all_nil)) (fun s => by kernel_rfl)
def cc_unicode_utf8_ValidRune_3 (κ : Nat) : Cut T := p_unicode_utf8_ValidRune_2.cut (gcN 0 [0]) (fun a0 => unicode_utf8_ValidRune.v2 κ a0)
theorem cc_unicode_utf8_ValidRune_3_ok (κ : Nat) (m : Int) : CutOk Tryd.prog C (G m) Tryd.f41.ntmps 0 (pieceOf (.reg 3) (getBody Tryd.f41)) (cc_unicode_utf8_ValidRune_3 κ) := p_unicode_utf8_ValidRune_2_ct κ m
def ct_unicode_utf8_ValidRune_3 (κ : Nat) : Key → Option (Cut T) := addCut (ct_unicode_utf8_ValidRune_1 κ) (.reg 3) (cc_unicode_utf8_ValidRune_3 κ)
def sp_unicode_utf8_ValidRune : Spec T (Int) (Bool) where
  dcI a H := match a, H with
    | [(.v (.i .i32 a0))], [] => some a0
    | _, _ => none
  ecA := fun a0 => [(.v (.i .i32 a0))]
  ecH := fun a0 => []
  dcO o := match o with
    | .ret (.v (.b a0)) [] => some a0
    | _ => none
  goO := fun _ a0 k => k (.ret (.v (.b a0)) [])
  ecO := fun a0 => .ret (.v (.b a0)) []
theorem sp_unicode_utf8_ValidRune_ok : SpecOk sp_unicode_utf8_ValidRune := by
  refine ⟨fun a H i h => ?_, fun o x h => ?_, fun R e k => by kernel_rfl⟩
  · simp only [sp_unicode_utf8_ValidRune] at h ⊢; split at h <;> first | (cases h; exact ⟨rfl, rfl⟩) | (cases h; done)
  · simp only [sp_unicode_utf8_ValidRune] at h ⊢; split at h <;> first | (cases h; rfl) | (cases h; done)
theorem ok_unicode_utf8_ValidRune (κ : Nat) (m : Int) : EOk Tryd.prog C (G m) 41 (sp_unicode_utf8_ValidRune.entry (fun a0 => unicode_utf8_ValidRune κ a0)) :=
  Spec.ok sp_unicode_utf8_ValidRune_ok C_ok mixed (gam20_ok κ m) (cut := (ct_unicode_utf8_ValidRune_3 κ)) (NR := (gcN 0 [0])) (NP := (gcN 0 [0])) (nB := 0) Tryd.func41 (c := (getBody Tryd.f41)) (by kernel_rfl) (by kernel_rfl) (fun i => by kernel_rfl) gcN_ok gcN_ok (cuts_by (l := [(pieceOf (.reg 1) (getBody Tryd.f41), cc_unicode_utf8_ValidRune_1 κ), (pieceOf (.reg 3) (getBody Tryd.f41), cc_unicode_utf8_ValidRune_3 κ)]) (by kernel_rfl) (all_cons (cc_unicode_utf8_ValidRune_1_ok κ m) (all_cons (cc_unicode_utf8_ValidRune_3_ok κ m) (all_nil)))) (fun i => by kernel_rfl)
noncomputable def gam21 (κ : Nat) : Gam T := (gam20 κ).addS 41 sp_unicode_utf8_ValidRune (fun a0 => unicode_utf8_ValidRune κ a0)
theorem gam21_ok (κ : Nat) (m : Int) : GOk Tryd.prog C (G m) (gam21 κ) := (gam20_ok κ m).addS (ok_unicode_utf8_ValidRune κ m)
def p_strings_IndexRune_0 : Piece T (ByteArray × Int) (ByteArray × Int × Bool) where
  dcS env H ds := match env 0, env 1, H, ds with
    | (.v (.s a0)), (.v (.i .i32 a1)), [], [] => some (a0, a1)
    | _, _, _, _ => none
  slS := fun (a0, a1) => [(0, (.v (.s a0))), (1, (.v (.i .i32 a1)))]
  obS := fun (a0, a1) => []
  dsS := fun (a0, a1) => []
  dcE x env H ds := match x, env 0, env 1, env 160, H, ds with
    | .normal, (.v (.s a0)), (.v (.i .i32 a1)), (.v (.b a2)), [], [] => some (a0, a1, a2)
    | _, _, _, _, _, _ => none
  exE := fun (a0, a1, a2) => .normal
  slE := fun (a0, a1, a2) => [(0, (.v (.s a0))), (1, (.v (.i .i32 a1))), (160, (.v (.b a2)))]
  obE := fun (a0, a1, a2) => []
  dsE := fun (a0, a1, a2) => []
  goE := fun _ (a0, a1, a2) k => k .normal [(0, (.v (.s a0))), (1, (.v (.i .i32 a1))), (160, (.v (.b a2)))] [] []
theorem p_strings_IndexRune_0_ok : PieceOk p_strings_IndexRune_0 := by
  refine ⟨fun env H ds s h => ?_, fun x env H ds e h => ?_, fun R e k => by kernel_rfl⟩
  · simp only [p_strings_IndexRune_0] at h ⊢; split at h <;> first | (cases h; simp only [List.forall_mem_cons]; simp_all; done) | (cases h; done)
  · simp only [p_strings_IndexRune_0] at h ⊢; split at h <;> first | (cases h; simp only [List.forall_mem_cons]; simp_all; done) | (cases h; done)
theorem p_strings_IndexRune_0_ct (κ : Nat) (m : Int) : CutOk Tryd.prog C (G m) Tryd.f24.ntmps 0 (pieceOf (.reg 34) (getBody Tryd.f24)) (p_strings_IndexRune_0.cut (gcN 0 [0, 1]) (fun (a0, a1) => strings_IndexRune.v0 κ a0 a1)) :=
  Piece.join p_strings_IndexRune_0_ok C_ok mixed (gam20_ok κ m) gcN_ok (xN_ok gcN_ok (ex_cons gcN_ok (ex_nil)) gcN_ok gcN_ok) (cut := noCut) (X := (xN (gcN 0 [0, 1, 160]) [(0, (gcN 0 [4]))] (gcN 0 [4]) (gcN 0 [1000000]))) (cuts_by (l := []) (by kernel_rfl) (all_nil)) (fun s => by kernel_rfl)
def cc_strings_IndexRune_1 (κ : Nat) : Cut T := p_strings_IndexRune_0.cut (gcN 0 [0, 1]) (fun (a0, a1) => strings_IndexRune.v0 κ a0 a1)
theorem cc_strings_IndexRune_1_ok (κ : Nat) (m : Int) : CutOk Tryd.prog C (G m) Tryd.f24.ntmps 0 (pieceOf (.reg 34) (getBody Tryd.f24)) (cc_strings_IndexRune_1 κ) := p_strings_IndexRune_0_ct κ m
def ct_strings_IndexRune_1 (κ : Nat) : Key → Option (Cut T) := addCut noCut (.reg 34) (cc_strings_IndexRune_1 κ)
def p_strings_IndexRune_2 : Piece T (ByteArray × Nat) ((Unit) ⊕ (Int)) where
  dcS env H ds := match env 175, H, ds with
    | (.ptr 0 0), [(.siter a0 a1)], [] => some (a0, a1)
    | _, _, _ => none
  slS := fun (a0, a1) => [(175, (.ptr 0 0))]
  obS := fun (a0, a1) => [(.siter a0 a1)]
  dsS := fun (a0, a1) => []
  dcE x env H ds := match x, env 4, H, ds with
    | .normal, _, [], [] => some (.inl ())
    | .ret, (.v (.i .i64 a0)), [], [] => some (.inr a0)
    | _, _, _, _ => none
  exE := fun x => match x with
    | (.inl _) => .normal
    | (.inr a0) => .ret
  slE := fun x => match x with
    | (.inl _) => []
    | (.inr a0) => [(4, (.v (.i .i64 a0)))]
  obE := fun x => match x with
    | (.inl _) => []
    | (.inr a0) => []
  dsE := fun x => match x with
    | (.inl _) => []
    | (.inr a0) => []
  goE := fun _ x k => match x with
    | (.inl _) => k .normal [] [] []
    | (.inr a0) => k .ret [(4, (.v (.i .i64 a0)))] [] []
theorem p_strings_IndexRune_2_ok : PieceOk p_strings_IndexRune_2 := by
  refine ⟨fun env H ds s h => ?_, fun x env H ds e h => ?_, fun R e k => by rcases e with e | e <;> kernel_rfl⟩
  · simp only [p_strings_IndexRune_2] at h ⊢; split at h <;> first | (cases h; simp only [List.forall_mem_cons]; simp_all; done) | (cases h; done)
  · simp only [p_strings_IndexRune_2] at h ⊢; split at h <;> first | (cases h; simp only [List.forall_mem_cons]; simp_all; done) | (cases h; done)
theorem p_strings_IndexRune_2_ct (κ : Nat) (m : Int) : CutOk Tryd.prog C (G m) Tryd.f24.ntmps 0 (pieceOf (.blk 9) (getBody Tryd.f24)) (p_strings_IndexRune_2.cut (gcN 0 [175]) (strings_IndexRune.l2 κ κ)) :=
  Piece.loop p_strings_IndexRune_2_ok C_ok mixed (gam21_ok κ m) gcN_ok (xN_ok gcN_ok (ex_cons gcN_ok (ex_nil)) gcN_ok gcN_ok) (cut := (ct_strings_IndexRune_1 κ)) (X := (xN (gcN 0 []) [(0, (gcN 0 [4]))] (gcN 0 [4]) (gcN 0 [1000000]))) (id := 9) (body := bodyOf (pieceOf (.blk 9) (getBody Tryd.f24))) (cuts_by (l := []) (by kernel_rfl) (all_nil)) (f := strings_IndexRune.l2 κ) (fun s => by kernel_rfl) (fun k s => by kernel_rfl) κ
def cc_strings_IndexRune_3 (κ : Nat) : Cut T := p_strings_IndexRune_2.cut (gcN 0 [175]) (strings_IndexRune.l2 κ κ)
theorem cc_strings_IndexRune_3_ok (κ : Nat) (m : Int) : CutOk Tryd.prog C (G m) Tryd.f24.ntmps 0 (pieceOf (.blk 9) (getBody Tryd.f24)) (cc_strings_IndexRune_3 κ) := p_strings_IndexRune_2_ct κ m
def ct_strings_IndexRune_3 (κ : Nat) : Key → Option (Cut T) := addCut (ct_strings_IndexRune_1 κ) (.blk 9) (cc_strings_IndexRune_3 κ)
def p_strings_IndexRune_9 : Piece T (ByteArray × ByteArray × Int × Int × Bool) ((ByteArray × ByteArray × Int × Int) ⊕ (Int)) where
  dcS env H ds := match env 0, env 7, env 8, env 9, env 33, H, ds with
    | (.v (.s a0)), (.v (.s a1)), (.v (.i .i64 a2)), (.v (.i .i64 a3)), (.v (.b a4)), [], [] => some (a0, a1, a2, a3, a4)
    | _, _, _, _, _, _, _ => none
  slS := fun (a0, a1, a2, a3, a4) => [(0, (.v (.s a0))), (7, (.v (.s a1))), (8, (.v (.i .i64 a2))), (9, (.v (.i .i64 a3))), (33, (.v (.b a4)))]
  obS := fun (a0, a1, a2, a3, a4) => []
  dsS := fun (a0, a1, a2, a3, a4) => []
  dcE x env H ds := match x, env 0, env 4, env 7, env 8, env 9, H, ds with
    | .normal, (.v (.s a0)), _, (.v (.s a1)), (.v (.i .i64 a2)), (.v (.i .i64 a3)), [], [] => some (.inl (a0, a1, a2, a3))
    | .ret, _, (.v (.i .i64 a0)), _, _, _, [], [] => some (.inr a0)
    | _, _, _, _, _, _, _, _ => none
  exE := fun x => match x with
    | (.inl (a0, a1, a2, a3)) => .normal
    | (.inr a0) => .ret
  slE := fun x => match x with
    | (.inl (a0, a1, a2, a3)) => [(0, (.v (.s a0))), (7, (.v (.s a1))), (8, (.v (.i .i64 a2))), (9, (.v (.i .i64 a3)))]
    | (.inr a0) => [(4, (.v (.i .i64 a0)))]
  obE := fun x => match x with
    | (.inl (a0, a1, a2, a3)) => []
    | (.inr a0) => []
  dsE := fun x => match x with
    | (.inl (a0, a1, a2, a3)) => []
    | (.inr a0) => []
  goE := fun _ x k => match x with
    | (.inl (a0, a1, a2, a3)) => k .normal [(0, (.v (.s a0))), (7, (.v (.s a1))), (8, (.v (.i .i64 a2))), (9, (.v (.i .i64 a3)))] [] []
    | (.inr a0) => k .ret [(4, (.v (.i .i64 a0)))] [] []
theorem p_strings_IndexRune_9_ok : PieceOk p_strings_IndexRune_9 := by
  refine ⟨fun env H ds s h => ?_, fun x env H ds e h => ?_, fun R e k => by rcases e with e | e <;> kernel_rfl⟩
  · simp only [p_strings_IndexRune_9] at h ⊢; split at h <;> first | (cases h; simp only [List.forall_mem_cons]; simp_all; done) | (cases h; done)
  · simp only [p_strings_IndexRune_9] at h ⊢; split at h <;> first | (cases h; simp only [List.forall_mem_cons]; simp_all; done) | (cases h; done)
theorem p_strings_IndexRune_9_ct (κ : Nat) (m : Int) : CutOk Tryd.prog C (G m) Tryd.f24.ntmps 0 (pieceOf (.cnd 33 8) (getBody Tryd.f24)) (p_strings_IndexRune_9.cut (gcN 0 [0, 7, 8, 9, 33]) (fun (a0, a1, a2, a3, a4) => strings_IndexRune.v9 κ a0 a1 a2 a3 a4)) :=
  Piece.join p_strings_IndexRune_9_ok C_ok mixed (gam21_ok κ m) gcN_ok (xN_ok gcN_ok (ex_cons gcN_ok (ex_cons gcN_ok (ex_cons gcN_ok (ex_nil)))) gcN_ok gcN_ok) (cut := (ct_strings_IndexRune_3 κ)) (X := (xN (gcN 0 [0, 7, 8, 9]) [(2, (gcN 0 [0, 7, 8, 9])), (1, (gcN 0 [])), (0, (gcN 0 [4]))] (gcN 0 [4]) (gcN 0 [1000000]))) (cuts_by (l := []) (by kernel_rfl) (all_nil)) (fun s => by kernel_rfl)
def cc_strings_IndexRune_10 (κ : Nat) : Cut T := p_strings_IndexRune_9.cut (gcN 0 [0, 7, 8, 9, 33]) (fun (a0, a1, a2, a3, a4) => strings_IndexRune.v9 κ a0 a1 a2 a3 a4)
theorem cc_strings_IndexRune_10_ok (κ : Nat) (m : Int) : CutOk Tryd.prog C (G m) Tryd.f24.ntmps 0 (pieceOf (.cnd 33 8) (getBody Tryd.f24)) (cc_strings_IndexRune_10 κ) := p_strings_IndexRune_9_ct κ m
def ct_strings_IndexRune_10 (κ : Nat) : Key → Option (Cut T) := addCut (ct_strings_IndexRune_3 κ) (.cnd 33 8) (cc_strings_IndexRune_10 κ)
def p_strings_IndexRune_11 : Piece T (ByteArray × ByteArray × Int × Int × Int) (Int × Int) where
  dcS env H ds := match env 0, env 7, env 8, env 9, env 12, H, ds with
    | (.v (.s a0)), (.v (.s a1)), (.v (.i .i64 a2)), (.v (.i .i64 a3)), (.v (.i .i64 a4)), [], [] => some (a0, a1, a2, a3, a4)
    | _, _, _, _, _, _, _ => none
  slS := fun (a0, a1, a2, a3, a4) => [(0, (.v (.s a0))), (7, (.v (.s a1))), (8, (.v (.i .i64 a2))), (9, (.v (.i .i64 a3))), (12, (.v (.i .i64 a4)))]
  obS := fun (a0, a1, a2, a3, a4) => []
  dsS := fun (a0, a1, a2, a3, a4) => []
  dcE x env H ds := match x, env 8, env 9, H, ds with
    | .normal, (.v (.i .i64 a0)), (.v (.i .i64 a1)), [], [] => some (a0, a1)
    | _, _, _, _, _ => none
  exE := fun (a0, a1) => .normal
  slE := fun (a0, a1) => [(8, (.v (.i .i64 a0))), (9, (.v (.i .i64 a1)))]
  obE := fun (a0, a1) => []
  dsE := fun (a0, a1) => []
  goE := fun _ (a0, a1) k => k .normal [(8, (.v (.i .i64 a0))), (9, (.v (.i .i64 a1)))] [] []
theorem p_strings_IndexRune_11_ok : PieceOk p_strings_IndexRune_11 := by
  refine ⟨fun env H ds s h => ?_, fun x env H ds e h => ?_, fun R e k => by kernel_rfl⟩
  · simp only [p_strings_IndexRune_11] at h ⊢; split at h <;> first | (cases h; simp only [List.forall_mem_cons]; simp_all; done) | (cases h; done)
  · simp only [p_strings_IndexRune_11] at h ⊢; split at h <;> first | (cases h; simp only [List.forall_mem_cons]; simp_all; done) | (cases h; done)
theorem p_strings_IndexRune_11_ct (κ : Nat) (m : Int) : CutOk Tryd.prog C (G m) Tryd.f24.ntmps 0 (pieceOf (.blk 3) (getBody Tryd.f24)) (p_strings_IndexRune_11.cut (gcN 0 [0, 7, 8, 9, 12]) (strings_IndexRune.l11 κ κ)) :=
  Piece.loop p_strings_IndexRune_11_ok C_ok mixed (gam21_ok κ m) gcN_ok (xN_ok gcN_ok (ex_cons gcN_ok (ex_cons gcN_ok (ex_cons gcN_ok (ex_nil)))) gcN_ok gcN_ok) (cut := (ct_strings_IndexRune_10 κ)) (X := (xN (gcN 0 [8, 9]) [(2, (gcN 0 [0, 7, 8, 9])), (1, (gcN 0 [])), (0, (gcN 0 [4]))] (gcN 0 [4]) (gcN 0 [1000000]))) (id := 3) (body := bodyOf (pieceOf (.blk 3) (getBody Tryd.f24))) (cuts_by (l := []) (by kernel_rfl) (all_nil)) (f := strings_IndexRune.l11 κ) (fun s => by kernel_rfl) (fun k s => by kernel_rfl) κ
def cc_strings_IndexRune_12 (κ : Nat) : Cut T := p_strings_IndexRune_11.cut (gcN 0 [0, 7, 8, 9, 12]) (strings_IndexRune.l11 κ κ)
theorem cc_strings_IndexRune_12_ok (κ : Nat) (m : Int) : CutOk Tryd.prog C (G m) Tryd.f24.ntmps 0 (pieceOf (.blk 3) (getBody Tryd.f24)) (cc_strings_IndexRune_12 κ) := p_strings_IndexRune_11_ct κ m
def ct_strings_IndexRune_12 (κ : Nat) : Key → Option (Cut T) := addCut (ct_strings_IndexRune_10 κ) (.blk 3) (cc_strings_IndexRune_12 κ)
def p_strings_IndexRune_8 : Piece T (ByteArray × ByteArray × Int × Int) ((Unit) ⊕ (Int)) where
  dcS env H ds := match env 0, env 7, env 8, env 9, H, ds with
    | (.v (.s a0)), (.v (.s a1)), (.v (.i .i64 a2)), (.v (.i .i64 a3)), [], [] => some (a0, a1, a2, a3)
    | _, _, _, _, _, _ => none
  slS := fun (a0, a1, a2, a3) => [(0, (.v (.s a0))), (7, (.v (.s a1))), (8, (.v (.i .i64 a2))), (9, (.v (.i .i64 a3)))]
  obS := fun (a0, a1, a2, a3) => []
  dsS := fun (a0, a1, a2, a3) => []
  dcE x env H ds := match x, env 4, H, ds with
    | .normal, _, [], [] => some (.inl ())
    | .ret, (.v (.i .i64 a0)), [], [] => some (.inr a0)
    | _, _, _, _ => none
  exE := fun x => match x with
    | (.inl _) => .normal
    | (.inr a0) => .ret
  slE := fun x => match x with
    | (.inl _) => []
    | (.inr a0) => [(4, (.v (.i .i64 a0)))]
  obE := fun x => match x with
    | (.inl _) => []
    | (.inr a0) => []
  dsE := fun x => match x with
    | (.inl _) => []
    | (.inr a0) => []
  goE := fun _ x k => match x with
    | (.inl _) => k .normal [] [] []
    | (.inr a0) => k .ret [(4, (.v (.i .i64 a0)))] [] []
theorem p_strings_IndexRune_8_ok : PieceOk p_strings_IndexRune_8 := by
  refine ⟨fun env H ds s h => ?_, fun x env H ds e h => ?_, fun R e k => by rcases e with e | e <;> kernel_rfl⟩
  · simp only [p_strings_IndexRune_8] at h ⊢; split at h <;> first | (cases h; simp only [List.forall_mem_cons]; simp_all; done) | (cases h; done)
  · simp only [p_strings_IndexRune_8] at h ⊢; split at h <;> first | (cases h; simp only [List.forall_mem_cons]; simp_all; done) | (cases h; done)
theorem p_strings_IndexRune_8_ct (κ : Nat) (m : Int) : CutOk Tryd.prog C (G m) Tryd.f24.ntmps 0 (pieceOf (.blk 1) (getBody Tryd.f24)) (p_strings_IndexRune_8.cut (gcN 0 [0, 7, 8, 9]) (strings_IndexRune.l8 κ κ)) :=
  Piece.loop p_strings_IndexRune_8_ok C_ok mixed (gam21_ok κ m) gcN_ok (xN_ok gcN_ok (ex_cons gcN_ok (ex_nil)) gcN_ok gcN_ok) (cut := (ct_strings_IndexRune_12 κ)) (X := (xN (gcN 0 []) [(0, (gcN 0 [4]))] (gcN 0 [4]) (gcN 0 [1000000]))) (id := 1) (body := bodyOf (pieceOf (.blk 1) (getBody Tryd.f24))) (cuts_by (l := [(pieceOf (.cnd 33 8) (getBody Tryd.f24), cc_strings_IndexRune_10 κ), (pieceOf (.blk 3) (getBody Tryd.f24), cc_strings_IndexRune_12 κ)]) (by kernel_rfl) (all_cons (cc_strings_IndexRune_10_ok κ m) (all_cons (cc_strings_IndexRune_12_ok κ m) (all_nil)))) (f := strings_IndexRune.l8 κ) (fun s => by kernel_rfl) (fun k s => by kernel_rfl) κ
def cc_strings_IndexRune_13 (κ : Nat) : Cut T := p_strings_IndexRune_8.cut (gcN 0 [0, 7, 8, 9]) (strings_IndexRune.l8 κ κ)
theorem cc_strings_IndexRune_13_ok (κ : Nat) (m : Int) : CutOk Tryd.prog C (G m) Tryd.f24.ntmps 0 (pieceOf (.blk 1) (getBody Tryd.f24)) (cc_strings_IndexRune_13 κ) := p_strings_IndexRune_8_ct κ m
def ct_strings_IndexRune_13 (κ : Nat) : Key → Option (Cut T) := addCut (ct_strings_IndexRune_3 κ) (.blk 1) (cc_strings_IndexRune_13 κ)
def sp_strings_IndexRune : Spec T (ByteArray × Int) (Int) where
  dcI a H := match a, H with
    | [(.v (.s a0)), (.v (.i .i32 a1))], [] => some (a0, a1)
    | _, _ => none
  ecA := fun (a0, a1) => [(.v (.s a0)), (.v (.i .i32 a1))]
  ecH := fun (a0, a1) => []
  dcO o := match o with
    | .ret (.v (.i .i64 a0)) [] => some a0
    | _ => none
  goO := fun _ a0 k => k (.ret (.v (.i .i64 a0)) [])
  ecO := fun a0 => .ret (.v (.i .i64 a0)) []
theorem sp_strings_IndexRune_ok : SpecOk sp_strings_IndexRune := by
  refine ⟨fun a H i h => ?_, fun o x h => ?_, fun R e k => by kernel_rfl⟩
  · simp only [sp_strings_IndexRune] at h ⊢; split at h <;> first | (cases h; exact ⟨rfl, rfl⟩) | (cases h; done)
  · simp only [sp_strings_IndexRune] at h ⊢; split at h <;> first | (cases h; rfl) | (cases h; done)
theorem ok_strings_IndexRune (κ : Nat) (m : Int) : EOk Tryd.prog C (G m) 24 (sp_strings_IndexRune.entry (fun (a0, a1) => strings_IndexRune κ a0 a1)) :=
  Spec.ok sp_strings_IndexRune_ok C_ok mixed (gam21_ok κ m) (cut := (ct_strings_IndexRune_13 κ)) (NR := (gcN 0 [0])) (NP := (gcN 0 [0])) (nB := 0) Tryd.func24 (c := (getBody Tryd.f24)) (by kernel_rfl) (by kernel_rfl) (fun i => by kernel_rfl) gcN_ok gcN_ok (cuts_by (l := [(pieceOf (.reg 34) (getBody Tryd.f24), cc_strings_IndexRune_1 κ), (pieceOf (.blk 9) (getBody Tryd.f24), cc_strings_IndexRune_3 κ), (pieceOf (.blk 1) (getBody Tryd.f24), cc_strings_IndexRune_13 κ)]) (by kernel_rfl) (all_cons (cc_strings_IndexRune_1_ok κ m) (all_cons (cc_strings_IndexRune_3_ok κ m) (all_cons (cc_strings_IndexRune_13_ok κ m) (all_nil))))) (fun i => by kernel_rfl)
noncomputable def gam22 (κ : Nat) : Gam T := (gam21 κ).addS 24 sp_strings_IndexRune (fun (a0, a1) => strings_IndexRune κ a0 a1)
theorem gam22_ok (κ : Nat) (m : Int) : GOk Tryd.prog C (G m) (gam22 κ) := (gam21_ok κ m).addS (ok_strings_IndexRune κ m)
def p_unicode_utf8_appendRuneNonASCII_1 : Piece T (Int × Int × (List Int)) (Int × Int × Bool × (List Int)) where
  dcS env H ds := match env 0, env 1, env 5, H, ds with
    | (.own 0), (.v (.i .i32 a0)), (.v (.i .u32 a1)), [(.row 5 a2 true)], [] => some (a0, a1, a2)
    | _, _, _, _, _ => none
  slS := fun (a0, a1, a2) => [(0, (.own 0)), (1, (.v (.i .i32 a0))), (5, (.v (.i .u32 a1)))]
  obS := fun (a0, a1, a2) => [(.row 5 a2 true)]
  dsS := fun (a0, a1, a2) => []
  dcE x env H ds := match x, env 0, env 1, env 5, env 25, H, ds with
    | .normal, (.own 0), (.v (.i .i32 a0)), (.v (.i .u32 a1)), (.v (.b a2)), [(.row 5 a3 true)], [] => some (a0, a1, a2, a3)
    | _, _, _, _, _, _, _ => none
  exE := fun (a0, a1, a2, a3) => .normal
  slE := fun (a0, a1, a2, a3) => [(0, (.own 0)), (1, (.v (.i .i32 a0))), (5, (.v (.i .u32 a1))), (25, (.v (.b a2)))]
  obE := fun (a0, a1, a2, a3) => [(.row 5 a3 true)]
  dsE := fun (a0, a1, a2, a3) => []
  goE := fun _ (a0, a1, a2, a3) k => k .normal [(0, (.own 0)), (1, (.v (.i .i32 a0))), (5, (.v (.i .u32 a1))), (25, (.v (.b a2)))] [(.row 5 a3 true)] []
theorem p_unicode_utf8_appendRuneNonASCII_1_ok : PieceOk p_unicode_utf8_appendRuneNonASCII_1 := by
  refine ⟨fun env H ds s h => ?_, fun x env H ds e h => ?_, fun R e k => by kernel_rfl⟩
  · simp only [p_unicode_utf8_appendRuneNonASCII_1] at h ⊢; split at h <;> first | (cases h; simp only [List.forall_mem_cons]; simp_all; done) | (cases h; done)
  · simp only [p_unicode_utf8_appendRuneNonASCII_1] at h ⊢; split at h <;> first | (cases h; simp only [List.forall_mem_cons]; simp_all; done) | (cases h; done)
theorem p_unicode_utf8_appendRuneNonASCII_1_ct (κ : Nat) (m : Int) : CutOk Tryd.prog C (G m) Tryd.f58.ntmps 1 (pieceOf (.reg 6) (getBody Tryd.f58)) (p_unicode_utf8_appendRuneNonASCII_1.cut (gcN 1 [0, 1, 5]) (fun (a0, a1, a2) => unicode_utf8_appendRuneNonASCII.v1 κ a0 a1 a2)) :=
  Piece.join p_unicode_utf8_appendRuneNonASCII_1_ok C_ok mixed (gam22_ok κ m) gcN_ok (xN_ok gcN_ok (ex_cons gcN_ok (ex_nil)) gcN_ok gcN_ok) (cut := noCut) (X := (xN (gcN 1 [0, 1, 5, 25]) [(0, (gcN 1 [4]))] (gcN 1 [4]) (gcN 1 [1000000]))) (cuts_by (l := []) (by kernel_rfl) (all_nil)) (fun s => by kernel_rfl)
def cc_unicode_utf8_appendRuneNonASCII_2 (κ : Nat) : Cut T := p_unicode_utf8_appendRuneNonASCII_1.cut (gcN 1 [0, 1, 5]) (fun (a0, a1, a2) => unicode_utf8_appendRuneNonASCII.v1 κ a0 a1 a2)
theorem cc_unicode_utf8_appendRuneNonASCII_2_ok (κ : Nat) (m : Int) : CutOk Tryd.prog C (G m) Tryd.f58.ntmps 1 (pieceOf (.reg 6) (getBody Tryd.f58)) (cc_unicode_utf8_appendRuneNonASCII_2 κ) := p_unicode_utf8_appendRuneNonASCII_1_ct κ m
def ct_unicode_utf8_appendRuneNonASCII_2 (κ : Nat) : Key → Option (Cut T) := addCut noCut (.reg 6) (cc_unicode_utf8_appendRuneNonASCII_2 κ)
def p_unicode_utf8_appendRuneNonASCII_0 : Piece T (Int × Int × Bool × (List Int)) (Int × Int × Bool × (List Int)) where
  dcS env H ds := match env 0, env 1, env 5, env 25, H, ds with
    | (.own 0), (.v (.i .i32 a0)), (.v (.i .u32 a1)), (.v (.b a2)), [(.row 5 a3 true)], [] => some (a0, a1, a2, a3)
    | _, _, _, _, _, _ => none
  slS := fun (a0, a1, a2, a3) => [(0, (.own 0)), (1, (.v (.i .i32 a0))), (5, (.v (.i .u32 a1))), (25, (.v (.b a2)))]
  obS := fun (a0, a1, a2, a3) => [(.row 5 a3 true)]
  dsS := fun (a0, a1, a2, a3) => []
  dcE x env H ds := match x, env 0, env 1, env 5, env 25, H, ds with
    | .normal, (.own 0), (.v (.i .i32 a0)), (.v (.i .u32 a1)), (.v (.b a2)), [(.row 5 a3 true)], [] => some (a0, a1, a2, a3)
    | _, _, _, _, _, _, _ => none
  exE := fun (a0, a1, a2, a3) => .normal
  slE := fun (a0, a1, a2, a3) => [(0, (.own 0)), (1, (.v (.i .i32 a0))), (5, (.v (.i .u32 a1))), (25, (.v (.b a2)))]
  obE := fun (a0, a1, a2, a3) => [(.row 5 a3 true)]
  dsE := fun (a0, a1, a2, a3) => []
  goE := fun _ (a0, a1, a2, a3) k => k .normal [(0, (.own 0)), (1, (.v (.i .i32 a0))), (5, (.v (.i .u32 a1))), (25, (.v (.b a2)))] [(.row 5 a3 true)] []
theorem p_unicode_utf8_appendRuneNonASCII_0_ok : PieceOk p_unicode_utf8_appendRuneNonASCII_0 := by
  refine ⟨fun env H ds s h => ?_, fun x env H ds e h => ?_, fun R e k => by kernel_rfl⟩
  · simp only [p_unicode_utf8_appendRuneNonASCII_0] at h ⊢; split at h <;> first | (cases h; simp only [List.forall_mem_cons]; simp_all; done) | (cases h; done)
  · simp only [p_unicode_utf8_appendRuneNonASCII_0] at h ⊢; split at h <;> first | (cases h; simp only [List.forall_mem_cons]; simp_all; done) | (cases h; done)
theorem p_unicode_utf8_appendRuneNonASCII_0_ct (κ : Nat) (m : Int) : CutOk Tryd.prog C (G m) Tryd.f58.ntmps 1 (pieceOf (.cnd 25 7) (getBody Tryd.f58)) (p_unicode_utf8_appendRuneNonASCII_0.cut (gcN 1 [0, 1, 5, 25]) (fun (a0, a1, a2, a3) => unicode_utf8_appendRuneNonASCII.v0 κ a0 a1 a2 a3)) :=
  Piece.join p_unicode_utf8_appendRuneNonASCII_0_ok C_ok mixed (gam22_ok κ m) gcN_ok (xN_ok gcN_ok (ex_cons gcN_ok (ex_nil)) gcN_ok gcN_ok) (cut := (ct_unicode_utf8_appendRuneNonASCII_2 κ)) (X := (xN (gcN 1 [0, 1, 5, 25]) [(0, (gcN 1 [4]))] (gcN 1 [4]) (gcN 1 [1000000]))) (cuts_by (l := [(pieceOf (.reg 6) (getBody Tryd.f58), cc_unicode_utf8_appendRuneNonASCII_2 κ)]) (by kernel_rfl) (all_cons (cc_unicode_utf8_appendRuneNonASCII_2_ok κ m) (all_nil))) (fun s => by kernel_rfl)
def cc_unicode_utf8_appendRuneNonASCII_3 (κ : Nat) : Cut T := p_unicode_utf8_appendRuneNonASCII_0.cut (gcN 1 [0, 1, 5, 25]) (fun (a0, a1, a2, a3) => unicode_utf8_appendRuneNonASCII.v0 κ a0 a1 a2 a3)
theorem cc_unicode_utf8_appendRuneNonASCII_3_ok (κ : Nat) (m : Int) : CutOk Tryd.prog C (G m) Tryd.f58.ntmps 1 (pieceOf (.cnd 25 7) (getBody Tryd.f58)) (cc_unicode_utf8_appendRuneNonASCII_3 κ) := p_unicode_utf8_appendRuneNonASCII_0_ct κ m
def ct_unicode_utf8_appendRuneNonASCII_3 (κ : Nat) : Key → Option (Cut T) := addCut noCut (.cnd 25 7) (cc_unicode_utf8_appendRuneNonASCII_3 κ)
def p_unicode_utf8_appendRuneNonASCII_4 : Piece T (Int × Int × (List Int)) (Int × Bool × (List Int)) where
  dcS env H ds := match env 0, env 1, env 5, H, ds with
    | (.own 0), (.v (.i .i32 a0)), (.v (.i .u32 a1)), [(.row 5 a2 true)], [] => some (a0, a1, a2)
    | _, _, _, _, _ => none
  slS := fun (a0, a1, a2) => [(0, (.own 0)), (1, (.v (.i .i32 a0))), (5, (.v (.i .u32 a1)))]
  obS := fun (a0, a1, a2) => [(.row 5 a2 true)]
  dsS := fun (a0, a1, a2) => []
  dcE x env H ds := match x, env 0, env 1, env 50, H, ds with
    | .normal, (.own 0), (.v (.i .i32 a0)), (.v (.b a1)), [(.row 5 a2 true)], [] => some (a0, a1, a2)
    | _, _, _, _, _, _ => none
  exE := fun (a0, a1, a2) => .normal
  slE := fun (a0, a1, a2) => [(0, (.own 0)), (1, (.v (.i .i32 a0))), (50, (.v (.b a1)))]
  obE := fun (a0, a1, a2) => [(.row 5 a2 true)]
  dsE := fun (a0, a1, a2) => []
  goE := fun _ (a0, a1, a2) k => k .normal [(0, (.own 0)), (1, (.v (.i .i32 a0))), (50, (.v (.b a1)))] [(.row 5 a2 true)] []
theorem p_unicode_utf8_appendRuneNonASCII_4_ok : PieceOk p_unicode_utf8_appendRuneNonASCII_4 := by
  refine ⟨fun env H ds s h => ?_, fun x env H ds e h => ?_, fun R e k => by kernel_rfl⟩
  · simp only [p_unicode_utf8_appendRuneNonASCII_4] at h ⊢; split at h <;> first | (cases h; simp only [List.forall_mem_cons]; simp_all; done) | (cases h; done)
  · simp only [p_unicode_utf8_appendRuneNonASCII_4] at h ⊢; split at h <;> first | (cases h; simp only [List.forall_mem_cons]; simp_all; done) | (cases h; done)
theorem p_unicode_utf8_appendRuneNonASCII_4_ct (κ : Nat) (m : Int) : CutOk Tryd.prog C (G m) Tryd.f58.ntmps 1 (pieceOf (.reg 8) (getBody Tryd.f58)) (p_unicode_utf8_appendRuneNonASCII_4.cut (gcN 1 [0, 1, 5]) (fun (a0, a1, a2) => unicode_utf8_appendRuneNonASCII.v4 κ a0 a1 a2)) :=
  Piece.join p_unicode_utf8_appendRuneNonASCII_4_ok C_ok mixed (gam22_ok κ m) gcN_ok (xN_ok gcN_ok (ex_cons gcN_ok (ex_nil)) gcN_ok gcN_ok) (cut := (ct_unicode_utf8_appendRuneNonASCII_3 κ)) (X := (xN (gcN 1 [0, 1, 50]) [(0, (gcN 1 [4]))] (gcN 1 [4]) (gcN 1 [1000000]))) (cuts_by (l := []) (by kernel_rfl) (all_nil)) (fun s => by kernel_rfl)
def cc_unicode_utf8_appendRuneNonASCII_5 (κ : Nat) : Cut T := p_unicode_utf8_appendRuneNonASCII_4.cut (gcN 1 [0, 1, 5]) (fun (a0, a1, a2) => unicode_utf8_appendRuneNonASCII.v4 κ a0 a1 a2)
theorem cc_unicode_utf8_appendRuneNonASCII_5_ok (κ : Nat) (m : Int) : CutOk Tryd.prog C (G m) Tryd.f58.ntmps 1 (pieceOf (.reg 8) (getBody Tryd.f58)) (cc_unicode_utf8_appendRuneNonASCII_5 κ) := p_unicode_utf8_appendRuneNonASCII_4_ct κ m
def ct_unicode_utf8_appendRuneNonASCII_5 (κ : Nat) : Key → Option (Cut T) := addCut (ct_unicode_utf8_appendRuneNonASCII_3 κ) (.reg 8) (cc_unicode_utf8_appendRuneNonASCII_5 κ)
def sp_unicode_utf8_appendRuneNonASCII : Spec T (Int × (List Int)) ((List Int)) where
  dcI a H := match a, H with
    | [(.own 0), (.v (.i .i32 a0))], [(.row 5 a1 true)] => some (a0, a1)
    | _, _ => none
  ecA := fun (a0, a1) => [(.own 0), (.v (.i .i32 a0))]
  ecH := fun (a0, a1) => [(.row 5 a1 true)]
  dcO o := match o with
    | .ret (.own 0) [(.row 5 a0 true)] => some a0
    | _ => none
  goO := fun _ a0 k => k (.ret (.own 0) [(.row 5 a0 true)])
  ecO := fun a0 => .ret (.own 0) [(.row 5 a0 true)]
theorem sp_unicode_utf8_appendRuneNonASCII_ok : SpecOk sp_unicode_utf8_appendRuneNonASCII := by
  refine ⟨fun a H i h => ?_, fun o x h => ?_, fun R e k => by kernel_rfl⟩
  · simp only [sp_unicode_utf8_appendRuneNonASCII] at h ⊢; split at h <;> first | (cases h; exact ⟨rfl, rfl⟩) | (cases h; done)
  · simp only [sp_unicode_utf8_appendRuneNonASCII] at h ⊢; split at h <;> first | (cases h; rfl) | (cases h; done)
theorem ok_unicode_utf8_appendRuneNonASCII (κ : Nat) (m : Int) : EOk Tryd.prog C (G m) 58 (sp_unicode_utf8_appendRuneNonASCII.entry (fun (a0, a1) => unicode_utf8_appendRuneNonASCII κ a0 a1)) :=
  Spec.ok sp_unicode_utf8_appendRuneNonASCII_ok C_ok mixed (gam22_ok κ m) (cut := (ct_unicode_utf8_appendRuneNonASCII_5 κ)) (NR := (gcN 1 [0])) (NP := (gcN 1 [0])) (nB := 1) Tryd.func58 (c := (getBody Tryd.f58)) (by kernel_rfl) (by kernel_rfl) (fun i => by kernel_rfl) gcN_ok gcN_ok (cuts_by (l := [(pieceOf (.cnd 25 7) (getBody Tryd.f58), cc_unicode_utf8_appendRuneNonASCII_3 κ), (pieceOf (.reg 8) (getBody Tryd.f58), cc_unicode_utf8_appendRuneNonASCII_5 κ)]) (by kernel_rfl) (all_cons (cc_unicode_utf8_appendRuneNonASCII_3_ok κ m) (all_cons (cc_unicode_utf8_appendRuneNonASCII_5_ok κ m) (all_nil)))) (fun i => by kernel_rfl)
noncomputable def gam23 (κ : Nat) : Gam T := (gam22 κ).addS 58 sp_unicode_utf8_appendRuneNonASCII (fun (a0, a1) => unicode_utf8_appendRuneNonASCII κ a0 a1)
theorem gam23_ok (κ : Nat) (m : Int) : GOk Tryd.prog C (G m) (gam23 κ) := (gam22_ok κ m).addS (ok_unicode_utf8_appendRuneNonASCII κ m)
def sp_unicode_utf8_AppendRune : Spec T (Int × (List Int)) ((List Int)) where
  dcI a H := match a, H with
    | [(.own 0), (.v (.i .i32 a0))], [(.row 5 a1 true)] => some (a0, a1)
    | _, _ => none
  ecA := fun (a0, a1) => [(.own 0), (.v (.i .i32 a0))]
  ecH := fun (a0, a1) => [(.row 5 a1 true)]
  dcO o := match o with
    | .ret (.own 0) [(.row 5 a0 true)] => some a0
    | _ => none
  goO := fun _ a0 k => k (.ret (.own 0) [(.row 5 a0 true)])
  ecO := fun a0 => .ret (.own 0) [(.row 5 a0 true)]
theorem sp_unicode_utf8_AppendRune_ok : SpecOk sp_unicode_utf8_AppendRune := by
  refine ⟨fun a H i h => ?_, fun o x h => ?_, fun R e k => by kernel_rfl⟩
  · simp only [sp_unicode_utf8_AppendRune] at h ⊢; split at h <;> first | (cases h; exact ⟨rfl, rfl⟩) | (cases h; done)
  · simp only [sp_unicode_utf8_AppendRune] at h ⊢; split at h <;> first | (cases h; rfl) | (cases h; done)
theorem ok_unicode_utf8_AppendRune (κ : Nat) (m : Int) : EOk Tryd.prog C (G m) 44 (sp_unicode_utf8_AppendRune.entry (fun (a0, a1) => unicode_utf8_AppendRune κ a0 a1)) :=
  Spec.ok sp_unicode_utf8_AppendRune_ok C_ok mixed (gam23_ok κ m) (cut := noCut) (NR := (gcN 1 [0])) (NP := (gcN 1 [0])) (nB := 1) Tryd.func44 (c := (getBody Tryd.f44)) (by kernel_rfl) (by kernel_rfl) (fun i => by kernel_rfl) gcN_ok gcN_ok (cuts_by (l := []) (by kernel_rfl) (all_nil)) (fun i => by kernel_rfl)
noncomputable def gam24 (κ : Nat) : Gam T := (gam23 κ).addS 44 sp_unicode_utf8_AppendRune (fun (a0, a1) => unicode_utf8_AppendRune κ a0 a1)
theorem gam24_ok (κ : Nat) (m : Int) : GOk Tryd.prog C (G m) (gam24 κ) := (gam23_ok κ m).addS (ok_unicode_utf8_AppendRune κ m)
def sp_strings_Builder_WriteRune : Spec T (Int × (List Int)) (Int × (List Int)) where
  dcI a H := match a, H with
    | [(.ptr 0 0), (.v (.i .i32 a0))], [(.cells 57 none [(.ptr 0 0), (.own 1)]), (.row 5 a1 true)] => some (a0, a1)
    | _, _ => none
  ecA := fun (a0, a1) => [(.ptr 0 0), (.v (.i .i32 a0))]
  ecH := fun (a0, a1) => [(.cells 57 none [(.ptr 0 0), (.own 1)]), (.row 5 a1 true)]
  dcO o := match o with
    | .ret (.tup [(.v (.i .i64 a0)), (.v .if0)]) [(.cells 57 none [(.ptr 0 0), (.own 1)]), (.row 5 a1 true)] => some (a0, a1)
    | _ => none
  goO := fun _ (a0, a1) k => k (.ret (.tup [(.v (.i .i64 a0)), (.v .if0)]) [(.cells 57 none [(.ptr 0 0), (.own 1)]), (.row 5 a1 true)])
  ecO := fun (a0, a1) => .ret (.tup [(.v (.i .i64 a0)), (.v .if0)]) [(.cells 57 none [(.ptr 0 0), (.own 1)]), (.row 5 a1 true)]
theorem sp_strings_Builder_WriteRune_ok : SpecOk sp_strings_Builder_WriteRune := by
  refine ⟨fun a H i h => ?_, fun o x h => ?_, fun R e k => by kernel_rfl⟩
  · simp only [sp_strings_Builder_WriteRune] at h ⊢; split at h <;> first | (cases h; exact ⟨rfl, rfl⟩) | (cases h; done)
  · simp only [sp_strings_Builder_WriteRune] at h ⊢; split at h <;> first | (cases h; rfl) | (cases h; done)
theorem ok_strings_Builder_WriteRune (κ : Nat) (m : Int) : EOk Tryd.prog C (G m) 26 (sp_strings_Builder_WriteRune.entry (fun (a0, a1) => strings_Builder_WriteRune κ a0 a1)) :=
  Spec.ok sp_strings_Builder_WriteRune_ok C_ok mixed (gam24_ok κ m) (cut := noCut) (NR := (gcN 2 [0])) (NP := (gcN 2 [0])) (nB := 2) Tryd.func26 (c := (getBody Tryd.f26)) (by kernel_rfl) (by kernel_rfl) (fun i => by kernel_rfl) gcN_ok gcN_ok (cuts_by (l := []) (by kernel_rfl) (all_nil)) (fun i => by kernel_rfl)
noncomputable def gam25 (κ : Nat) : Gam T := (gam24 κ).addS 26 sp_strings_Builder_WriteRune (fun (a0, a1) => strings_Builder_WriteRune κ a0 a1)
theorem gam25_ok (κ : Nat) (m : Int) : GOk Tryd.prog C (G m) (gam25 κ) := (gam24_ok κ m).addS (ok_strings_Builder_WriteRune κ m)
def sp_strings_Builder_WriteByte_2 : Spec T (Int × (List Int)) ((List Int)) where
  dcI a H := match a, H with
    | [(.ptr 0 0), (.v (.i .u8 a0))], [(.cells 57 none [(.ptr 0 0), (.own 1)]), (.row 5 a1 true)] => some (a0, a1)
    | _, _ => none
  ecA := fun (a0, a1) => [(.ptr 0 0), (.v (.i .u8 a0))]
  ecH := fun (a0, a1) => [(.cells 57 none [(.ptr 0 0), (.own 1)]), (.row 5 a1 true)]
  dcO o := match o with
    | .ret (.v .if0) [(.cells 57 none [(.ptr 0 0), (.own 1)]), (.row 5 a0 true)] => some a0
    | _ => none
  goO := fun _ a0 k => k (.ret (.v .if0) [(.cells 57 none [(.ptr 0 0), (.own 1)]), (.row 5 a0 true)])
  ecO := fun a0 => .ret (.v .if0) [(.cells 57 none [(.ptr 0 0), (.own 1)]), (.row 5 a0 true)]
theorem sp_strings_Builder_WriteByte_2_ok : SpecOk sp_strings_Builder_WriteByte_2 := by
  refine ⟨fun a H i h => ?_, fun o x h => ?_, fun R e k => by kernel_rfl⟩
  · simp only [sp_strings_Builder_WriteByte_2] at h ⊢; split at h <;> first | (cases h; exact ⟨rfl, rfl⟩) | (cases h; done)
  · simp only [sp_strings_Builder_WriteByte_2] at h ⊢; split at h <;> first | (cases h; rfl) | (cases h; done)
theorem ok_strings_Builder_WriteByte_2 (κ : Nat) (m : Int) : EOk Tryd.prog C (G m) 22 (sp_strings_Builder_WriteByte_2.entry (fun (a0, a1) => strings_Builder_WriteByte_2 κ a0 a1)) :=
  Spec.ok sp_strings_Builder_WriteByte_2_ok C_ok mixed (gam25_ok κ m) (cut := noCut) (NR := (gcN 2 [0])) (NP := (gcN 2 [0])) (nB := 2) Tryd.func22 (c := (getBody Tryd.f22)) (by kernel_rfl) (by kernel_rfl) (fun i => by kernel_rfl) gcN_ok gcN_ok (cuts_by (l := []) (by kernel_rfl) (all_nil)) (fun i => by kernel_rfl)
noncomputable def gam26 (κ : Nat) : Gam T := (gam25 κ).addS 22 sp_strings_Builder_WriteByte_2 (fun (a0, a1) => strings_Builder_WriteByte_2 κ a0 a1)
theorem gam26_ok (κ : Nat) (m : Int) : GOk Tryd.prog C (G m) (gam26 κ) := (gam25_ok κ m).addS (ok_strings_Builder_WriteByte_2 κ m)
def p_lex_Quote_14 : Piece T (ByteArray × Int × Int × Int × Int × ByteArray × Nat × (List Int)) (ByteArray × Int × Int × Int × Bool × ByteArray × Nat × (List Int)) where
  dcS env H ds := match env 0, env 3, env 4, env 5, env 7, env 8, env 11, H, ds with
    | (.v (.s a0)), (.ptr 0 0), (.v (.i .i64 a1)), (.v (.i .i32 a2)), (.v (.i .i64 a3)), (.v (.i .i64 a4)), (.ptr 1 0), [(.cells 57 none [(.ptr 0 0), (.own 2)]), (.siter a5 a6), (.row 5 a7 true)], [] => some (a0, a1, a2, a3, a4, a5, a6, a7)
    | _, _, _, _, _, _, _, _, _ => none
  slS := fun (a0, a1, a2, a3, a4, a5, a6, a7) => [(0, (.v (.s a0))), (3, (.ptr 0 0)), (4, (.v (.i .i64 a1))), (5, (.v (.i .i32 a2))), (7, (.v (.i .i64 a3))), (8, (.v (.i .i64 a4))), (11, (.ptr 1 0))]
  obS := fun (a0, a1, a2, a3, a4, a5, a6, a7) => [(.cells 57 none [(.ptr 0 0), (.own 2)]), (.siter a5 a6), (.row 5 a7 true)]
  dsS := fun (a0, a1, a2, a3, a4, a5, a6, a7) => []
  dcE x env H ds := match x, env 0, env 3, env 4, env 5, env 8, env 11, env 27, H, ds with
    | .normal, (.v (.s a0)), (.ptr 0 0), (.v (.i .i64 a1)), (.v (.i .i32 a2)), (.v (.i .i64 a3)), (.ptr 1 0), (.v (.b a4)), [(.cells 57 none [(.ptr 0 0), (.own 2)]), (.siter a5 a6), (.row 5 a7 true)], [] => some (a0, a1, a2, a3, a4, a5, a6, a7)
    | _, _, _, _, _, _, _, _, _, _ => none
  exE := fun (a0, a1, a2, a3, a4, a5, a6, a7) => .normal
  slE := fun (a0, a1, a2, a3, a4, a5, a6, a7) => [(0, (.v (.s a0))), (3, (.ptr 0 0)), (4, (.v (.i .i64 a1))), (5, (.v (.i .i32 a2))), (8, (.v (.i .i64 a3))), (11, (.ptr 1 0)), (27, (.v (.b a4)))]
  obE := fun (a0, a1, a2, a3, a4, a5, a6, a7) => [(.cells 57 none [(.ptr 0 0), (.own 2)]), (.siter a5 a6), (.row 5 a7 true)]
  dsE := fun (a0, a1, a2, a3, a4, a5, a6, a7) => []
  goE := fun _ (a0, a1, a2, a3, a4, a5, a6, a7) k => k .normal [(0, (.v (.s a0))), (3, (.ptr 0 0)), (4, (.v (.i .i64 a1))), (5, (.v (.i .i32 a2))), (8, (.v (.i .i64 a3))), (11, (.ptr 1 0)), (27, (.v (.b a4)))] [(.cells 57 none [(.ptr 0 0), (.own 2)]), (.siter a5 a6), (.row 5 a7 true)] []
theorem p_lex_Quote_14_ok : PieceOk p_lex_Quote_14 := by
  refine ⟨fun env H ds s h => ?_, fun x env H ds e h => ?_, fun R e k => by kernel_rfl⟩
  · simp only [p_lex_Quote_14] at h ⊢; split at h <;> first | (cases h; simp only [List.forall_mem_cons]; simp_all; done) | (cases h; done)
  · simp only [p_lex_Quote_14] at h ⊢; split at h <;> first | (cases h; simp only [List.forall_mem_cons]; simp_all; done) | (cases h; done)
theorem p_lex_Quote_14_ct (κ : Nat) (m : Int) : CutOk Tryd.prog C (G m) Tryd.f13.ntmps 0 (pieceOf (.reg 9) (getBody Tryd.f13)) (p_lex_Quote_14.cut (gcN 0 [0, 3, 4, 5, 7, 8, 11]) (fun (a0, a1, a2, a3, a4, a5, a6, a7) => lex_Quote.v14 κ a0 a1 a2 a3 a4 a5 a6 a7)) :=
  Piece.join p_lex_Quote_14_ok C_ok mixed (gam25_ok κ m) gcN_ok (xN_ok gcN_ok (ex_cons gcN_ok (ex_cons gcN_ok (ex_cons gcN_ok (ex_nil)))) gcN_ok gcN_ok) (cut := noCut) (X := (xN (gcN 0 [0, 3, 4, 5, 8, 11, 27]) [(2, (gcN 0 [0, 3, 11])), (1, (gcN 0 [0, 3, 11])), (0, (gcN 0 [3]))] (gcN 0 [2]) (gcN 0 [1000000]))) (cuts_by (l := []) (by kernel_rfl) (all_nil)) (fun s => by kernel_rfl)
def cc_lex_Quote_15 (κ : Nat) : Cut T := p_lex_Quote_14.cut (gcN 0 [0, 3, 4, 5, 7, 8, 11]) (fun (a0, a1, a2, a3, a4, a5, a6, a7) => lex_Quote.v14 κ a0 a1 a2 a3 a4 a5 a6 a7)
theorem cc_lex_Quote_15_ok (κ : Nat) (m : Int) : CutOk Tryd.prog C (G m) Tryd.f13.ntmps 0 (pieceOf (.reg 9) (getBody Tryd.f13)) (cc_lex_Quote_15 κ) := p_lex_Quote_14_ct κ m
def ct_lex_Quote_15 (κ : Nat) : Key → Option (Cut T) := addCut noCut (.reg 9) (cc_lex_Quote_15 κ)
def p_lex_Quote_17 : Piece T (ByteArray × Int × Int × Int × ByteArray × Nat × (List Int)) (ByteArray × Int × Int × Int × Bool × ByteArray × Nat × (List Int)) where
  dcS env H ds := match env 0, env 3, env 4, env 5, env 8, env 11, H, ds with
    | (.v (.s a0)), (.ptr 0 0), (.v (.i .i64 a1)), (.v (.i .i32 a2)), (.v (.i .i64 a3)), (.ptr 1 0), [(.cells 57 none [(.ptr 0 0), (.own 2)]), (.siter a4 a5), (.row 5 a6 true)], [] => some (a0, a1, a2, a3, a4, a5, a6)
    | _, _, _, _, _, _, _, _ => none
  slS := fun (a0, a1, a2, a3, a4, a5, a6) => [(0, (.v (.s a0))), (3, (.ptr 0 0)), (4, (.v (.i .i64 a1))), (5, (.v (.i .i32 a2))), (8, (.v (.i .i64 a3))), (11, (.ptr 1 0))]
  obS := fun (a0, a1, a2, a3, a4, a5, a6) => [(.cells 57 none [(.ptr 0 0), (.own 2)]), (.siter a4 a5), (.row 5 a6 true)]
  dsS := fun (a0, a1, a2, a3, a4, a5, a6) => []
  dcE x env H ds := match x, env 0, env 3, env 4, env 5, env 8, env 11, env 27, H, ds with
    | .normal, (.v (.s a0)), (.ptr 0 0), (.v (.i .i64 a1)), (.v (.i .i32 a2)), (.v (.i .i64 a3)), (.ptr 1 0), (.v (.b a4)), [(.cells 57 none [(.ptr 0 0), (.own 2)]), (.siter a5 a6), (.row 5 a7 true)], [] => some (a0, a1, a2, a3, a4, a5, a6, a7)
    | _, _, _, _, _, _, _, _, _, _ => none
  exE := fun (a0, a1, a2, a3, a4, a5, a6, a7) => .normal
  slE := fun (a0, a1, a2, a3, a4, a5, a6, a7) => [(0, (.v (.s a0))), (3, (.ptr 0 0)), (4, (.v (.i .i64 a1))), (5, (.v (.i .i32 a2))), (8, (.v (.i .i64 a3))), (11, (.ptr 1 0)), (27, (.v (.b a4)))]
  obE := fun (a0, a1, a2, a3, a4, a5, a6, a7) => [(.cells 57 none [(.ptr 0 0), (.own 2)]), (.siter a5 a6), (.row 5 a7 true)]
  dsE := fun (a0, a1, a2, a3, a4, a5, a6, a7) => []
  goE := fun _ (a0, a1, a2, a3, a4, a5, a6, a7) k => k .normal [(0, (.v (.s a0))), (3, (.ptr 0 0)), (4, (.v (.i .i64 a1))), (5, (.v (.i .i32 a2))), (8, (.v (.i .i64 a3))), (11, (.ptr 1 0)), (27, (.v (.b a4)))] [(.cells 57 none [(.ptr 0 0), (.own 2)]), (.siter a5 a6), (.row 5 a7 true)] []
theorem p_lex_Quote_17_ok : PieceOk p_lex_Quote_17 := by
  refine ⟨fun env H ds s h => ?_, fun x env H ds e h => ?_, fun R e k => by kernel_rfl⟩
  · simp only [p_lex_Quote_17] at h ⊢; split at h <;> first | (cases h; simp only [List.forall_mem_cons]; simp_all; done) | (cases h; done)
  · simp only [p_lex_Quote_17] at h ⊢; split at h <;> first | (cases h; simp only [List.forall_mem_cons]; simp_all; done) | (cases h; done)
theorem p_lex_Quote_17_ct (κ : Nat) (m : Int) : CutOk Tryd.prog C (G m) Tryd.f13.ntmps 0 (pieceOf (.reg 10) (getBody Tryd.f13)) (p_lex_Quote_17.cut (gcN 0 [0, 3, 4, 5, 8, 11]) (fun (a0, a1, a2, a3, a4, a5, a6) => lex_Quote.v17 κ a0 a1 a2 a3 a4 a5 a6)) :=
  Piece.join p_lex_Quote_17_ok C_ok mixed (gam25_ok κ m) gcN_ok (xN_ok gcN_ok (ex_cons gcN_ok (ex_cons gcN_ok (ex_cons gcN_ok (ex_nil)))) gcN_ok gcN_ok) (cut := (ct_lex_Quote_15 κ)) (X := (xN (gcN 0 [0, 3, 4, 5, 8, 11, 27]) [(2, (gcN 0 [0, 3, 11])), (1, (gcN 0 [0, 3, 11])), (0, (gcN 0 [3]))] (gcN 0 [2]) (gcN 0 [1000000]))) (cuts_by (l := []) (by kernel_rfl) (all_nil)) (fun s => by kernel_rfl)
def cc_lex_Quote_18 (κ : Nat) : Cut T := p_lex_Quote_17.cut (gcN 0 [0, 3, 4, 5, 8, 11]) (fun (a0, a1, a2, a3, a4, a5, a6) => lex_Quote.v17 κ a0 a1 a2 a3 a4 a5 a6)
theorem cc_lex_Quote_18_ok (κ : Nat) (m : Int) : CutOk Tryd.prog C (G m) Tryd.f13.ntmps 0 (pieceOf (.reg 10) (getBody Tryd.f13)) (cc_lex_Quote_18 κ) := p_lex_Quote_17_ct κ m
def ct_lex_Quote_18 (κ : Nat) : Key → Option (Cut T) := addCut (ct_lex_Quote_15 κ) (.reg 10) (cc_lex_Quote_18 κ)
def p_lex_Quote_16 : Piece T (ByteArray × Int × Int × Int × Bool × ByteArray × Nat × (List Int)) (ByteArray × Int × Int × Int × Bool × ByteArray × Nat × (List Int)) where
  dcS env H ds := match env 0, env 3, env 4, env 5, env 8, env 11, env 27, H, ds with
    | (.v (.s a0)), (.ptr 0 0), (.v (.i .i64 a1)), (.v (.i .i32 a2)), (.v (.i .i64 a3)), (.ptr 1 0), (.v (.b a4)), [(.cells 57 none [(.ptr 0 0), (.own 2)]), (.siter a5 a6), (.row 5 a7 true)], [] => some (a0, a1, a2, a3, a4, a5, a6, a7)
    | _, _, _, _, _, _, _, _, _ => none
  slS := fun (a0, a1, a2, a3, a4, a5, a6, a7) => [(0, (.v (.s a0))), (3, (.ptr 0 0)), (4, (.v (.i .i64 a1))), (5, (.v (.i .i32 a2))), (8, (.v (.i .i64 a3))), (11, (.ptr 1 0)), (27, (.v (.b a4)))]
  obS := fun (a0, a1, a2, a3, a4, a5, a6, a7) => [(.cells 57 none [(.ptr 0 0), (.own 2)]), (.siter a5 a6), (.row 5 a7 true)]
  dsS := fun (a0, a1, a2, a3, a4, a5, a6, a7) => []
  dcE x env H ds := match x, env 0, env 3, env 4, env 5, env 8, env 11, env 27, H, ds with
    | .normal, (.v (.s a0)), (.ptr 0 0), (.v (.i .i64 a1)), (.v (.i .i32 a2)), (.v (.i .i64 a3)), (.ptr 1 0), (.v (.b a4)), [(.cells 57 none [(.ptr 0 0), (.own 2)]), (.siter a5 a6), (.row 5 a7 true)], [] => some (a0, a1, a2, a3, a4, a5, a6, a7)
    | _, _, _, _, _, _, _, _, _, _ => none
  exE := fun (a0, a1, a2, a3, a4, a5, a6, a7) => .normal
  slE := fun (a0, a1, a2, a3, a4, a5, a6, a7) => [(0, (.v (.s a0))), (3, (.ptr 0 0)), (4, (.v (.i .i64 a1))), (5, (.v (.i .i32 a2))), (8, (.v (.i .i64 a3))), (11, (.ptr 1 0)), (27, (.v (.b a4)))]
  obE := fun (a0, a1, a2, a3, a4, a5, a6, a7) => [(.cells 57 none [(.ptr 0 0), (.own 2)]), (.siter a5 a6), (.row 5 a7 true)]
  dsE := fun (a0, a1, a2, a3, a4, a5, a6, a7) => []
  goE := fun _ (a0, a1, a2, a3, a4, a5, a6, a7) k => k .normal [(0, (.v (.s a0))), (3, (.ptr 0 0)), (4, (.v (.i .i64 a1))), (5, (.v (.i .i32 a2))), (8, (.v (.i .i64 a3))), (11, (.ptr 1 0)), (27, (.v (.b a4)))] [(.cells 57 none [(.ptr 0 0), (.own 2)]), (.siter a5 a6), (.row 5 a7 true)] []
theorem p_lex_Quote_16_ok : PieceOk p_lex_Quote_16 := by
  refine ⟨fun env H ds s h => ?_, fun x env H ds e h => ?_, fun R e k => by kernel_rfl⟩
  · simp only [p_lex_Quote_16] at h ⊢; split at h <;> first | (cases h; simp only [List.forall_mem_cons]; simp_all; done) | (cases h; done)
  · simp only [p_lex_Quote_16] at h ⊢; split at h <;> first | (cases h; simp only [List.forall_mem_cons]; simp_all; done) | (cases h; done)
theorem p_lex_Quote_16_ct (κ : Nat) (m : Int) : CutOk Tryd.prog C (G m) Tryd.f13.ntmps 0 (pieceOf (.cnd 27 11) (getBody Tryd.f13)) (p_lex_Quote_16.cut (gcN 0 [0, 3, 4, 5, 8, 11, 27]) (fun (a0, a1, a2, a3, a4, a5, a6, a7) => lex_Quote.v16 κ a0 a1 a2 a3 a4 a5 a6 a7)) :=
  Piece.join p_lex_Quote_16_ok C_ok mixed (gam25_ok κ m) gcN_ok (xN_ok gcN_ok (ex_cons gcN_ok (ex_cons gcN_ok (ex_cons gcN_ok (ex_nil)))) gcN_ok gcN_ok) (cut := (ct_lex_Quote_18 κ)) (X := (xN (gcN 0 [0, 3, 4, 5, 8, 11, 27]) [(2, (gcN 0 [0, 3, 11])), (1, (gcN 0 [0, 3, 11])), (0, (gcN 0 [3]))] (gcN 0 [2]) (gcN 0 [1000000]))) (cuts_by (l := [(pieceOf (.reg 10) (getBody Tryd.f13), cc_lex_Quote_18 κ)]) (by kernel_rfl) (all_cons (cc_lex_Quote_18_ok κ m) (all_nil))) (fun s => by kernel_rfl)
def cc_lex_Quote_19 (κ : Nat) : Cut T := p_lex_Quote_16.cut (gcN 0 [0, 3, 4, 5, 8, 11, 27]) (fun (a0, a1, a2, a3, a4, a5, a6, a7) => lex_Quote.v16 κ a0 a1 a2 a3 a4 a5 a6 a7)
theorem cc_lex_Quote_19_ok (κ : Nat) (m : Int) : CutOk Tryd.prog C (G m) Tryd.f13.ntmps 0 (pieceOf (.cnd 27 11) (getBody Tryd.f13)) (cc_lex_Quote_19 κ) := p_lex_Quote_16_ct κ m
def ct_lex_Quote_19 (κ : Nat) : Key → Option (Cut T) := addCut (ct_lex_Quote_15 κ) (.cnd 27 11) (cc_lex_Quote_19 κ)
def p_lex_Quote_21 : Piece T (ByteArray × Int × Int × Bool × ByteArray × Nat × (List Int)) (ByteArray × ByteArray × Nat × (List Int)) where
  dcS env H ds := match env 0, env 3, env 5, env 8, env 11, env 67, H, ds with
    | (.v (.s a0)), (.ptr 0 0), (.v (.i .i32 a1)), (.v (.i .i64 a2)), (.ptr 1 0), (.v (.b a3)), [(.cells 57 none [(.ptr 0 0), (.own 2)]), (.siter a4 a5), (.row 5 a6 true)], [] => some (a0, a1, a2, a3, a4, a5, a6)
    | _, _, _, _, _, _, _, _ => none
  slS := fun (a0, a1, a2, a3, a4, a5, a6) => [(0, (.v (.s a0))), (3, (.ptr 0 0)), (5, (.v (.i .i32 a1))), (8, (.v (.i .i64 a2))), (11, (.ptr 1 0)), (67, (.v (.b a3)))]
  obS := fun (a0, a1, a2, a3, a4, a5, a6) => [(.cells 57 none [(.ptr 0 0), (.own 2)]), (.siter a4 a5), (.row 5 a6 true)]
  dsS := fun (a0, a1, a2, a3, a4, a5, a6) => []
  dcE x env H ds := match x, env 0, env 3, env 11, H, ds with
    | .normal, (.v (.s a0)), (.ptr 0 0), (.ptr 1 0), [(.cells 57 none [(.ptr 0 0), (.own 2)]), (.siter a1 a2), (.row 5 a3 true)], [] => some (a0, a1, a2, a3)
    | _, _, _, _, _, _ => none
  exE := fun (a0, a1, a2, a3) => .normal
  slE := fun (a0, a1, a2, a3) => [(0, (.v (.s a0))), (3, (.ptr 0 0)), (11, (.ptr 1 0))]
  obE := fun (a0, a1, a2, a3) => [(.cells 57 none [(.ptr 0 0), (.own 2)]), (.siter a1 a2), (.row 5 a3 true)]
  dsE := fun (a0, a1, a2, a3) => []
  goE := fun _ (a0, a1, a2, a3) k => k .normal [(0, (.v (.s a0))), (3, (.ptr 0 0)), (11, (.ptr 1 0))] [(.cells 57 none [(.ptr 0 0), (.own 2)]), (.siter a1 a2), (.row 5 a3 true)] []
theorem p_lex_Quote_21_ok : PieceOk p_lex_Quote_21 := by
  refine ⟨fun env H ds s h => ?_, fun x env H ds e h => ?_, fun R e k => by kernel_rfl⟩
  · simp only [p_lex_Quote_21] at h ⊢; split at h <;> first | (cases h; simp only [List.forall_mem_cons]; simp_all; done) | (cases h; done)
  · simp only [p_lex_Quote_21] at h ⊢; split at h <;> first | (cases h; simp only [List.forall_mem_cons]; simp_all; done) | (cases h; done)
theorem p_lex_Quote_21_ct (κ : Nat) (m : Int) : CutOk Tryd.prog C (G m) Tryd.f13.ntmps 0 (pieceOf (.cnd 67 14) (getBody Tryd.f13)) (p_lex_Quote_21.cut (gcN 0 [0, 3, 5, 8, 11, 67]) (fun (a0, a1, a2, a3, a4, a5, a6) => lex_Quote.v21 κ a0 a1 a2 a3 a4 a5 a6)) :=
  Piece.join p_lex_Quote_21_ok C_ok mixed (gam25_ok κ m) gcN_ok (xN_ok gcN_ok (ex_cons gcN_ok (ex_cons gcN_ok (ex_cons gcN_ok (ex_nil)))) gcN_ok gcN_ok) (cut := (ct_lex_Quote_19 κ)) (X := (xN (gcN 0 [0, 3, 11]) [(2, (gcN 0 [0, 3, 11])), (1, (gcN 0 [0, 3, 11])), (0, (gcN 0 [3]))] (gcN 0 [2]) (gcN 0 [1000000]))) (cuts_by (l := []) (by kernel_rfl) (all_nil)) (fun s => by kernel_rfl)
def cc_lex_Quote_22 (κ : Nat) : Cut T := p_lex_Quote_21.cut (gcN 0 [0, 3, 5, 8, 11, 67]) (fun (a0, a1, a2, a3, a4, a5, a6) => lex_Quote.v21 κ a0 a1 a2 a3 a4 a5 a6)
theorem cc_lex_Quote_22_ok (κ : Nat) (m : Int) : CutOk Tryd.prog C (G m) Tryd.f13.ntmps 0 (pieceOf (.cnd 67 14) (getBody Tryd.f13)) (cc_lex_Quote_22 κ) := p_lex_Quote_21_ct κ m
def ct_lex_Quote_22 (κ : Nat) : Key → Option (Cut T) := addCut (ct_lex_Quote_19 κ) (.cnd 67 14) (cc_lex_Quote_22 κ)
def p_lex_Quote_20 : Piece T (ByteArray × Int × Int × Int × Bool × ByteArray × Nat × (List Int)) (ByteArray × ByteArray × Nat × (List Int)) where
  dcS env H ds := match env 0, env 3, env 4, env 5, env 8, env 11, env 27, H, ds with
    | (.v (.s a0)), (.ptr 0 0), (.v (.i .i64 a1)), (.v (.i .i32 a2)), (.v (.i .i64 a3)), (.ptr 1 0), (.v (.b a4)), [(.cells 57 none [(.ptr 0 0), (.own 2)]), (.siter a5 a6), (.row 5 a7 true)], [] => some (a0, a1, a2, a3, a4, a5, a6, a7)
    | _, _, _, _, _, _, _, _, _ => none
  slS := fun (a0, a1, a2, a3, a4, a5, a6, a7) => [(0, (.v (.s a0))), (3, (.ptr 0 0)), (4, (.v (.i .i64 a1))), (5, (.v (.i .i32 a2))), (8, (.v (.i .i64 a3))), (11, (.ptr 1 0)), (27, (.v (.b a4)))]
  obS := fun (a0, a1, a2, a3, a4, a5, a6, a7) => [(.cells 57 none [(.ptr 0 0), (.own 2)]), (.siter a5 a6), (.row 5 a7 true)]
  dsS := fun (a0, a1, a2, a3, a4, a5, a6, a7) => []
  dcE x env H ds := match x, env 0, env 3, env 11, H, ds with
    | .normal, (.v (.s a0)), (.ptr 0 0), (.ptr 1 0), [(.cells 57 none [(.ptr 0 0), (.own 2)]), (.siter a1 a2), (.row 5 a3 true)], [] => some (a0, a1, a2, a3)
    | _, _, _, _, _, _ => none
  exE := fun (a0, a1, a2, a3) => .normal
  slE := fun (a0, a1, a2, a3) => [(0, (.v (.s a0))), (3, (.ptr 0 0)), (11, (.ptr 1 0))]
  obE := fun (a0, a1, a2, a3) => [(.cells 57 none [(.ptr 0 0), (.own 2)]), (.siter a1 a2), (.row 5 a3 true)]
  dsE := fun (a0, a1, a2, a3) => []
  goE := fun _ (a0, a1, a2, a3) k => k .normal [(0, (.v (.s a0))), (3, (.ptr 0 0)), (11, (.ptr 1 0))] [(.cells 57 none [(.ptr 0 0), (.own 2)]), (.siter a1 a2), (.row 5 a3 true)] []
theorem p_lex_Quote_20_ok : PieceOk p_lex_Quote_20 := by
  refine ⟨fun env H ds s h => ?_, fun x env H ds e h => ?_, fun R e k => by kernel_rfl⟩
  · simp only [p_lex_Quote_20] at h ⊢; split at h <;> first | (cases h; simp only [List.forall_mem_cons]; simp_all; done) | (cases h; done)
  · simp only [p_lex_Quote_20] at h ⊢; split at h <;> first | (cases h; simp only [List.forall_mem_cons]; simp_all; done) | (cases h; done)
theorem p_lex_Quote_20_ct (κ : Nat) (m : Int) : CutOk Tryd.prog C (G m) Tryd.f13.ntmps 0 (pieceOf (.cnd 27 12) (getBody Tryd.f13)) (p_lex_Quote_20.cut (gcN 0 [0, 3, 4, 5, 8, 11, 27]) (fun (a0, a1, a2, a3, a4, a5, a6, a7) => lex_Quote.v20 κ a0 a1 a2 a3 a4 a5 a6 a7)) :=
  Piece.join p_lex_Quote_20_ok C_ok mixed (gam25_ok κ m) gcN_ok (xN_ok gcN_ok (ex_cons gcN_ok (ex_cons gcN_ok (ex_cons gcN_ok (ex_nil)))) gcN_ok gcN_ok) (cut := (ct_lex_Quote_22 κ)) (X := (xN (gcN 0 [0, 3, 11]) [(2, (gcN 0 [0, 3, 11])), (1, (gcN 0 [0, 3, 11])), (0, (gcN 0 [3]))] (gcN 0 [2]) (gcN 0 [1000000]))) (cuts_by (l := [(pieceOf (.cnd 67 14) (getBody Tryd.f13), cc_lex_Quote_22 κ)]) (by kernel_rfl) (all_cons (cc_lex_Quote_22_ok κ m) (all_nil))) (fun s => by kernel_rfl)
def cc_lex_Quote_23 (κ : Nat) : Cut T := p_lex_Quote_20.cut (gcN 0 [0, 3, 4, 5, 8, 11, 27]) (fun (a0, a1, a2, a3, a4, a5, a6, a7) => lex_Quote.v20 κ a0 a1 a2 a3 a4 a5 a6 a7)
theorem cc_lex_Quote_23_ok (κ : Nat) (m : Int) : CutOk Tryd.prog C (G m) Tryd.f13.ntmps 0 (pieceOf (.cnd 27 12) (getBody Tryd.f13)) (cc_lex_Quote_23 κ) := p_lex_Quote_20_ct κ m
def ct_lex_Quote_23 (κ : Nat) : Key → Option (Cut T) := addCut (ct_lex_Quote_19 κ) (.cnd 27 12) (cc_lex_Quote_23 κ)
def p_lex_Quote_13 : Piece T (ByteArray × Int × Int × Int × Int × ByteArray × Nat × (List Int)) (ByteArray × ByteArray × Nat × (List Int)) where
  dcS env H ds := match env 0, env 3, env 4, env 5, env 7, env 8, env 11, H, ds with
    | (.v (.s a0)), (.ptr 0 0), (.v (.i .i64 a1)), (.v (.i .i32 a2)), (.v (.i .i64 a3)), (.v (.i .i64 a4)), (.ptr 1 0), [(.cells 57 none [(.ptr 0 0), (.own 2)]), (.siter a5 a6), (.row 5 a7 true)], [] => some (a0, a1, a2, a3, a4, a5, a6, a7)
    | _, _, _, _, _, _, _, _, _ => none
  slS := fun (a0, a1, a2, a3, a4, a5, a6, a7) => [(0, (.v (.s a0))), (3, (.ptr 0 0)), (4, (.v (.i .i64 a1))), (5, (.v (.i .i32 a2))), (7, (.v (.i .i64 a3))), (8, (.v (.i .i64 a4))), (11, (.ptr 1 0))]
  obS := fun (a0, a1, a2, a3, a4, a5, a6, a7) => [(.cells 57 none [(.ptr 0 0), (.own 2)]), (.siter a5 a6), (.row 5 a7 true)]
  dsS := fun (a0, a1, a2, a3, a4, a5, a6, a7) => []
  dcE x env H ds := match x, env 0, env 3, env 11, H, ds with
    | .normal, (.v (.s a0)), (.ptr 0 0), (.ptr 1 0), [(.cells 57 none [(.ptr 0 0), (.own 2)]), (.siter a1 a2), (.row 5 a3 true)], [] => some (a0, a1, a2, a3)
    | _, _, _, _, _, _ => none
  exE := fun (a0, a1, a2, a3) => .normal
  slE := fun (a0, a1, a2, a3) => [(0, (.v (.s a0))), (3, (.ptr 0 0)), (11, (.ptr 1 0))]
  obE := fun (a0, a1, a2, a3) => [(.cells 57 none [(.ptr 0 0), (.own 2)]), (.siter a1 a2), (.row 5 a3 true)]
  dsE := fun (a0, a1, a2, a3) => []
  goE := fun _ (a0, a1, a2, a3) k => k .normal [(0, (.v (.s a0))), (3, (.ptr 0 0)), (11, (.ptr 1 0))] [(.cells 57 none [(.ptr 0 0), (.own 2)]), (.siter a1 a2), (.row 5 a3 true)] []
theorem p_lex_Quote_13_ok : PieceOk p_lex_Quote_13 := by
  refine ⟨fun env H ds s h => ?_, fun x env H ds e h => ?_, fun R e k => by kernel_rfl⟩
  · simp only [p_lex_Quote_13] at h ⊢; split at h <;> first | (cases h; simp only [List.forall_mem_cons]; simp_all; done) | (cases h; done)
  · simp only [p_lex_Quote_13] at h ⊢; split at h <;> first | (cases h; simp only [List.forall_mem_cons]; simp_all; done) | (cases h; done)
theorem p_lex_Quote_13_ct (κ : Nat) (m : Int) : CutOk Tryd.prog C (G m) Tryd.f13.ntmps 0 (pieceOf (.blk 2) (getBody Tryd.f13)) (p_lex_Quote_13.cut (gcN 0 [0, 3, 4, 5, 7, 8, 11]) (fun (a0, a1, a2, a3, a4, a5, a6, a7) => lex_Quote.v13 κ a0 a1 a2 a3 a4 a5 a6 a7)) :=
  Piece.join p_lex_Quote_13_ok C_ok mixed (gam25_ok κ m) gcN_ok (xN_ok gcN_ok (ex_cons gcN_ok (ex_cons gcN_ok (ex_nil))) gcN_ok gcN_ok) (cut := (ct_lex_Quote_23 κ)) (X := (xN (gcN 0 [0, 3, 11]) [(1, (gcN 0 [0, 3, 11])), (0, (gcN 0 [3]))] (gcN 0 [2]) (gcN 0 [1000000]))) (cuts_by (l := [(pieceOf (.reg 9) (getBody Tryd.f13), cc_lex_Quote_15 κ), (pieceOf (.cnd 27 11) (getBody Tryd.f13), cc_lex_Quote_19 κ), (pieceOf (.cnd 27 12) (getBody Tryd.f13), cc_lex_Quote_23 κ)]) (by kernel_rfl) (all_cons (cc_lex_Quote_15_ok κ m) (all_cons (cc_lex_Quote_19_ok κ m) (all_cons (cc_lex_Quote_23_ok κ m) (all_nil))))) (fun s => by kernel_rfl)
def cc_lex_Quote_24 (κ : Nat) : Cut T := p_lex_Quote_13.cut (gcN 0 [0, 3, 4, 5, 7, 8, 11]) (fun (a0, a1, a2, a3, a4, a5, a6, a7) => lex_Quote.v13 κ a0 a1 a2 a3 a4 a5 a6 a7)
theorem cc_lex_Quote_24_ok (κ : Nat) (m : Int) : CutOk Tryd.prog C (G m) Tryd.f13.ntmps 0 (pieceOf (.blk 2) (getBody Tryd.f13)) (cc_lex_Quote_24 κ) := p_lex_Quote_13_ct κ m
def ct_lex_Quote_24 (κ : Nat) : Key → Option (Cut T) := addCut noCut (.blk 2) (cc_lex_Quote_24 κ)
def p_lex_Quote_12 : Piece T (ByteArray × ByteArray × Nat × (List Int)) ((List Int)) where
  dcS env H ds := match env 0, env 3, env 11, H, ds with
    | (.v (.s a0)), (.ptr 0 0), (.ptr 1 0), [(.cells 57 none [(.ptr 0 0), (.own 2)]), (.siter a1 a2), (.row 5 a3 true)], [] => some (a0, a1, a2, a3)
    | _, _, _, _, _ => none
  slS := fun (a0, a1, a2, a3) => [(0, (.v (.s a0))), (3, (.ptr 0 0)), (11, (.ptr 1 0))]
  obS := fun (a0, a1, a2, a3) => [(.cells 57 none [(.ptr 0 0), (.own 2)]), (.siter a1 a2), (.row 5 a3 true)]
  dsS := fun (a0, a1, a2, a3) => []
  dcE x env H ds := match x, env 3, H, ds with
    | .normal, (.ptr 0 0), [(.cells 57 none [(.ptr 0 0), (.own 1)]), (.row 5 a0 true)], [] => some a0
    | _, _, _, _ => none
  exE := fun a0 => .normal
  slE := fun a0 => [(3, (.ptr 0 0))]
  obE := fun a0 => [(.cells 57 none [(.ptr 0 0), (.own 1)]), (.row 5 a0 true)]
  dsE := fun a0 => []
  goE := fun _ a0 k => k .normal [(3, (.ptr 0 0))] [(.cells 57 none [(.ptr 0 0), (.own 1)]), (.row 5 a0 true)] []
theorem p_lex_Quote_12_ok : PieceOk p_lex_Quote_12 := by
  refine ⟨fun env H ds s h => ?_, fun x env H ds e h => ?_, fun R e k => by kernel_rfl⟩
  · simp only [p_lex_Quote_12] at h ⊢; split at h <;> first | (cases h; simp only [List.forall_mem_cons]; simp_all; done) | (cases h; done)
  · simp only [p_lex_Quote_12] at h ⊢; split at h <;> first | (cases h; simp only [List.forall_mem_cons]; simp_all; done) | (cases h; done)
theorem p_lex_Quote_12_ct (κ : Nat) (m : Int) : CutOk Tryd.prog C (G m) Tryd.f13.ntmps 0 (pieceOf (.blk 0) (getBody Tryd.f13)) (p_lex_Quote_12.cut (gcN 0 [0, 3, 11]) (lex_Quote.l12 κ κ)) :=
  Piece.loop p_lex_Quote_12_ok C_ok mixed (gam25_ok κ m) gcN_ok (xN_ok gcN_ok (ex_nil) gcN_ok gcN_ok) (cut := (ct_lex_Quote_24 κ)) (X := (xN (gcN 0 [3]) [] (gcN 0 [2]) (gcN 0 [1000000]))) (id := 0) (body := bodyOf (pieceOf (.blk 0) (getBody Tryd.f13))) (cuts_by (l := [(pieceOf (.blk 2) (getBody Tryd.f13), cc_lex_Quote_24 κ)]) (by kernel_rfl) (all_cons (cc_lex_Quote_24_ok κ m) (all_nil))) (f := lex_Quote.l12 κ) (fun s => by kernel_rfl) (fun k s => by kernel_rfl) κ
def cc_lex_Quote_25 (κ : Nat) : Cut T := p_lex_Quote_12.cut (gcN 0 [0, 3, 11]) (lex_Quote.l12 κ κ)
theorem cc_lex_Quote_25_ok (κ : Nat) (m : Int) : CutOk Tryd.prog C (G m) Tryd.f13.ntmps 0 (pieceOf (.blk 0) (getBody Tryd.f13)) (cc_lex_Quote_25 κ) := p_lex_Quote_12_ct κ m
def ct_lex_Quote_25 (κ : Nat) : Key → Option (Cut T) := addCut noCut (.blk 0) (cc_lex_Quote_25 κ)
def sp_lex_Quote : Spec T (ByteArray) (ByteArray) where
  dcI a H := match a, H with
    | [(.v (.s a0))], [] => some a0
    | _, _ => none
  ecA := fun a0 => [(.v (.s a0))]
  ecH := fun a0 => []
  dcO o := match o with
    | .ret (.v (.s a0)) [] => some a0
    | _ => none
  goO := fun _ a0 k => k (.ret (.v (.s a0)) [])
  ecO := fun a0 => .ret (.v (.s a0)) []
theorem sp_lex_Quote_ok : SpecOk sp_lex_Quote := by
  refine ⟨fun a H i h => ?_, fun o x h => ?_, fun R e k => by kernel_rfl⟩
  · simp only [sp_lex_Quote] at h ⊢; split at h <;> first | (cases h; exact ⟨rfl, rfl⟩) | (cases h; done)
  · simp only [sp_lex_Quote] at h ⊢; split at h <;> first | (cases h; rfl) | (cases h; done)
theorem ok_lex_Quote (κ : Nat) (m : Int) : EOk Tryd.prog C (G m) 13 (sp_lex_Quote.entry (fun a0 => lex_Quote κ a0)) :=
  Spec.ok sp_lex_Quote_ok C_ok mixed (gam26_ok κ m) (cut := (ct_lex_Quote_25 κ)) (NR := (gcN 0 [0])) (NP := (gcN 0 [0])) (nB := 0) Tryd.func13 (c := (getBody Tryd.f13)) (by kernel_rfl) (by kernel_rfl) (fun i => by kernel_rfl) gcN_ok gcN_ok (cuts_by (l := [(pieceOf (.blk 0) (getBody Tryd.f13), cc_lex_Quote_25 κ)]) (by kernel_rfl) (all_cons (cc_lex_Quote_25_ok κ m) (all_nil))) (fun i => by kernel_rfl)
noncomputable def gam27 (κ : Nat) : Gam T := (gam26 κ).addS 13 sp_lex_Quote (fun a0 => lex_Quote κ a0)
theorem gam27_ok (κ : Nat) (m : Int) : GOk Tryd.prog C (G m) (gam27 κ) := (gam26_ok κ m).addS (ok_lex_Quote κ m)
def p_tollbarlaw05_awake_0 : Piece T (Int × Int × (List LexToken) × Int × Int) (Bool × (List LexToken)) where
  dcS env H ds := match env 1, env 2, env 5, env 6, H, ds with
    | (.own 0), (.v (.i .i64 a0)), (.v (.i .i64 a1)), (.ptr 1 0), [(.row 37 a2 true), (.cells 26 none [(.v (.i .i64 a3)), (.v (.i .i64 a4))])], [] => some (a0, a1, a2, a3, a4)
    | _, _, _, _, _, _ => none
  slS := fun (a0, a1, a2, a3, a4) => [(1, (.own 0)), (2, (.v (.i .i64 a0))), (5, (.v (.i .i64 a1))), (6, (.ptr 1 0))]
  obS := fun (a0, a1, a2, a3, a4) => [(.row 37 a2 true), (.cells 26 none [(.v (.i .i64 a3)), (.v (.i .i64 a4))])]
  dsS := fun (a0, a1, a2, a3, a4) => []
  dcE x env H ds := match x, env 1, env 32, H, ds with
    | .normal, (.own 0), (.v (.b a0)), [(.row 37 a1 true)], [] => some (a0, a1)
    | _, _, _, _, _ => none
  exE := fun (a0, a1) => .normal
  slE := fun (a0, a1) => [(1, (.own 0)), (32, (.v (.b a0)))]
  obE := fun (a0, a1) => [(.row 37 a1 true)]
  dsE := fun (a0, a1) => []
  goE := fun _ (a0, a1) k => k .normal [(1, (.own 0)), (32, (.v (.b a0)))] [(.row 37 a1 true)] []
theorem p_tollbarlaw05_awake_0_ok : PieceOk p_tollbarlaw05_awake_0 := by
  refine ⟨fun env H ds s h => ?_, fun x env H ds e h => ?_, fun R e k => by kernel_rfl⟩
  · simp only [p_tollbarlaw05_awake_0] at h ⊢; split at h <;> first | (cases h; simp only [List.forall_mem_cons]; simp_all; done) | (cases h; done)
  · simp only [p_tollbarlaw05_awake_0] at h ⊢; split at h <;> first | (cases h; simp only [List.forall_mem_cons]; simp_all; done) | (cases h; done)
theorem p_tollbarlaw05_awake_0_ct (κ : Nat) (m : Int) : CutOk Tryd.prog C (G m) Tryd.f8.ntmps 0 (pieceOf (.reg 3) (getBody Tryd.f8)) (p_tollbarlaw05_awake_0.cut (gcN 0 [1, 2, 5, 6]) (fun (a0, a1, a2, a3, a4) => tollbarlaw05_awake.v0 κ a0 a1 a2 a3 a4)) :=
  Piece.join p_tollbarlaw05_awake_0_ok C_ok mixed (gam18_ok κ m) gcN_ok (xN_ok gcN_ok (ex_nil) gcN_ok gcN_ok) (cut := noCut) (X := (xN (gcN 0 [1, 32]) [] (gcN 0 [0]) (gcN 0 [1000000]))) (cuts_by (l := []) (by kernel_rfl) (all_nil)) (fun s => by kernel_rfl)
def cc_tollbarlaw05_awake_1 (κ : Nat) : Cut T := p_tollbarlaw05_awake_0.cut (gcN 0 [1, 2, 5, 6]) (fun (a0, a1, a2, a3, a4) => tollbarlaw05_awake.v0 κ a0 a1 a2 a3 a4)
theorem cc_tollbarlaw05_awake_1_ok (κ : Nat) (m : Int) : CutOk Tryd.prog C (G m) Tryd.f8.ntmps 0 (pieceOf (.reg 3) (getBody Tryd.f8)) (cc_tollbarlaw05_awake_1 κ) := p_tollbarlaw05_awake_0_ct κ m
def ct_tollbarlaw05_awake_1 (κ : Nat) : Key → Option (Cut T) := addCut noCut (.reg 3) (cc_tollbarlaw05_awake_1 κ)
def p_tollbarlaw05_awake_2 : Piece T ((List LexToken)) (Bool) where
  dcS env H ds := match env 1, H, ds with
    | (.own 0), [(.row 37 a0 true)], [] => some a0
    | _, _, _ => none
  slS := fun a0 => [(1, (.own 0))]
  obS := fun a0 => [(.row 37 a0 true)]
  dsS := fun a0 => []
  dcE x env H ds := match x, env 0, H, ds with
    | .normal, (.v (.b a0)), [], [] => some a0
    | _, _, _, _ => none
  exE := fun a0 => .normal
  slE := fun a0 => [(0, (.v (.b a0)))]
  obE := fun a0 => []
  dsE := fun a0 => []
  goE := fun _ a0 k => k .normal [(0, (.v (.b a0)))] [] []
theorem p_tollbarlaw05_awake_2_ok : PieceOk p_tollbarlaw05_awake_2 := by
  refine ⟨fun env H ds s h => ?_, fun x env H ds e h => ?_, fun R e k => by kernel_rfl⟩
  · simp only [p_tollbarlaw05_awake_2] at h ⊢; split at h <;> first | (cases h; simp only [List.forall_mem_cons]; simp_all; done) | (cases h; done)
  · simp only [p_tollbarlaw05_awake_2] at h ⊢; split at h <;> first | (cases h; simp only [List.forall_mem_cons]; simp_all; done) | (cases h; done)
end Go.Proofs.YtfoeekaanngoiaaDoor.Ev.Seat
