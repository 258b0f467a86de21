import Derived.Test.YtfoeekaanngoiaaDoorEvKnownTwo
set_option linter.unusedVariables false
set_option linter.unusedSimpArgs false
namespace Go.Proofs.YtfoeekaanngoiaaDoor.Ev.Seat
open Go Ev Go.Proofs
theorem cc_tollbarlaw05_LexBetween_29_ok (κ : Nat) (m : Int) : CutOk Tryd.prog C (G m) Tryd.f5.ntmps 0 (pieceOf (.cnd 77 22) (getBody Tryd.f5)) (cc_tollbarlaw05_LexBetween_29 κ) := p_tollbarlaw05_LexBetween_22_ct κ m
def ct_tollbarlaw05_LexBetween_29 (κ : Nat) : Key → Option (Cut T) := addCut (ct_tollbarlaw05_LexBetween_20 κ) (.cnd 77 22) (cc_tollbarlaw05_LexBetween_29 κ)
def p_tollbarlaw05_LexBetween_21 : Piece T ((List LexToken) × (List ByteArray) × ByteArray × Int × Int) ((Bool) ⊕ ((List LexToken) × (List ByteArray) × ByteArray × Int)) where
  dcS env H ds := match env 0, env 1, env 6, env 7, env 76, H, ds with
    | (.v (.sl 37 a0)), (.v (.sl 9 a1)), (.v (.s a2)), (.v (.i .i64 a3)), (.v (.i .i64 a4)), [], [] => some (a0, a1, a2, a3, a4)
    | _, _, _, _, _, _, _ => none
  slS := fun (a0, a1, a2, a3, a4) => [(0, (.v (.sl 37 a0))), (1, (.v (.sl 9 a1))), (6, (.v (.s a2))), (7, (.v (.i .i64 a3))), (76, (.v (.i .i64 a4)))]
  obS := fun (a0, a1, a2, a3, a4) => []
  dsS := fun (a0, a1, a2, a3, a4) => []
  dcE x env H ds := match x, env 0, env 1, env 4, env 6, env 7, H, ds with
    | .ret, _, _, (.v (.b a0)), _, _, [], [] => some (.inl a0)
    | .normal, (.v (.sl 37 a0)), (.v (.sl 9 a1)), _, (.v (.s a2)), (.v (.i .i64 a3)), [], [] => some (.inr (a0, a1, a2, a3))
    | _, _, _, _, _, _, _, _ => none
  exE := fun x => match x with
    | (.inl a0) => .ret
    | (.inr (a0, a1, a2, a3)) => .normal
  slE := fun x => match x with
    | (.inl a0) => [(4, (.v (.b a0)))]
    | (.inr (a0, a1, a2, a3)) => [(0, (.v (.sl 37 a0))), (1, (.v (.sl 9 a1))), (6, (.v (.s a2))), (7, (.v (.i .i64 a3)))]
  obE := fun x => match x with
    | (.inl a0) => []
    | (.inr (a0, a1, a2, a3)) => []
  dsE := fun x => match x with
    | (.inl a0) => []
    | (.inr (a0, a1, a2, a3)) => []
  goE := fun _ x k => match x with
    | (.inl a0) => k .ret [(4, (.v (.b a0)))] [] []
    | (.inr (a0, a1, a2, a3)) => k .normal [(0, (.v (.sl 37 a0))), (1, (.v (.sl 9 a1))), (6, (.v (.s a2))), (7, (.v (.i .i64 a3)))] [] []
theorem p_tollbarlaw05_LexBetween_21_ok : PieceOk p_tollbarlaw05_LexBetween_21 := by
  refine ⟨fun env H ds s h => ?_, fun x env H ds e h => ?_, fun R e k => by rcases e with e | e <;> kernel_rfl⟩
  · simp only [p_tollbarlaw05_LexBetween_21] at h ⊢; split at h <;> first | (cases h; simp only [List.forall_mem_cons]; simp_all; done) | (cases h; done)
  · simp only [p_tollbarlaw05_LexBetween_21] at h ⊢; split at h <;> first | (cases h; simp only [List.forall_mem_cons]; simp_all; done) | (cases h; done)
theorem p_tollbarlaw05_LexBetween_21_ct (κ : Nat) (m : Int) : CutOk Tryd.prog C (G m) Tryd.f5.ntmps 0 (pieceOf (.blk 4) (getBody Tryd.f5)) (p_tollbarlaw05_LexBetween_21.cut (gcN 0 [0, 1, 6, 7, 76]) (fun (a0, a1, a2, a3, a4) => tollbarlaw05_LexBetween.v21 κ a0 a1 a2 a3 a4)) :=
  Piece.join p_tollbarlaw05_LexBetween_21_ok C_ok mixed (gam42_ok κ m) gcN_ok (xN_ok gcN_ok (ex_cons gcN_ok (ex_cons gcN_ok (ex_nil))) gcN_ok gcN_ok) (cut := (ct_tollbarlaw05_LexBetween_29 κ)) (X := (xN (gcN 0 [0, 1, 6, 7]) [(1, (gcN 0 [0, 1, 6, 7])), (0, (gcN 0 [0, 6]))] (gcN 0 [4]) (gcN 0 [1000000]))) (cuts_by (l := [(pieceOf (.cnd 77 22) (getBody Tryd.f5), cc_tollbarlaw05_LexBetween_29 κ)]) (by kernel_rfl) (all_cons (cc_tollbarlaw05_LexBetween_29_ok κ m) (all_nil))) (fun s => by kernel_rfl)
def cc_tollbarlaw05_LexBetween_30 (κ : Nat) : Cut T := p_tollbarlaw05_LexBetween_21.cut (gcN 0 [0, 1, 6, 7, 76]) (fun (a0, a1, a2, a3, a4) => tollbarlaw05_LexBetween.v21 κ a0 a1 a2 a3 a4)
theorem cc_tollbarlaw05_LexBetween_30_ok (κ : Nat) (m : Int) : CutOk Tryd.prog C (G m) Tryd.f5.ntmps 0 (pieceOf (.blk 4) (getBody Tryd.f5)) (cc_tollbarlaw05_LexBetween_30 κ) := p_tollbarlaw05_LexBetween_21_ct κ m
def ct_tollbarlaw05_LexBetween_30 (κ : Nat) : Key → Option (Cut T) := addCut (ct_tollbarlaw05_LexBetween_20 κ) (.blk 4) (cc_tollbarlaw05_LexBetween_30 κ)
def p_tollbarlaw05_LexBetween_16 : Piece T ((List LexToken) × (List ByteArray) × ByteArray × Int) (((List LexToken) × ByteArray) ⊕ (Bool)) where
  dcS env H ds := match env 0, env 1, env 6, env 7, H, ds with
    | (.v (.sl 37 a0)), (.v (.sl 9 a1)), (.v (.s a2)), (.v (.i .i64 a3)), [], [] => some (a0, a1, a2, a3)
    | _, _, _, _, _, _ => none
  slS := fun (a0, a1, a2, a3) => [(0, (.v (.sl 37 a0))), (1, (.v (.sl 9 a1))), (6, (.v (.s a2))), (7, (.v (.i .i64 a3)))]
  obS := fun (a0, a1, a2, a3) => []
  dsS := fun (a0, a1, a2, a3) => []
  dcE x env H ds := match x, env 0, env 4, env 6, H, ds with
    | .normal, (.v (.sl 37 a0)), _, (.v (.s a1)), [], [] => some (.inl (a0, a1))
    | .ret, _, (.v (.b a0)), _, [], [] => some (.inr a0)
    | _, _, _, _, _, _ => none
  exE := fun x => match x with
    | (.inl (a0, a1)) => .normal
    | (.inr a0) => .ret
  slE := fun x => match x with
    | (.inl (a0, a1)) => [(0, (.v (.sl 37 a0))), (6, (.v (.s a1)))]
    | (.inr a0) => [(4, (.v (.b a0)))]
  obE := fun x => match x with
    | (.inl (a0, a1)) => []
    | (.inr a0) => []
  dsE := fun x => match x with
    | (.inl (a0, a1)) => []
    | (.inr a0) => []
  goE := fun _ x k => match x with
    | (.inl (a0, a1)) => k .normal [(0, (.v (.sl 37 a0))), (6, (.v (.s a1)))] [] []
    | (.inr a0) => k .ret [(4, (.v (.b a0)))] [] []
theorem p_tollbarlaw05_LexBetween_16_ok : PieceOk p_tollbarlaw05_LexBetween_16 := by
  refine ⟨fun env H ds s h => ?_, fun x env H ds e h => ?_, fun R e k => by rcases e with e | e <;> kernel_rfl⟩
  · simp only [p_tollbarlaw05_LexBetween_16] at h ⊢; split at h <;> first | (cases h; simp only [List.forall_mem_cons]; simp_all; done) | (cases h; done)
  · simp only [p_tollbarlaw05_LexBetween_16] at h ⊢; split at h <;> first | (cases h; simp only [List.forall_mem_cons]; simp_all; done) | (cases h; done)
theorem p_tollbarlaw05_LexBetween_16_ct (κ : Nat) (m : Int) : CutOk Tryd.prog C (G m) Tryd.f5.ntmps 0 (pieceOf (.blk 0) (getBody Tryd.f5)) (p_tollbarlaw05_LexBetween_16.cut (gcN 0 [0, 1, 6, 7]) (tollbarlaw05_LexBetween.l16 κ κ)) :=
  Piece.loop p_tollbarlaw05_LexBetween_16_ok C_ok mixed (gam42_ok κ m) gcN_ok (xN_ok gcN_ok (ex_nil) gcN_ok gcN_ok) (cut := (ct_tollbarlaw05_LexBetween_30 κ)) (X := (xN (gcN 0 [0, 6]) [] (gcN 0 [4]) (gcN 0 [1000000]))) (id := 0) (body := bodyOf (pieceOf (.blk 0) (getBody Tryd.f5))) (cuts_by (l := [(pieceOf (.blk 2) (getBody Tryd.f5), cc_tollbarlaw05_LexBetween_18 κ), (pieceOf (.reg 15) (getBody Tryd.f5), cc_tollbarlaw05_LexBetween_20 κ), (pieceOf (.blk 4) (getBody Tryd.f5), cc_tollbarlaw05_LexBetween_30 κ)]) (by kernel_rfl) (all_cons (cc_tollbarlaw05_LexBetween_18_ok κ m) (all_cons (cc_tollbarlaw05_LexBetween_20_ok κ m) (all_cons (cc_tollbarlaw05_LexBetween_30_ok κ m) (all_nil))))) (f := tollbarlaw05_LexBetween.l16 κ) (fun s => by kernel_rfl) (fun k s => by kernel_rfl) κ
def cc_tollbarlaw05_LexBetween_31 (κ : Nat) : Cut T := p_tollbarlaw05_LexBetween_16.cut (gcN 0 [0, 1, 6, 7]) (tollbarlaw05_LexBetween.l16 κ κ)
theorem cc_tollbarlaw05_LexBetween_31_ok (κ : Nat) (m : Int) : CutOk Tryd.prog C (G m) Tryd.f5.ntmps 0 (pieceOf (.blk 0) (getBody Tryd.f5)) (cc_tollbarlaw05_LexBetween_31 κ) := p_tollbarlaw05_LexBetween_16_ct κ m
def ct_tollbarlaw05_LexBetween_31 (κ : Nat) : Key → Option (Cut T) := addCut (ct_tollbarlaw05_LexBetween_1 κ) (.blk 0) (cc_tollbarlaw05_LexBetween_31 κ)
def p_tollbarlaw05_LexBetween_32 : Piece T ((List LexToken) × Int × (List LexToken)) ((List LexToken) × Bool × (List LexToken)) where
  dcS env H ds := match env 0, env 9, env 10, H, ds with
    | (.v (.sl 37 a0)), (.own 0), (.v (.i .i64 a1)), [(.row 37 a2 true)], [] => some (a0, a1, a2)
    | _, _, _, _, _ => none
  slS := fun (a0, a1, a2) => [(0, (.v (.sl 37 a0))), (9, (.own 0)), (10, (.v (.i .i64 a1)))]
  obS := fun (a0, a1, a2) => [(.row 37 a2 true)]
  dsS := fun (a0, a1, a2) => []
  dcE x env H ds := match x, env 0, env 9, env 133, H, ds with
    | .normal, (.v (.sl 37 a0)), (.own 0), (.v (.b a1)), [(.row 37 a2 true)], [] => some (a0, a1, a2)
    | _, _, _, _, _, _ => none
  exE := fun (a0, a1, a2) => .normal
  slE := fun (a0, a1, a2) => [(0, (.v (.sl 37 a0))), (9, (.own 0)), (133, (.v (.b a1)))]
  obE := fun (a0, a1, a2) => [(.row 37 a2 true)]
  dsE := fun (a0, a1, a2) => []
  goE := fun _ (a0, a1, a2) k => k .normal [(0, (.v (.sl 37 a0))), (9, (.own 0)), (133, (.v (.b a1)))] [(.row 37 a2 true)] []
theorem p_tollbarlaw05_LexBetween_32_ok : PieceOk p_tollbarlaw05_LexBetween_32 := by
  refine ⟨fun env H ds s h => ?_, fun x env H ds e h => ?_, fun R e k => by kernel_rfl⟩
  · simp only [p_tollbarlaw05_LexBetween_32] at h ⊢; split at h <;> first | (cases h; simp only [List.forall_mem_cons]; simp_all; done) | (cases h; done)
  · simp only [p_tollbarlaw05_LexBetween_32] at h ⊢; split at h <;> first | (cases h; simp only [List.forall_mem_cons]; simp_all; done) | (cases h; done)
theorem p_tollbarlaw05_LexBetween_32_ct (κ : Nat) (m : Int) : CutOk Tryd.prog C (G m) Tryd.f5.ntmps 0 (pieceOf (.reg 35) (getBody Tryd.f5)) (p_tollbarlaw05_LexBetween_32.cut (gcN 0 [0, 9, 10]) (fun (a0, a1, a2) => tollbarlaw05_LexBetween.v32 κ a0 a1 a2)) :=
  Piece.join p_tollbarlaw05_LexBetween_32_ok C_ok mixed (gam42_ok κ m) gcN_ok (xN_ok gcN_ok (ex_nil) gcN_ok gcN_ok) (cut := (ct_tollbarlaw05_LexBetween_31 κ)) (X := (xN (gcN 0 [0, 9, 133]) [] (gcN 0 [4]) (gcN 0 [1000000]))) (cuts_by (l := []) (by kernel_rfl) (all_nil)) (fun s => by kernel_rfl)
def cc_tollbarlaw05_LexBetween_33 (κ : Nat) : Cut T := p_tollbarlaw05_LexBetween_32.cut (gcN 0 [0, 9, 10]) (fun (a0, a1, a2) => tollbarlaw05_LexBetween.v32 κ a0 a1 a2)
theorem cc_tollbarlaw05_LexBetween_33_ok (κ : Nat) (m : Int) : CutOk Tryd.prog C (G m) Tryd.f5.ntmps 0 (pieceOf (.reg 35) (getBody Tryd.f5)) (cc_tollbarlaw05_LexBetween_33 κ) := p_tollbarlaw05_LexBetween_32_ct κ m
def ct_tollbarlaw05_LexBetween_33 (κ : Nat) : Key → Option (Cut T) := addCut (ct_tollbarlaw05_LexBetween_31 κ) (.reg 35) (cc_tollbarlaw05_LexBetween_33 κ)
def p_tollbarlaw05_LexBetween_39 : Piece T ((List LexToken) × Int × ByteArray × Bool × (List LexToken)) ((List LexToken) × Int × ByteArray × (List LexToken)) where
  dcS env H ds := match env 0, env 9, env 12, env 13, env 150, H, ds with
    | (.v (.sl 37 a0)), (.own 0), (.v (.i .i64 a1)), (.v (.s a2)), (.v (.b a3)), [(.row 37 a4 true)], [] => some (a0, a1, a2, a3, a4)
    | _, _, _, _, _, _, _ => none
  slS := fun (a0, a1, a2, a3, a4) => [(0, (.v (.sl 37 a0))), (9, (.own 0)), (12, (.v (.i .i64 a1))), (13, (.v (.s a2))), (150, (.v (.b a3)))]
  obS := fun (a0, a1, a2, a3, a4) => [(.row 37 a4 true)]
  dsS := fun (a0, a1, a2, a3, a4) => []
  dcE x env H ds := match x, env 0, env 9, env 12, env 13, H, ds with
    | .normal, (.v (.sl 37 a0)), (.own 0), (.v (.i .i64 a1)), (.v (.s a2)), [(.row 37 a3 true)], [] => some (a0, a1, a2, a3)
    | _, _, _, _, _, _, _ => none
  exE := fun (a0, a1, a2, a3) => .normal
  slE := fun (a0, a1, a2, a3) => [(0, (.v (.sl 37 a0))), (9, (.own 0)), (12, (.v (.i .i64 a1))), (13, (.v (.s a2)))]
  obE := fun (a0, a1, a2, a3) => [(.row 37 a3 true)]
  dsE := fun (a0, a1, a2, a3) => []
  goE := fun _ (a0, a1, a2, a3) k => k .normal [(0, (.v (.sl 37 a0))), (9, (.own 0)), (12, (.v (.i .i64 a1))), (13, (.v (.s a2)))] [(.row 37 a3 true)] []
theorem p_tollbarlaw05_LexBetween_39_ok : PieceOk p_tollbarlaw05_LexBetween_39 := by
  refine ⟨fun env H ds s h => ?_, fun x env H ds e h => ?_, fun R e k => by kernel_rfl⟩
  · simp only [p_tollbarlaw05_LexBetween_39] at h ⊢; split at h <;> first | (cases h; simp only [List.forall_mem_cons]; simp_all; done) | (cases h; done)
  · simp only [p_tollbarlaw05_LexBetween_39] at h ⊢; split at h <;> first | (cases h; simp only [List.forall_mem_cons]; simp_all; done) | (cases h; done)
theorem p_tollbarlaw05_LexBetween_39_ct (κ : Nat) (m : Int) : CutOk Tryd.prog C (G m) Tryd.f5.ntmps 0 (pieceOf (.cnd 150 43) (getBody Tryd.f5)) (p_tollbarlaw05_LexBetween_39.cut (gcN 0 [0, 9, 12, 13, 150]) (fun (a0, a1, a2, a3, a4) => tollbarlaw05_LexBetween.v39 κ a0 a1 a2 a3 a4)) :=
  Piece.join p_tollbarlaw05_LexBetween_39_ok C_ok mixed (gam42_ok κ m) gcN_ok (xN_ok gcN_ok (ex_cons gcN_ok (ex_cons gcN_ok (ex_nil))) gcN_ok gcN_ok) (cut := (ct_tollbarlaw05_LexBetween_33 κ)) (X := (xN (gcN 0 [0, 9, 12, 13]) [(6, (gcN 0 [0, 9, 12])), (5, (gcN 0 [0, 9]))] (gcN 0 [4]) (gcN 0 [1000000]))) (cuts_by (l := []) (by kernel_rfl) (all_nil)) (fun s => by kernel_rfl)
def cc_tollbarlaw05_LexBetween_40 (κ : Nat) : Cut T := p_tollbarlaw05_LexBetween_39.cut (gcN 0 [0, 9, 12, 13, 150]) (fun (a0, a1, a2, a3, a4) => tollbarlaw05_LexBetween.v39 κ a0 a1 a2 a3 a4)
theorem cc_tollbarlaw05_LexBetween_40_ok (κ : Nat) (m : Int) : CutOk Tryd.prog C (G m) Tryd.f5.ntmps 0 (pieceOf (.cnd 150 43) (getBody Tryd.f5)) (cc_tollbarlaw05_LexBetween_40 κ) := p_tollbarlaw05_LexBetween_39_ct κ m
def ct_tollbarlaw05_LexBetween_40 (κ : Nat) : Key → Option (Cut T) := addCut (ct_tollbarlaw05_LexBetween_33 κ) (.cnd 150 43) (cc_tollbarlaw05_LexBetween_40 κ)
def p_tollbarlaw05_LexBetween_41 : Piece T ((List LexToken) × Int × ByteArray × (List LexToken)) ((List LexToken) × Int × Bool × (List LexToken)) where
  dcS env H ds := match env 0, env 9, env 12, env 13, H, ds with
    | (.v (.sl 37 a0)), (.own 0), (.v (.i .i64 a1)), (.v (.s a2)), [(.row 37 a3 true)], [] => some (a0, a1, a2, a3)
    | _, _, _, _, _, _ => none
  slS := fun (a0, a1, a2, a3) => [(0, (.v (.sl 37 a0))), (9, (.own 0)), (12, (.v (.i .i64 a1))), (13, (.v (.s a2)))]
  obS := fun (a0, a1, a2, a3) => [(.row 37 a3 true)]
  dsS := fun (a0, a1, a2, a3) => []
  dcE x env H ds := match x, env 0, env 9, env 12, env 190, H, ds with
    | .normal, (.v (.sl 37 a0)), (.own 0), (.v (.i .i64 a1)), (.v (.b a2)), [(.row 37 a3 true)], [] => some (a0, a1, a2, a3)
    | _, _, _, _, _, _, _ => none
  exE := fun (a0, a1, a2, a3) => .normal
  slE := fun (a0, a1, a2, a3) => [(0, (.v (.sl 37 a0))), (9, (.own 0)), (12, (.v (.i .i64 a1))), (190, (.v (.b a2)))]
  obE := fun (a0, a1, a2, a3) => [(.row 37 a3 true)]
  dsE := fun (a0, a1, a2, a3) => []
  goE := fun _ (a0, a1, a2, a3) k => k .normal [(0, (.v (.sl 37 a0))), (9, (.own 0)), (12, (.v (.i .i64 a1))), (190, (.v (.b a2)))] [(.row 37 a3 true)] []
theorem p_tollbarlaw05_LexBetween_41_ok : PieceOk p_tollbarlaw05_LexBetween_41 := by
  refine ⟨fun env H ds s h => ?_, fun x env H ds e h => ?_, fun R e k => by kernel_rfl⟩
  · simp only [p_tollbarlaw05_LexBetween_41] at h ⊢; split at h <;> first | (cases h; simp only [List.forall_mem_cons]; simp_all; done) | (cases h; done)
  · simp only [p_tollbarlaw05_LexBetween_41] at h ⊢; split at h <;> first | (cases h; simp only [List.forall_mem_cons]; simp_all; done) | (cases h; done)
theorem p_tollbarlaw05_LexBetween_41_ct (κ : Nat) (m : Int) : CutOk Tryd.prog C (G m) Tryd.f5.ntmps 0 (pieceOf (.reg 43) (getBody Tryd.f5)) (p_tollbarlaw05_LexBetween_41.cut (gcN 0 [0, 9, 12, 13]) (fun (a0, a1, a2, a3) => tollbarlaw05_LexBetween.v41 κ a0 a1 a2 a3)) :=
  Piece.join p_tollbarlaw05_LexBetween_41_ok C_ok mixed (gam42_ok κ m) gcN_ok (xN_ok gcN_ok (ex_cons gcN_ok (ex_cons gcN_ok (ex_nil))) gcN_ok gcN_ok) (cut := (ct_tollbarlaw05_LexBetween_40 κ)) (X := (xN (gcN 0 [0, 9, 12, 190]) [(6, (gcN 0 [0, 9, 12])), (5, (gcN 0 [0, 9]))] (gcN 0 [4]) (gcN 0 [1000000]))) (cuts_by (l := []) (by kernel_rfl) (all_nil)) (fun s => by kernel_rfl)
def cc_tollbarlaw05_LexBetween_42 (κ : Nat) : Cut T := p_tollbarlaw05_LexBetween_41.cut (gcN 0 [0, 9, 12, 13]) (fun (a0, a1, a2, a3) => tollbarlaw05_LexBetween.v41 κ a0 a1 a2 a3)
theorem cc_tollbarlaw05_LexBetween_42_ok (κ : Nat) (m : Int) : CutOk Tryd.prog C (G m) Tryd.f5.ntmps 0 (pieceOf (.reg 43) (getBody Tryd.f5)) (cc_tollbarlaw05_LexBetween_42 κ) := p_tollbarlaw05_LexBetween_41_ct κ m
def ct_tollbarlaw05_LexBetween_42 (κ : Nat) : Key → Option (Cut T) := addCut (ct_tollbarlaw05_LexBetween_40 κ) (.reg 43) (cc_tollbarlaw05_LexBetween_42 κ)
def p_tollbarlaw05_LexBetween_38 : Piece T ((List LexToken) × Int × (List LexToken)) (((List LexToken) × (List LexToken)) ⊕ (Bool)) where
  dcS env H ds := match env 0, env 9, env 12, H, ds with
    | (.v (.sl 37 a0)), (.own 0), (.v (.i .i64 a1)), [(.row 37 a2 true)], [] => some (a0, a1, a2)
    | _, _, _, _, _ => none
  slS := fun (a0, a1, a2) => [(0, (.v (.sl 37 a0))), (9, (.own 0)), (12, (.v (.i .i64 a1)))]
  obS := fun (a0, a1, a2) => [(.row 37 a2 true)]
  dsS := fun (a0, a1, a2) => []
  dcE x env H ds := match x, env 0, env 4, env 9, H, ds with
    | .normal, (.v (.sl 37 a0)), _, (.own 0), [(.row 37 a1 true)], [] => some (.inl (a0, a1))
    | .ret, _, (.v (.b a0)), _, [], [] => some (.inr a0)
    | _, _, _, _, _, _ => none
  exE := fun x => match x with
    | (.inl (a0, a1)) => .normal
    | (.inr a0) => .ret
  slE := fun x => match x with
    | (.inl (a0, a1)) => [(0, (.v (.sl 37 a0))), (9, (.own 0))]
    | (.inr a0) => [(4, (.v (.b a0)))]
  obE := fun x => match x with
    | (.inl (a0, a1)) => [(.row 37 a1 true)]
    | (.inr a0) => []
  dsE := fun x => match x with
    | (.inl (a0, a1)) => []
    | (.inr a0) => []
  goE := fun _ x k => match x with
    | (.inl (a0, a1)) => k .normal [(0, (.v (.sl 37 a0))), (9, (.own 0))] [(.row 37 a1 true)] []
    | (.inr a0) => k .ret [(4, (.v (.b a0)))] [] []
theorem p_tollbarlaw05_LexBetween_38_ok : PieceOk p_tollbarlaw05_LexBetween_38 := by
  refine ⟨fun env H ds s h => ?_, fun x env H ds e h => ?_, fun R e k => by rcases e with e | e <;> kernel_rfl⟩
  · simp only [p_tollbarlaw05_LexBetween_38] at h ⊢; split at h <;> first | (cases h; simp only [List.forall_mem_cons]; simp_all; done) | (cases h; done)
  · simp only [p_tollbarlaw05_LexBetween_38] at h ⊢; split at h <;> first | (cases h; simp only [List.forall_mem_cons]; simp_all; done) | (cases h; done)
theorem p_tollbarlaw05_LexBetween_38_ct (κ : Nat) (m : Int) : CutOk Tryd.prog C (G m) Tryd.f5.ntmps 0 (pieceOf (.blk 5) (getBody Tryd.f5)) (p_tollbarlaw05_LexBetween_38.cut (gcN 0 [0, 9, 12]) (tollbarlaw05_LexBetween.l38 κ κ)) :=
  Piece.loop p_tollbarlaw05_LexBetween_38_ok C_ok mixed (gam42_ok κ m) gcN_ok (xN_ok gcN_ok (ex_nil) gcN_ok gcN_ok) (cut := (ct_tollbarlaw05_LexBetween_42 κ)) (X := (xN (gcN 0 [0, 9]) [] (gcN 0 [4]) (gcN 0 [1000000]))) (id := 5) (body := bodyOf (pieceOf (.blk 5) (getBody Tryd.f5))) (cuts_by (l := [(pieceOf (.cnd 150 43) (getBody Tryd.f5), cc_tollbarlaw05_LexBetween_40 κ), (pieceOf (.reg 43) (getBody Tryd.f5), cc_tollbarlaw05_LexBetween_42 κ)]) (by kernel_rfl) (all_cons (cc_tollbarlaw05_LexBetween_40_ok κ m) (all_cons (cc_tollbarlaw05_LexBetween_42_ok κ m) (all_nil)))) (f := tollbarlaw05_LexBetween.l38 κ) (fun s => by kernel_rfl) (fun k s => by kernel_rfl) κ
def cc_tollbarlaw05_LexBetween_43 (κ : Nat) : Cut T := p_tollbarlaw05_LexBetween_38.cut (gcN 0 [0, 9, 12]) (tollbarlaw05_LexBetween.l38 κ κ)
theorem cc_tollbarlaw05_LexBetween_43_ok (κ : Nat) (m : Int) : CutOk Tryd.prog C (G m) Tryd.f5.ntmps 0 (pieceOf (.blk 5) (getBody Tryd.f5)) (cc_tollbarlaw05_LexBetween_43 κ) := p_tollbarlaw05_LexBetween_38_ct κ m
def ct_tollbarlaw05_LexBetween_43 (κ : Nat) : Key → Option (Cut T) := addCut (ct_tollbarlaw05_LexBetween_33 κ) (.blk 5) (cc_tollbarlaw05_LexBetween_43 κ)
def sp_tollbarlaw05_LexBetween : Spec T ((List LexToken) × (List ByteArray)) (Bool) where
  dcI a H := match a, H with
    | [(.v (.sl 37 a0)), (.v (.sl 9 a1))], [] => some (a0, a1)
    | _, _ => none
  ecA := fun (a0, a1) => [(.v (.sl 37 a0)), (.v (.sl 9 a1))]
  ecH := fun (a0, a1) => []
  dcO o := match o with
    | .ret (.v (.b a0)) [] => some a0
    | _ => none
  goO := fun _ a0 k => k (.ret (.v (.b a0)) [])
  ecO := fun a0 => .ret (.v (.b a0)) []
theorem sp_tollbarlaw05_LexBetween_ok : SpecOk sp_tollbarlaw05_LexBetween := by
  refine ⟨fun a H i h => ?_, fun o x h => ?_, fun R e k => by kernel_rfl⟩
  · simp only [sp_tollbarlaw05_LexBetween] at h ⊢; split at h <;> first | (cases h; exact ⟨rfl, rfl⟩) | (cases h; done)
  · simp only [sp_tollbarlaw05_LexBetween] at h ⊢; split at h <;> first | (cases h; rfl) | (cases h; done)
theorem ok_tollbarlaw05_LexBetween (κ : Nat) (m : Int) : EOk Tryd.prog C (G m) 5 (sp_tollbarlaw05_LexBetween.entry (fun (a0, a1) => tollbarlaw05_LexBetween κ a0 a1)) :=
  Spec.ok sp_tollbarlaw05_LexBetween_ok C_ok mixed (gam42_ok κ m) (cut := (ct_tollbarlaw05_LexBetween_43 κ)) (NR := (gcN 0 [0])) (NP := (gcN 0 [0])) (nB := 0) Tryd.func5 (c := (getBody Tryd.f5)) (by kernel_rfl) (by kernel_rfl) (fun i => by kernel_rfl) gcN_ok gcN_ok (cuts_by (l := [(pieceOf (.reg 4) (getBody Tryd.f5), cc_tollbarlaw05_LexBetween_1 κ), (pieceOf (.blk 0) (getBody Tryd.f5), cc_tollbarlaw05_LexBetween_31 κ), (pieceOf (.reg 35) (getBody Tryd.f5), cc_tollbarlaw05_LexBetween_33 κ), (pieceOf (.blk 5) (getBody Tryd.f5), cc_tollbarlaw05_LexBetween_43 κ)]) (by kernel_rfl) (all_cons (cc_tollbarlaw05_LexBetween_1_ok κ m) (all_cons (cc_tollbarlaw05_LexBetween_31_ok κ m) (all_cons (cc_tollbarlaw05_LexBetween_33_ok κ m) (all_cons (cc_tollbarlaw05_LexBetween_43_ok κ m) (all_nil)))))) (fun i => by kernel_rfl)
noncomputable def gam43 (κ : Nat) : Gam T := (gam42 κ).addS 5 sp_tollbarlaw05_LexBetween (fun (a0, a1) => tollbarlaw05_LexBetween κ a0 a1)
theorem gam43_ok (κ : Nat) (m : Int) : GOk Tryd.prog C (G m) (gam43 κ) := (gam42_ok κ m).addS (ok_tollbarlaw05_LexBetween κ m)
end Go.Proofs.YtfoeekaanngoiaaDoor.Ev.Seat
