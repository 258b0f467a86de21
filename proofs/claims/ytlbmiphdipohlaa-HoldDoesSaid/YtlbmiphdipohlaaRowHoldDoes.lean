/- The row of the law HoldDoes, out of its printed contract and its plain law. Conditions: as in the given row. -/
import Derived.Test.YtlbmiphdipohlaaRows
import Derived.Test.YtlbmiphdipohlaaOpenKd
import Derived.Test.YtlbmiphdipohlaaQHoldx
import Derived.Test.YtlbmiphdipohlaaHoldPure
import Derived.WalkKit
import Derived.ProofKit
import Derived.OpenShut
import Derived.ShutString
import Derived.ChangeOld
import Derived.Below
import Derived.SizedLaws
namespace Go.Proofs.Ytlbmiphdipohlaa.holdDoes
open Go.ChangeShapes Go.WideShapes Go.ChangeAt Go.RowKit Go.Proofs.YtlbmiphdipohlaaW.PrintWords Go.Proofs.Ytlbmiphdipohlaa.QHold
open Go.ChangeMaps (open_string shut_string)
set_option linter.unusedVariables false
theorem own : ownKnob Try.prog.godebug = none := by kernel_rfl
theorem laidOut : laidOutB Try.prog = true := by kernel_rfl
def wf27 (x : S27) : Prop := ((Lit.int .i64 x.f0).wf = true) ∧ ((Lit.int .i64 x.f1).wf = true)
theorem opens27 : OpenKd.Opens Try.prog k27 27 wf27 := by
  intro N
  have h := OpenKd.opens_struct (d := k27) Try.underlying27 (by kernel_rfl) (OpenKd.RowF.iso (OpenKd.row_cons ((fun N => OpenKd.opens_int Try.underlying3 (by kernel_rfl) N) N) rfl (OpenKd.row_last ((fun N => OpenKd.opens_int Try.underlying3 (by kernel_rfl) N) N) rfl)) (fun x : S27 => (x.f0, x.f1)) (fun x => (⟨x.1, x.2⟩ : S27)) (fun _ => rfl))
  exact (OpenKd.OpensF.mono h (fun _ hx => hx)).le (Nat.le_succ N)
set_option maxRecDepth 100000 in
theorem lifted (os : Os) (started : os.Started) (H : Type) (enc : TypeId × Value → H) :
    ReturnsInHanded {} Try.checked os 3 .any (Rows.holdDoesSpec.pre6 enc Try.prog Try.f3 Rows.holdDoesRow.domain false) (Rows.holdDoesSpec.post enc Try.prog Try.f3 false true false false) := by
  refine returnsInHanded_of_change_sized (C := Try.checked) own started (by kernel_rfl) Try.func3
    (ChangeSpec.witness6 (enc := enc) (C := Try.checked) false ⟨#[], #[.slice none 0 0], []⟩ 8 (by kernel_rfl) (by kernel_rfl) (by kernel_rfl) (by kernel_rfl)) ?_
  intro W base args ds gs before hval0 hW hcnd hsz0 _
  have hsz : (DataW.weightsEach Try.prog (Try.f3.params.toList ++ Rows.holdDoesSpec.plain.varTypes Try.prog) (ds ++ gs)).all (· ≤ reachBytes) = true := hsz0
  have hval : ∀ (j : Nat) t v, Try.f3.params[j]? = some t → args[j]? = some v → Value.okWide Try.prog W .any base t v := hval0
  have hW' := hW
  obtain ⟨p, q, hA0, hV, rfl, hfz, hnd⟩ := hW
  have hA : DataW.TrodAll enc Try.prog W 0 (fun _ => true) true Try.f3.params.toList args.toList ds p := hA0
  rw [Try.params3] at hA hval hsz
  obtain ⟨v0, vs0, d0, ds0, p0, q0, hargs, rfl, rfl, h0, r0⟩ := trodAll_cons hA
  obtain ⟨rfl, rfl, rfl⟩ := trodAll_nil r0
  obtain rfl : args = #[v0] := by cases args; simp_all
  obtain ⟨rfl, rfl⟩ := trodVars_none hV
  have k0 := h0
  have lt0 : ∀ x ∈ p0, x.block < W.heap.size := by obtain ⟨m, hm⟩ := k0; exact DataW.trod_lt m _ _ _ hm
  obtain ⟨A0, c0, l0, rfl, hl0, hC0, w0⟩ := OpenKd.param_slice Try.underlying22 opens27 (hval 0 22 v0 rfl rfl) hsz (j := 0) rfl rfl h0
  clear hA0 hval0 hsz0 hsz
  obtain ⟨k, hk⟩ := Pure.HoldDoes l0 w0
  refine (tollbarlaw29_HoldDoes.calls k A0 c0 l0 true W hC0 hl0 hk).mono fun e W' ⟨he, bel⟩ => ?_
  subst he
  exact ⟨_, rfl, _, _, _, [], _, [], hW', trodAll_mk1 (shut_bool Try.underlying4 _), (trodAll_cons_mk (Below.trod laidOut (by kernel_rfl) (of_decide_eq_true (by kernel_rfl)) k0 bel lt0) trodAll_mk0), rfl, bel.frame _, fun h => by cases h⟩
theorem over : Rows.holdDoesRow.holds Try.pinned (OpenSpec.ofChange Rows.holdDoesSpec) :=
  OpenClaim.holds_of_wide 3 Try.f3 rfl rfl rfl rfl rfl rfl rfl ⟨rfl, rfl, rfl, rfl, rfl⟩ rfl rfl rfl rfl rfl (by kernel_rfl) Try.func3 (by kernel_rfl)
    (of_decide_eq_true (by kernel_rfl)) (by unfold Func.isWrapper; first | (rw [if_pos (by decide +kernel)]; kernel_rfl) | (rw [if_neg (by decide +kernel)]; exact ⟨rfl, rfl⟩))
    (fun os started H enc _ => lifted os started H enc)
theorem proved : Rows.HoldDoesSaid := over
end Go.Proofs.Ytlbmiphdipohlaa.holdDoes
namespace Go.Proofs.Ytlbmiphdipohlaa
/-- The row, under a short name, for the claim. -/
theorem holdDoes_holds : Rows.HoldDoesSaid := holdDoes.proved
end Go.Proofs.Ytlbmiphdipohlaa
#print axioms Go.Proofs.Ytlbmiphdipohlaa.holdDoes_holds
