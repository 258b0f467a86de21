/- The row of the law PathOwn, out of its printed contract and its plain law, and its card. Conditions: as in the given row. -/
import Derived.Test.YtbbkchclefkikaaDoorRows
import Derived.Test.YtbbkchclefkikaaDoorOpenKd
import Derived.Test.YtbbkchclefkikaaDoorQPathx12
import Derived.Test.YtbbkchclefkikaaDoorPathLawsB
import Derived.Test.YtbbkchclefkikaaDoorTie
import Derived.Test.YtbbkchclefkikaaDoorCards
import Derived.WalkKit
import Derived.ProofKit
import Derived.OpenShut
import Derived.ShutString
import Derived.ChangeOld
import Derived.Below
import Derived.SizedLaws
import Derived.Lay
import Derived.LaidOnce
import Derived.SevenTiedAt
import Derived.MakeChecks
namespace Go.Proofs.YtbbkchclefkikaaDoor.pathOwn
open Go.ChangeShapes Go.WideShapes Go.ChangeAt Go.RowKit Go.Proofs.YtbbkchclefkikaaDoorW.PrintWords Go.Proofs.YtbbkchclefkikaaDoor.QPath
open Go.ChangeMaps (open_string shut_string)
set_option linter.unusedVariables false
theorem own : ownKnob Tryd.prog.godebug = none := by kernel_rfl
theorem laidOut : laidOutB Tryd.prog = true := by kernel_rfl
def wf46 (x : S46) : Prop := (x.f0.size ≤ 140737488351232) ∧ (x.f1.size ≤ 140737488351232)
set_option maxRecDepth 100000 in
theorem opens46 : OpenKd.Opens Tryd.prog k46 46 wf46 := by
  intro N
  have h := OpenKd.opens_struct (d := k46) Tryd.underlying46 (by kernel_rfl) (OpenKd.RowF.iso (OpenKd.row_cons ((fun N => OpenKd.opens_string Tryd.underlying9 (by kernel_rfl) N) N) rfl (OpenKd.row_last ((fun N => OpenKd.opens_string Tryd.underlying9 (by kernel_rfl) N) N) rfl)) (fun x : S46 => (x.f0, x.f1)) (fun x => (⟨x.1, x.2⟩ : S46)) (fun _ => rfl))
  exact (OpenKd.OpensF.mono h (fun _ hx => hx)).le (Nat.le_succ N)
set_option maxRecDepth 100000 in
theorem lifted (os : Os) (started : os.Started) (H : Type) (enc : TypeId × Value → H) :
    ReturnsInHanded {} Tryd.checked os 5 .any (fun w args => (Rows.pathOwnSpec.pre enc Tryd.prog Tryd.f5 Rows.pathOwnRow.domain false w args ∧ laidMetH Tryd.prog Rows.pathOwnRow.laid w) ∧ sizedMet enc Tryd.prog Tryd.f5 (OpenSpec.ofChange Rows.pathOwnSpec) false w args) (Rows.pathOwnSpec.post enc Tryd.prog Tryd.f5 false true false false) := by
  refine returnsInHanded_of_change_and (C := Tryd.checked) (X := fun w _ => laidMetH Tryd.prog Rows.pathOwnRow.laid w) (fun _ _ _ hh h => h.of_heap hh) own started (by kernel_rfl) Tryd.func5
    (ChangeSpec.witness_shaped (enc := enc) (C := Tryd.checked) (os := os) (X := fun w _ => laidMetH Tryd.prog Rows.pathOwnRow.laid w) false (World.laidAll Tryd.prog os Rows.pathOwnRow.laid) #[.string ByteArray.empty, .agg #[.string ByteArray.empty, .string ByteArray.empty]] 8 (World.laidAll_os _ _ _)
      (World.shaped_of_ZipB (by kernel_rfl) (by kernel_rfl)) (by kernel_rfl) (by kernel_rfl) (by kernel_rfl)
      (by rw [MakeChecks.laidMetH_plain _ _ _ (by kernel_rfl)]; exact laidMet_laidAll _ (by kernel_rfl) (by kernel_rfl))) ?_
  intro W base args ds gs before hval0 hW hcnd hsz0 hL0 _
  have hL := hL0
  rw [MakeChecks.laidMetH_plain _ _ _ (by kernel_rfl)] at hL
  have hsz : (DataW.weightsEach Tryd.prog (Tryd.f5.params.toList ++ Rows.pathOwnSpec.plain.varTypes Tryd.prog) (ds ++ gs)).all (· ≤ reachBytes) = true := hsz0
  have hval : ∀ (j : Nat) t v, Tryd.f5.params[j]? = some t → args[j]? = some v → Value.okWide Tryd.prog W .any base t v := hval0
  have hW' := hW
  obtain ⟨p, q, hA0, hV, rfl, hfz, hnd⟩ := hW
  have hA : DataW.TrodAll enc Tryd.prog W 0 (fun _ => true) true Tryd.f5.params.toList args.toList ds p := hA0
  rw [Tryd.params5] at hA hval hsz
  obtain ⟨v0, vs0, d0, ds0, p0, q0, hargs, rfl, rfl, h0, r0⟩ := trodAll_cons hA
  obtain ⟨v1, vs1, d1, ds1, p1, q1, rfl, rfl, rfl, h1, r1⟩ := trodAll_cons r0
  obtain ⟨rfl, rfl, rfl⟩ := trodAll_nil r1
  obtain rfl : args = #[v0, v1] := by cases args; simp_all
  obtain ⟨rfl, rfl⟩ := trodVars_none hV
  obtain ⟨a0, rfl, rfl, rfl, y0⟩ := open_string Tryd.underlying9 (hval 0 9 v0 rfl rfl) h0
  have w0 : a0.size ≤ 140737488351232 := by
    have z := sized_string hsz (j := 0) (t := 9) rfl rfl
    rw [Array.length_toList] at z
    exact z
  have k1 := h1
  have lt1 : ∀ x ∈ p1, x.block < W.heap.size := by obtain ⟨m, hm⟩ := k1; exact DataW.trod_lt m _ _ _ hm
  obtain ⟨cs1, x1, rfl, hK1, w1⟩ := OpenKd.param_struct Tryd.underlying46 opens46 (hval 1 46 v1 rfl rfl) hsz (j := 1) rfl rfl h1
  have hc1 : cs1.toList = [.string x1.f0, .string x1.f1] := by
    generalize cs1.toList = l at hK1
    obtain ⟨_, _, rfl, rfl, rfl⟩ := hK1
    rfl
  obtain rfl : cs1 = #[.string x1.f0, .string x1.f1] := Array.ext' hc1
  clear hA0 hval0 hsz0 hsz
  obtain ⟨k, hk⟩ := Pure.PathOwn a0 w0 x1.f0 x1.f1
  refine (tollbarlaw15_PathOwn.calls k a0 x1.f0 x1.f1 true W  hk).mono fun e W' ⟨he, bel⟩ => ?_
  subst he
  exact ⟨_, rfl, _, _, _, [], _, [], hW', trodAll_mk1 (shut_bool Tryd.underlying4 _), (trodAll_cons_mk (shut_string Tryd.underlying9 y0) (trodAll_cons_mk (Below.trod laidOut (by kernel_rfl) (of_decide_eq_true (by kernel_rfl)) k1 bel lt1) trodAll_mk0)), rfl, bel.frame _, fun h => by cases h⟩
theorem over : Rows.pathOwnRow.holds Tryd.pinned (OpenSpec.ofChange Rows.pathOwnSpec) :=
  OpenClaim.holds_of_wide 5 Tryd.f5 rfl rfl rfl rfl rfl rfl rfl ⟨rfl, rfl, rfl, rfl, rfl⟩ rfl rfl rfl rfl rfl (by kernel_rfl) Tryd.func5 (by kernel_rfl)
    (of_decide_eq_true (by kernel_rfl)) (by unfold Func.isWrapper; first | (rw [if_pos (by decide +kernel)]; kernel_rfl) | (rw [if_neg (by decide +kernel)]; exact ⟨rfl, rfl⟩))
    (fun os started H enc _ => lifted os started H enc)
theorem proved : Rows.PathOwnCardSaid :=
  Claim7.holds_tied_plain_at .later [] [.data, .pinned] true (true, "fda909ceec2be10ef093b5eb3d662446ccef708e6e5d95960622d78c599753fa") false over (fun _ h => by cases h) (by kernel_rfl) (fun _ h => by cases h) pathOwn_row_tie rfl ⟨rfl, rfl⟩ (by kernel_rfl) rfl
    (fun f fn hf hfn => by
      obtain rfl : f = 5 := Option.some.inj ((show Tryd.prog.funcNamed "tollbar/tollbarlaw15.PathOwn" = some 5 by kernel_rfl).symm.trans hf) |>.symm
      obtain rfl : fn = Tryd.f5 := (Option.some.inj (Tryd.func5.symm.trans hfn)).symm
      exact ⟨by kernel_rfl, fun j t ht => by
        rw [Tryd.params5] at ht
        have hm : t ∈ [9, 46] := by simpa using Array.mem_of_getElem? ht
        have hall : ([9, 46].all fun u => !Tryd.prog.wantsStandIn u) = true := by kernel_rfl
        exact (show Tryd.prog.wantsStandIn t = false by simpa using List.all_eq_true.1 hall t hm)⟩)
    (by kernel_rfl)
end Go.Proofs.YtbbkchclefkikaaDoor.pathOwn
namespace Go.Proofs.YtbbkchclefkikaaDoor
/-- The card, under a short name, for the claim. -/
theorem pathOwn_holds : Rows.PathOwnCardSaid := pathOwn.proved
end Go.Proofs.YtbbkchclefkikaaDoor
#print axioms Go.Proofs.YtbbkchclefkikaaDoor.pathOwn_holds
