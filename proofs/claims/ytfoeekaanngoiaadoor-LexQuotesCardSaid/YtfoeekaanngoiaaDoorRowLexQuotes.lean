import Derived.Test.YtfoeekaanngoiaaDoorEvRow
import Derived.Test.YtfoeekaanngoiaaDoorLawOne
import Derived.Test.YtfoeekaanngoiaaDoorRows
import Derived.Test.YtfoeekaanngoiaaDoorTie
import Derived.Test.YtfoeekaanngoiaaDoorCards
import Derived.WalkKit
import Derived.ProofKit
import Derived.OpenShut
import Derived.ShutString
import Derived.ChangeOld
import Derived.Below
import Derived.SizedLaws
import Derived.Lay
import Derived.LaidOnce
import Derived.SevenTiedAt
import Derived.MakeChecks
set_option linter.unusedVariables false
set_option linter.unusedSimpArgs false
namespace Go.Proofs.YtfoeekaanngoiaaDoor.lexQuotes
open Go.ChangeShapes Go.WideShapes Go.ChangeAt Go.RowKit
open Go.ChangeMaps (open_string shut_string)
theorem own : ownKnob Tryd.prog.godebug = none := by kernel_rfl
theorem laidOut : laidOutB Tryd.prog = true := by kernel_rfl
theorem calls (m : Int) (a0 : ByteArray) (hp : Ev.Seat.tollbarlaw05_LexQuotes 20000 a0 = some true) (W : World) (hG : ∀ g l, Ev.Seat.G m g = some l → Ev.RepCs Ev.Seat.C (Ev.Cell Ev.Seat.C ⟨fun _ => none, fun _ _ => False⟩ ([] : List (Ev.AObj Ev.Seat.T)) W) l g 0) : Calls Tryd.prog 4 #[.string a0] W fun e W' => e = .returned (.bool true) ∧ Below W.heap.size W W' := by
  have he : (Ev.Seat.sp_tollbarlaw05_LexQuotes.entry (fun a0 => Ev.Seat.tollbarlaw05_LexQuotes 20000 a0)) (Ev.Out Ev.Seat.T) [.v (.s a0)] [] some = some (.ret (.v (.b true)) []) := by
    exact Ev.Seat.entry_of (i := a0) (x := true) rfl hp rfl
  have hR : Ev.RepL Ev.Seat.C ⟨fun _ => none, fun _ _ => False⟩ ([] : List (Ev.AObj Ev.Seat.T)) W [.v (.s a0)] [.string a0] := ⟨_, _, rfl, .s _, rfl⟩
  refine (Ev.calls_of_eok (Ev.Seat.ok_tollbarlaw05_LexQuotes 20000 m) (fun vs w => Ev.callable Tryd.func4 (c := Ev.getBody Tryd.f4) (by kernel_rfl) (by kernel_rfl) vs w) he hG hR).mono fun e W' ⟨bel, out, σ', H', ho, hout⟩ => ?_
  cases ho
  obtain ⟨_, v, rfl, hv⟩ := hout
  cases hv
  exact ⟨rfl, bel⟩
set_option maxRecDepth 100000 in
theorem lifted (os : Os) (started : os.Started) (H : Type) (enc : TypeId × Value → H) :
    ReturnsInHanded {} Tryd.checked os 4 .any (fun w args => (Rows.lexQuotesSpec.pre enc Tryd.prog Tryd.f4 Rows.lexQuotesRow.domain false w args ∧ laidMetH Tryd.prog Rows.lexQuotesRow.laid w) ∧ sizedMet enc Tryd.prog Tryd.f4 (OpenSpec.ofChange Rows.lexQuotesSpec) false w args) (Rows.lexQuotesSpec.post enc Tryd.prog Tryd.f4 false true false false) := by
  refine Ev.Seat.of_change_and_shaped (C := Tryd.checked) (X := fun w _ => laidMetH Tryd.prog Rows.lexQuotesRow.laid w) (fun _ _ _ hh h => h.of_heap hh) own started (by kernel_rfl) Tryd.func4
    (ChangeSpec.witness_shaped (enc := enc) (C := Tryd.checked) (os := os) (X := fun w _ => laidMetH Tryd.prog Rows.lexQuotesRow.laid w) false (World.laidAll Tryd.prog os Rows.lexQuotesRow.laid) #[.string ByteArray.empty] 8 (World.laidAll_os _ _ _)
      (World.shaped_of_ZipB (by kernel_rfl) (by kernel_rfl)) (by kernel_rfl) (by kernel_rfl) (by kernel_rfl)
      (by rw [MakeChecks.laidMetH_plain _ _ _ (by kernel_rfl)]; exact laidMet_laidAll _ (by kernel_rfl) (by kernel_rfl))) ?_
  intro W base args ds gs before hval0 hW hcnd hsz0 hL0 hSh _
  have hL := hL0
  rw [MakeChecks.laidMetH_plain _ _ _ (by kernel_rfl)] at hL
  obtain ⟨mm, hmm⟩ := Ev.Seat.maxLen_cell hSh
  have hT := Ev.Seat.tabs_of_laid hL (by simp [Rows.lexQuotesRow]) (by simp [Rows.lexQuotesRow])
  have hG := Ev.Seat.globals_met (m := mm) hT hmm
  have hsz : (DataW.weightsEach Tryd.prog (Tryd.f4.params.toList ++ Rows.lexQuotesSpec.plain.varTypes Tryd.prog) (ds ++ gs)).all (· ≤ reachBytes) = true := hsz0
  have hval : ∀ (j : Nat) t v, Tryd.f4.params[j]? = some t → args[j]? = some v → Value.okWide Tryd.prog W .any base t v := hval0
  have hW' := hW
  obtain ⟨p, q, hA0, hV, rfl, hfz, hnd⟩ := hW
  have hA : DataW.TrodAll enc Tryd.prog W 0 (fun _ => true) true Tryd.f4.params.toList args.toList ds p := hA0
  rw [Tryd.params4] at hA hval hsz
  obtain ⟨v0, vs0, d0, ds0, p0, q0, hargs, rfl, rfl, h0, r0⟩ := trodAll_cons hA
  obtain ⟨rfl, rfl, rfl⟩ := trodAll_nil r0
  obtain rfl : args = #[v0] := by cases args; simp_all
  obtain ⟨rfl, rfl⟩ := trodVars_none hV
  obtain ⟨a0, rfl, rfl, rfl, y0⟩ := open_string Tryd.underlying9 (hval 0 9 v0 rfl rfl) h0
  refine (calls mm a0 (Lex5.LexQuotes_eq a0) W hG).mono fun e W' ⟨he, bel⟩ => ?_
  subst he
  exact ⟨_, rfl, _, _, _, [], _, [], hW', trodAll_mk1 (shut_bool Tryd.underlying4 _), (trodAll_cons_mk (shut_string Tryd.underlying9 y0) trodAll_mk0), rfl, bel.frame _, fun h => by cases h⟩
theorem over : Rows.lexQuotesRow.holds Tryd.pinned (OpenSpec.ofChange Rows.lexQuotesSpec) :=
  OpenClaim.holds_of_wide 4 Tryd.f4 rfl rfl rfl rfl rfl rfl rfl ⟨rfl, rfl, rfl, rfl, rfl⟩ rfl rfl rfl rfl rfl (by kernel_rfl) Tryd.func4 (by kernel_rfl)
    (of_decide_eq_true (by kernel_rfl)) (by unfold Func.isWrapper; first | (rw [if_pos (by decide +kernel)]; kernel_rfl) | (rw [if_neg (by decide +kernel)]; exact ⟨rfl, rfl⟩))
    (fun os started H enc _ => lifted os started H enc)
theorem proved : Rows.LexQuotesCardSaid :=
  Claim7.holds_tied_plain_at .later [] [.data, .pinned] true (true, "5167175692f6b8b96ff9e7e52c3486c89199b0647b4454650107781bc9e88a01") true over (fun _ h => by cases h) (by kernel_rfl) (fun _ h => by cases h) lexQuotes_row_tie rfl ⟨rfl, rfl⟩ (by kernel_rfl) rfl
    (fun f fn hf hfn => by
      obtain rfl : f = 4 := Option.some.inj ((show Tryd.prog.funcNamed "tollbar/tollbarlaw05.LexQuotes" = some 4 by kernel_rfl).symm.trans hf) |>.symm
      obtain rfl : fn = Tryd.f4 := (Option.some.inj (Tryd.func4.symm.trans hfn)).symm
      exact ⟨by kernel_rfl, fun j t ht => by
        rw [Tryd.params4] at ht
        have hm : t ∈ [9] := by simpa using Array.mem_of_getElem? ht
        have hall : ([9].all fun u => !Tryd.prog.wantsStandIn u) = true := by kernel_rfl
        exact (show Tryd.prog.wantsStandIn t = false by simpa using List.all_eq_true.1 hall t hm)⟩)
    (by kernel_rfl)
end Go.Proofs.YtfoeekaanngoiaaDoor.lexQuotes
namespace Go.Proofs.YtfoeekaanngoiaaDoor
/-- The card, under a short name, for the claim. -/
theorem lexQuotes_holds : Rows.LexQuotesCardSaid := lexQuotes.proved
end Go.Proofs.YtfoeekaanngoiaaDoor
#print axioms Go.Proofs.YtfoeekaanngoiaaDoor.lexQuotes_holds
