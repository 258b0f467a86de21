import Derived.Test.YtdoifigogbdodaaGreatDoorEvRow
import Derived.Test.YtdoifigogbdodaaGreatDoorLawTwo
import Derived.Test.YtdoifigogbdodaaGreatDoorRows
import Derived.Test.YtdoifigogbdodaaGreatDoorTie
import Derived.Test.YtdoifigogbdodaaGreatDoorCards
import Derived.WalkKit
import Derived.ProofKit
import Derived.OpenShut
import Derived.ShutString
import Derived.ChangeOld
import Derived.Below
import Derived.SizedLaws
import Derived.Lay
import Derived.LaidOnce
import Derived.SevenTiedAt
import Derived.MakeChecks
set_option linter.unusedVariables false
set_option linter.unusedSimpArgs false
set_option maxHeartbeats 1000000
namespace Go.Proofs.YtdoifigogbdodaaGreatDoor.wordsTells
open Go.ChangeShapes Go.WideShapes Go.ChangeAt Go.RowKit
open Go.ChangeMaps (open_string shut_string)
theorem own : ownKnob Tryz.prog.godebug = none := by kernel_rfl
theorem calls (m : Int) (K : Nat) (a0 : ByteArray) (hp : Ev.Seat.yb K a0 = some true) (W : World)  (hG : ∀ g l, Ev.Seat.G m g = some l → Ev.zQV Ev.Seat.C (Ev.Cell Ev.Seat.C ⟨fun _ => none, fun _ _ => False⟩ ([] : List (Ev.zT Ev.Seat.T)) W) l g 0) : Calls Tryz.prog 4 #[.string a0] W fun e W' => e = .returned (.bool true) ∧ Below W.heap.size W W' := by
  have he : (Ev.Seat.vu.entry (fun a0 => Ev.Seat.yb K a0)) (Ev.Out Ev.Seat.T) [.v (.s a0)] [] some = some (.ret (.v (.b true)) []) := by
    exact Ev.Seat.zdS (i := a0) (x := true) rfl hp rfl
  have hR : Ev.yW Ev.Seat.C ⟨fun _ => none, fun _ _ => False⟩ ([] : List (Ev.zT Ev.Seat.T)) W [.v (.s a0)] [.string a0] := ⟨_, _, rfl, .s _, rfl⟩
  refine (Ev.zWP (Ev.Seat.zBW K m) (fun vs w => Ev.vF Tryz.func4 (c := Ev.zC Tryz.f4) (by kernel_rfl) (by kernel_rfl) vs w) he hG hR).mono fun e W' ⟨bel, out, σ', H', ho, hout⟩ => ?_
  cases ho
  obtain ⟨_, v, rfl, hv⟩ := hout
  cases hv
  exact ⟨rfl, bel⟩
set_option maxRecDepth 100000 in
theorem lifted (os : Os) (started : os.Started) (H : Type) (enc : TypeId × Value → H) :
    ReturnsInHanded {} Tryz.checked os 4 .any (fun w args => (Rows.wordsTellsSpec.pre enc Tryz.prog Tryz.f4 Rows.wordsTellsRow.domain false w args ∧ laidMetH Tryz.prog Rows.wordsTellsRow.laid w) ∧ sizedMet enc Tryz.prog Tryz.f4 (OpenSpec.ofChange Rows.wordsTellsSpec) false w args) (Rows.wordsTellsSpec.post enc Tryz.prog Tryz.f4 false true false false) := by
  refine Ev.Seat.zEl (C := Tryz.checked) (X := fun w _ => laidMetH Tryz.prog Rows.wordsTellsRow.laid w) (fun _ _ _ hh h => h.of_heap hh) own started (by kernel_rfl) Tryz.func4
    (ChangeSpec.witness_shaped (enc := enc) (C := Tryz.checked) (os := os) (X := fun w _ => laidMetH Tryz.prog Rows.wordsTellsRow.laid w) false (World.laidAll Tryz.prog os Rows.wordsTellsRow.laid) #[.string ByteArray.empty] 8 (World.laidAll_os _ _ _)
      (World.shaped_of_ZipB (by kernel_rfl) (by kernel_rfl)) (by kernel_rfl) (by kernel_rfl) (by kernel_rfl)
      (by rw [MakeChecks.laidMetH_plain _ _ _ (by kernel_rfl)]; exact laidMet_laidAll _ (by kernel_rfl) (by kernel_rfl))) ?_
  intro W base args ds gs before hval0 hW hcnd hsz0 hL0 hSh _
  have hL := hL0
  rw [MakeChecks.laidMetH_plain _ _ _ (by kernel_rfl)] at hL
  obtain ⟨mm, hmm⟩ := Ev.Seat.zYu hSh
  have hT := Ev.Seat.zWq hL (by simp [Rows.wordsTellsRow]) (by simp [Rows.wordsTellsRow])
  have hP := Ev.Seat.zZZ hL (by simp [Rows.wordsTellsRow])
  have hS := Ev.Seat.zcT hL (by simp [Rows.wordsTellsRow])
  have hE := Ev.Seat.zb5 hL (by simp [Rows.wordsTellsRow])
  have hG := Ev.Seat.zYQ (m := mm) hT hmm hP hS hE
  have w9 : (DataW.weightsEach Tryz.prog (Tryz.f4.params.toList ++ Rows.wordsTellsSpec.plain.varTypes Tryz.prog) (ds ++ gs)).all (· ≤ reachBytes) = true := hsz0
  have zPn : ∀ (j : Nat) t v, Tryz.f4.params[j]? = some t → args[j]? = some v → Value.okWide Tryz.prog W .any base t v := hval0
  have hW' := hW
  obtain ⟨p, q, hA0, hV, rfl, hfz, hnd⟩ := hW
  have hA : DataW.TrodAll enc Tryz.prog W 0 (fun _ => true) true Tryz.f4.params.toList args.toList ds p := hA0
  rw [Tryz.params4] at hA zPn w9
  obtain ⟨v0, vs0, d0, ds0, p0, q0, hargs, rfl, rfl, h0, r0⟩ := trodAll_cons hA
  obtain ⟨rfl, rfl, rfl⟩ := trodAll_nil r0
  obtain rfl : args = #[v0] := by cases args; simp_all
  obtain ⟨rfl, rfl⟩ := trodVars_none hV
  obtain ⟨a0, rfl, rfl, rfl, y0⟩ := open_string Tryz.underlying9 (zPn 0 9 v0 rfl rfl) h0
  refine (calls mm _ a0 (Wo.zT6 a0) W  hG).mono fun e W' ⟨he, bel⟩ => ?_
  subst he
  exact ⟨_, rfl, _, _, _, [], _, [], hW', trodAll_mk1 (shut_bool Tryz.underlying4 _), (trodAll_cons_mk (shut_string Tryz.underlying9 y0) trodAll_mk0), rfl, bel.frame _, fun h => by cases h⟩
theorem over : Rows.wordsTellsRow.holds Tryz.pinned (OpenSpec.ofChange Rows.wordsTellsSpec) :=
  OpenClaim.holds_of_wide 4 Tryz.f4 rfl rfl rfl rfl rfl rfl rfl ⟨rfl, rfl, rfl, rfl, rfl⟩ rfl rfl rfl rfl rfl (by kernel_rfl) Tryz.func4 (by kernel_rfl)
    (of_decide_eq_true (by kernel_rfl)) (by unfold Func.isWrapper; first | (rw [if_pos (by decide +kernel)]; kernel_rfl) | (rw [if_neg (by decide +kernel)]; exact ⟨rfl, rfl⟩))
    (fun os started H enc _ => lifted os started H enc)
theorem proved : Rows.WordsTellsCardSaid :=
  Claim7.holds_tied_plain_at .later [] [.data, .data, .data, .data, .sentinel, .sentinel, .pinned] true (true, "6ed3d3cfc73d228c521729e8d84883bf7d531e87e75554a7720933ea51646b60") true over (fun _ h => by cases h) (by kernel_rfl) (fun _ h => by cases h) wordsTells_row_tie rfl ⟨rfl, rfl⟩ (by kernel_rfl) rfl
    (fun f fn hf hfn => by
      obtain rfl : f = 4 := Option.some.inj ((show Tryz.prog.funcNamed "tollbar/tollbarlaw33.WordsTells" = some 4 by kernel_rfl).symm.trans hf) |>.symm
      obtain rfl : fn = Tryz.f4 := (Option.some.inj (Tryz.func4.symm.trans hfn)).symm
      exact ⟨by kernel_rfl, fun j t ht => by
        rw [Tryz.params4] at ht
        have hm : t ∈ [9] := by simpa using Array.mem_of_getElem? ht
        have hall : ([9].all fun u => !Tryz.prog.wantsStandIn u) = true := by kernel_rfl
        exact (show Tryz.prog.wantsStandIn t = false by simpa using List.all_eq_true.1 hall t hm)⟩)
    (by kernel_rfl)
end Go.Proofs.YtdoifigogbdodaaGreatDoor.wordsTells
namespace Go.Proofs.YtdoifigogbdodaaGreatDoor
/-- The card, under a short name, for the claim. -/
theorem wordsTells_holds : Rows.WordsTellsCardSaid := wordsTells.proved
end Go.Proofs.YtdoifigogbdodaaGreatDoor
#print axioms Go.Proofs.YtdoifigogbdodaaGreatDoor.wordsTells_holds

