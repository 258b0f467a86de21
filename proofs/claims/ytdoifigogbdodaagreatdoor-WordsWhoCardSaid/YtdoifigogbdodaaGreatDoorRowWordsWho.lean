import Derived.Test.YtdoifigogbdodaaGreatDoorEvRow
import Derived.Test.YtdoifigogbdodaaGreatDoorLawTwo
import Derived.Test.YtdoifigogbdodaaGreatDoorRows
import Derived.Test.YtdoifigogbdodaaGreatDoorTie
import Derived.Test.YtdoifigogbdodaaGreatDoorCards
import Derived.WalkKit
import Derived.ProofKit
import Derived.OpenShut
import Derived.ShutString
import Derived.ChangeOld
import Derived.Below
import Derived.SizedLaws
import Derived.Lay
import Derived.LaidOnce
import Derived.SevenTiedAt
import Derived.MakeChecks
set_option linter.unusedVariables false
set_option linter.unusedSimpArgs false
set_option maxHeartbeats 1000000
namespace Go.Proofs.YtdoifigogbdodaaGreatDoor.wordsWho
open Go.ChangeShapes Go.WideShapes Go.ChangeAt Go.RowKit
open Go.ChangeMaps (open_string shut_string)
theorem own : ownKnob Tryz.prog.godebug = none := by kernel_rfl
theorem calls (m : Int) (K : Nat) (a0 : ByteArray) (a1 : Int) (hp : Ev.Seat.l33_WordsWho K a0 a1 = some true) (W : World)  (hG : ∀ g l, Ev.Seat.G m g = some l → Ev.RepCs Ev.Seat.C (Ev.Cell Ev.Seat.C ⟨fun _ => none, fun _ _ => False⟩ ([] : List (Ev.AObj Ev.Seat.T)) W) l g 0) : Calls Tryz.prog 6 #[.string a0, .int .u8 a1] W fun e W' => e = .returned (.bool true) ∧ Below W.heap.size W W' := by
  have he : (Ev.Seat.sp_l33_WordsWho.entry (fun (a0, a1) => Ev.Seat.l33_WordsWho K a0 a1)) (Ev.Out Ev.Seat.T) [.v (.s a0), .v (.i .u8 a1)] [] some = some (.ret (.v (.b true)) []) := by
    exact Ev.Seat.entry_of (i := (a0, a1)) (x := true) rfl hp rfl
  have hR : Ev.RepL Ev.Seat.C ⟨fun _ => none, fun _ _ => False⟩ ([] : List (Ev.AObj Ev.Seat.T)) W [.v (.s a0), .v (.i .u8 a1)] [.string a0, .int .u8 a1] := ⟨_, _, rfl, .s _, ⟨_, _, rfl, .i _ _, rfl⟩⟩
  refine (Ev.calls_of_eok (Ev.Seat.ok_l33_WordsWho K m) (fun vs w => Ev.callable Tryz.func6 (c := Ev.getBody Tryz.f6) (by kernel_rfl) (by kernel_rfl) vs w) he hG hR).mono fun e W' ⟨bel, out, σ', H', ho, hout⟩ => ?_
  cases ho
  obtain ⟨_, v, rfl, hv⟩ := hout
  cases hv
  exact ⟨rfl, bel⟩
set_option maxRecDepth 100000 in
theorem lifted (os : Os) (started : os.Started) (H : Type) (enc : TypeId × Value → H) :
    ReturnsInHanded {} Tryz.checked os 6 .any (fun w args => (Rows.wordsWhoSpec.pre enc Tryz.prog Tryz.f6 Rows.wordsWhoRow.domain false w args ∧ laidMetH Tryz.prog Rows.wordsWhoRow.laid w) ∧ sizedMet enc Tryz.prog Tryz.f6 (OpenSpec.ofChange Rows.wordsWhoSpec) false w args) (Rows.wordsWhoSpec.post enc Tryz.prog Tryz.f6 false true false false) := by
  refine Ev.Seat.of_change_and_shaped (C := Tryz.checked) (X := fun w _ => laidMetH Tryz.prog Rows.wordsWhoRow.laid w) (fun _ _ _ hh h => h.of_heap hh) own started (by kernel_rfl) Tryz.func6
    (ChangeSpec.witness_shaped (enc := enc) (C := Tryz.checked) (os := os) (X := fun w _ => laidMetH Tryz.prog Rows.wordsWhoRow.laid w) false (World.laidAll Tryz.prog os Rows.wordsWhoRow.laid) #[.string ByteArray.empty, .int .u8 0] 8 (World.laidAll_os _ _ _)
      (World.shaped_of_ZipB (by kernel_rfl) (by kernel_rfl)) (by kernel_rfl) (by kernel_rfl) (by kernel_rfl)
      (by rw [MakeChecks.laidMetH_plain _ _ _ (by kernel_rfl)]; exact laidMet_laidAll _ (by kernel_rfl) (by kernel_rfl))) ?_
  intro W base args ds gs before hval0 hW hcnd hsz0 hL0 hSh _
  have hL := hL0
  rw [MakeChecks.laidMetH_plain _ _ _ (by kernel_rfl)] at hL
  obtain ⟨mm, hmm⟩ := Ev.Seat.maxLen_cell hSh
  have hT := Ev.Seat.tabs_of_laid hL (by simp [Rows.wordsWhoRow]) (by simp [Rows.wordsWhoRow])
  have hP := Ev.Seat.pow10_cell hL (by simp [Rows.wordsWhoRow])
  have hS := Ev.Seat.esyn_cell hL (by simp [Rows.wordsWhoRow])
  have hE := Ev.Seat.eran_cell hL (by simp [Rows.wordsWhoRow])
  have hG := Ev.Seat.globals_met (m := mm) hT hmm hP hS hE
  have hsz : (DataW.weightsEach Tryz.prog (Tryz.f6.params.toList ++ Rows.wordsWhoSpec.plain.varTypes Tryz.prog) (ds ++ gs)).all (· ≤ reachBytes) = true := hsz0
  have hval : ∀ (j : Nat) t v, Tryz.f6.params[j]? = some t → args[j]? = some v → Value.okWide Tryz.prog W .any base t v := hval0
  have hW' := hW
  obtain ⟨p, q, hA0, hV, rfl, hfz, hnd⟩ := hW
  have hA : DataW.TrodAll enc Tryz.prog W 0 (fun _ => true) true Tryz.f6.params.toList args.toList ds p := hA0
  rw [Tryz.params6] at hA hval hsz
  obtain ⟨v0, vs0, d0, ds0, p0, q0, hargs, rfl, rfl, h0, r0⟩ := trodAll_cons hA
  obtain ⟨v1, vs1, d1, ds1, p1, q1, rfl, rfl, rfl, h1, r1⟩ := trodAll_cons r0
  obtain ⟨rfl, rfl, rfl⟩ := trodAll_nil r1
  obtain rfl : args = #[v0, v1] := by cases args; simp_all
  obtain ⟨rfl, rfl⟩ := trodVars_none hV
  obtain ⟨a0, rfl, rfl, rfl, y0⟩ := open_string Tryz.underlying9 (hval 0 9 v0 rfl rfl) h0
  obtain ⟨a1, rfl, rfl, rfl, w1⟩ := open_int Tryz.underlying5 (hval 1 5 v1 rfl rfl) h1
  refine (calls mm _ a0 a1 (Wo.WordsWho_row a0 a1 w1) W  hG).mono fun e W' ⟨he, bel⟩ => ?_
  subst he
  exact ⟨_, rfl, _, _, _, [], _, [], hW', trodAll_mk1 (shut_bool Tryz.underlying4 _), (trodAll_cons_mk (shut_string Tryz.underlying9 y0) (trodAll_cons_mk (shut_int Tryz.underlying5 w1) trodAll_mk0)), rfl, bel.frame _, fun h => by cases h⟩
theorem over : Rows.wordsWhoRow.holds Tryz.pinned (OpenSpec.ofChange Rows.wordsWhoSpec) :=
  OpenClaim.holds_of_wide 6 Tryz.f6 rfl rfl rfl rfl rfl rfl rfl ⟨rfl, rfl, rfl, rfl, rfl⟩ rfl rfl rfl rfl rfl (by kernel_rfl) Tryz.func6 (by kernel_rfl)
    (of_decide_eq_true (by kernel_rfl)) (by unfold Func.isWrapper; first | (rw [if_pos (by decide +kernel)]; kernel_rfl) | (rw [if_neg (by decide +kernel)]; exact ⟨rfl, rfl⟩))
    (fun os started H enc _ => lifted os started H enc)
theorem proved : Rows.WordsWhoCardSaid :=
  Claim7.holds_tied_plain_at .later [] [.data, .data, .data, .data, .sentinel, .sentinel, .pinned] true (true, "6ed3d3cfc73d228c521729e8d84883bf7d531e87e75554a7720933ea51646b60") true over (fun _ h => by cases h) (by kernel_rfl) (fun _ h => by cases h) wordsWho_row_tie rfl ⟨rfl, rfl⟩ (by kernel_rfl) rfl
    (fun f fn hf hfn => by
      obtain rfl : f = 6 := Option.some.inj ((show Tryz.prog.funcNamed "tollbar/tollbarlaw33.WordsWho" = some 6 by kernel_rfl).symm.trans hf) |>.symm
      obtain rfl : fn = Tryz.f6 := (Option.some.inj (Tryz.func6.symm.trans hfn)).symm
      exact ⟨by kernel_rfl, fun j t ht => by
        rw [Tryz.params6] at ht
        have hm : t ∈ [9, 5] := by simpa using Array.mem_of_getElem? ht
        have hall : ([9, 5].all fun u => !Tryz.prog.wantsStandIn u) = true := by kernel_rfl
        exact (show Tryz.prog.wantsStandIn t = false by simpa using List.all_eq_true.1 hall t hm)⟩)
    (by kernel_rfl)
end Go.Proofs.YtdoifigogbdodaaGreatDoor.wordsWho
namespace Go.Proofs.YtdoifigogbdodaaGreatDoor
/-- The card, under a short name, for the claim. -/
theorem wordsWho_holds : Rows.WordsWhoCardSaid := wordsWho.proved
end Go.Proofs.YtdoifigogbdodaaGreatDoor
#print axioms Go.Proofs.YtdoifigogbdodaaGreatDoor.wordsWho_holds

