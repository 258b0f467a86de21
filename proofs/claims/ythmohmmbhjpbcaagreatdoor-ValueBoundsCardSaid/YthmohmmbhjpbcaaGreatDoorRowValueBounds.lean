import Derived.Test.YthmohmmbhjpbcaaGreatDoorEvRow
import Derived.Test.YthmohmmbhjpbcaaGreatDoorLawOne
import Derived.Test.YthmohmmbhjpbcaaGreatDoorRows
import Derived.Test.YthmohmmbhjpbcaaGreatDoorTie
import Derived.Test.YthmohmmbhjpbcaaGreatDoorCards
import Derived.WalkKit
import Derived.ProofKit
import Derived.OpenShut
import Derived.ShutString
import Derived.ChangeOld
import Derived.Below
import Derived.SizedLaws
import Derived.Lay
import Derived.LaidOnce
import Derived.SevenTiedAt
import Derived.MakeChecks
set_option linter.unusedVariables false
set_option linter.unusedSimpArgs false
set_option maxHeartbeats 1000000
namespace Go.Proofs.YthmohmmbhjpbcaaGreatDoor.valueBounds
open Go.ChangeShapes Go.WideShapes Go.ChangeAt Go.RowKit
open Go.ChangeMaps (open_string shut_string)
theorem own : ownKnob Tryz.prog.godebug = none := by kernel_rfl
theorem laidOut : laidOutB Tryz.prog = true := by kernel_rfl
def wf24 (x : Ev.Seat.Tollbarlaw08Place) : Prop := ((Lit.int .i64 x.version).wf = true) ∧ (Ev.WfL (Tryz.prog.bytesOf 9) (fun y => y.size ≤ 140737488351232) x.names)
set_option maxRecDepth 100000 in
theorem opens24 : ∀ N, Ev.OpensF Ev.Seat.C Tryz.prog (Ev.Seat.C.enc 24) (Ev.Seat.C.size 24) 24 wf24 N := by
  intro N
  have h := Ev.opens_struct (C := Ev.Seat.C) Tryz.underlying24 (by kernel_rfl) (Ev.RowF.iso (Ev.row_cons (Ev.opens_int Tryz.underlying3 (by kernel_rfl) N) rfl (Ev.row_last ((Ev.opens_slice (C := Ev.Seat.C) (e := 9) Ev.Seat.C_ok Tryz.underlying22 (by kernel_rfl) ((fun N => (Ev.opens_string Tryz.underlying9 (by kernel_rfl) N)) N)).le (Nat.le_succ N)) rfl)) (fun x : Ev.Seat.Tollbarlaw08Place => (x.version, x.names)) (fun x => (⟨x.1, x.2⟩ : Ev.Seat.Tollbarlaw08Place)) (fun _ => rfl))
  exact (Ev.OpensF.mono h (fun _ hx => hx)).le (Nat.le_succ N)
theorem calls (m : Int) (K : Nat) (a0_0 : Int) (a0_1 : List (ByteArray)) (a1 : Int) (hp : Ev.Seat.l08_ValueBounds K a0_0 a0_1 a1 = some true) (W : World) (cs0 : Array Value) (q0 : Ev.RepVs Ev.Seat.C W [.i .i64 a0_0, .sl 9 a0_1] cs0.toList) (hG : ∀ g l, Ev.Seat.G m g = some l → Ev.RepCs Ev.Seat.C (Ev.Cell Ev.Seat.C ⟨fun _ => none, fun _ _ => False⟩ ([] : List (Ev.AObj Ev.Seat.T)) W) l g 0) : Calls Tryz.prog 5 #[.agg cs0, .int .u64 a1] W fun e W' => e = .returned (.bool true) ∧ Below W.heap.size W W' := by
  have he : (Ev.Seat.sp_l08_ValueBounds.entry (fun (a0_0, a0_1, a1) => Ev.Seat.l08_ValueBounds K a0_0 a0_1 a1)) (Ev.Out Ev.Seat.T) [.agg [.v (.i .i64 a0_0), .v (.sl 9 a0_1)], .v (.i .u64 a1)] [] some = some (.ret (.v (.b true)) []) := by
    exact Ev.Seat.entry_of (i := (a0_0, a0_1, a1)) (x := true) rfl hp rfl
  have hR : Ev.RepL Ev.Seat.C ⟨fun _ => none, fun _ _ => False⟩ ([] : List (Ev.AObj Ev.Seat.T)) W [.agg [.v (.i .i64 a0_0), .v (.sl 9 a0_1)], .v (.i .u64 a1)] [.agg cs0, .int .u64 a1] := ⟨_, _, rfl, ⟨_, rfl, Ev.repL_start q0⟩, ⟨_, _, rfl, .i _ _, rfl⟩⟩
  refine (Ev.calls_of_eok (Ev.Seat.ok_l08_ValueBounds K m) (fun vs w => Ev.callable Tryz.func5 (c := Ev.getBody Tryz.f5) (by kernel_rfl) (by kernel_rfl) vs w) he hG hR).mono fun e W' ⟨bel, out, σ', H', ho, hout⟩ => ?_
  cases ho
  obtain ⟨_, v, rfl, hv⟩ := hout
  cases hv
  exact ⟨rfl, bel⟩
set_option maxRecDepth 100000 in
theorem lifted (os : Os) (started : os.Started) (H : Type) (enc : TypeId × Value → H) :
    ReturnsInHanded {} Tryz.checked os 5 .any (fun w args => (Rows.valueBoundsSpec.pre enc Tryz.prog Tryz.f5 Rows.valueBoundsRow.domain false w args ∧ laidMetH Tryz.prog Rows.valueBoundsRow.laid w) ∧ sizedMet enc Tryz.prog Tryz.f5 (OpenSpec.ofChange Rows.valueBoundsSpec) false w args) (Rows.valueBoundsSpec.post enc Tryz.prog Tryz.f5 false true false false) := by
  refine Ev.Seat.of_change_and_shaped (C := Tryz.checked) (X := fun w _ => laidMetH Tryz.prog Rows.valueBoundsRow.laid w) (fun _ _ _ hh h => h.of_heap hh) own started (by kernel_rfl) Tryz.func5
    (ChangeSpec.witness_shaped (enc := enc) (C := Tryz.checked) (os := os) (X := fun w _ => laidMetH Tryz.prog Rows.valueBoundsRow.laid w) false (World.laidAll Tryz.prog os Rows.valueBoundsRow.laid) #[.agg #[.int .i64 0, .slice none 0 0], .int .u64 0] 8 (World.laidAll_os _ _ _)
      (World.shaped_of_ZipB (by kernel_rfl) (by kernel_rfl)) (by kernel_rfl) (by kernel_rfl) (by kernel_rfl)
      (by rw [MakeChecks.laidMetH_plain _ _ _ (by kernel_rfl)]; exact laidMet_laidAll _ (by kernel_rfl) (by kernel_rfl))) ?_
  intro W base args ds gs before hval0 hW hcnd hsz0 hL0 hSh _
  have hL := hL0
  rw [MakeChecks.laidMetH_plain _ _ _ (by kernel_rfl)] at hL
  obtain ⟨mm, hmm⟩ := Ev.Seat.maxLen_cell hSh
  have hP := Ev.Seat.pow10_cell hL (by simp [Rows.valueBoundsRow])
  have hS := Ev.Seat.esyn_cell hL (by simp [Rows.valueBoundsRow])
  have hE := Ev.Seat.eran_cell hL (by simp [Rows.valueBoundsRow])
  have hU := Ev.Seat.units_cell hL (by simp [Rows.valueBoundsRow])
  have hG := Ev.Seat.globals_met (m := mm) hmm hP hS hE hU
  have hsz : (DataW.weightsEach Tryz.prog (Tryz.f5.params.toList ++ Rows.valueBoundsSpec.plain.varTypes Tryz.prog) (ds ++ gs)).all (· ≤ reachBytes) = true := hsz0
  have hval : ∀ (j : Nat) t v, Tryz.f5.params[j]? = some t → args[j]? = some v → Value.okWide Tryz.prog W .any base t v := hval0
  have hW' := hW
  obtain ⟨p, q, hA0, hV, rfl, hfz, hnd⟩ := hW
  have hA : DataW.TrodAll enc Tryz.prog W 0 (fun _ => true) true Tryz.f5.params.toList args.toList ds p := hA0
  rw [Tryz.params5] at hA hval hsz
  obtain ⟨v0, vs0, d0, ds0, p0, q0, hargs, rfl, rfl, h0, r0⟩ := trodAll_cons hA
  obtain ⟨v1, vs1, d1, ds1, p1, q1, rfl, rfl, rfl, h1, r1⟩ := trodAll_cons r0
  obtain ⟨rfl, rfl, rfl⟩ := trodAll_nil r1
  obtain rfl : args = #[v0, v1] := by cases args; simp_all
  obtain ⟨rfl, rfl⟩ := trodVars_none hV
  have k0 := h0
  have lt0 : ∀ x ∈ p0, x.block < W.heap.size := by obtain ⟨m, hm⟩ := k0; exact DataW.trod_lt m _ _ _ hm
  obtain ⟨cs0, x0, rfl, g0, w0⟩ := Ev.param_struct Tryz.underlying24 opens24 (hval 0 24 v0 rfl rfl) hsz (j := 0) rfl rfl h0
  obtain ⟨a1, rfl, rfl, rfl, w1⟩ := open_int Tryz.underlying25 (hval 1 25 v1 rfl rfl) h1
  refine (calls mm _ x0.version x0.names a1 (Va8.ValueBounds_row x0 w0 a1 w1) W cs0 g0 hG).mono fun e W' ⟨he, bel⟩ => ?_
  subst he
  exact ⟨_, rfl, _, _, _, [], _, [], hW', trodAll_mk1 (shut_bool Tryz.underlying4 _), (trodAll_cons_mk (Below.trod laidOut (by kernel_rfl) (of_decide_eq_true (by kernel_rfl)) k0 bel lt0) (trodAll_cons_mk (shut_int Tryz.underlying25 w1) trodAll_mk0)), rfl, bel.frame _, fun h => by cases h⟩
theorem over : Rows.valueBoundsRow.holds Tryz.pinned (OpenSpec.ofChange Rows.valueBoundsSpec) :=
  OpenClaim.holds_of_wide 5 Tryz.f5 rfl rfl rfl rfl rfl rfl rfl ⟨rfl, rfl, rfl, rfl, rfl⟩ rfl rfl rfl rfl rfl (by kernel_rfl) Tryz.func5 (by kernel_rfl)
    (of_decide_eq_true (by kernel_rfl)) (by unfold Func.isWrapper; first | (rw [if_pos (by decide +kernel)]; kernel_rfl) | (rw [if_neg (by decide +kernel)]; exact ⟨rfl, rfl⟩))
    (fun os started H enc _ => lifted os started H enc)
theorem proved : Rows.ValueBoundsCardSaid :=
  Claim7.holds_tied_plain_at .later [] [.data, .data, .data, .sentinel, .sentinel, .data] true (true, "728f13a68302fb43a0bf473680bd5df1a5a1f564673656637b7cae9cb494131c") true over (fun _ h => by cases h) (by kernel_rfl) (fun _ h => by cases h) valueBounds_row_tie rfl ⟨rfl, rfl⟩ (by kernel_rfl) rfl
    (fun f fn hf hfn => by
      obtain rfl : f = 5 := Option.some.inj ((show Tryz.prog.funcNamed "tollbar/tollbarlaw08.ValueBounds" = some 5 by kernel_rfl).symm.trans hf) |>.symm
      obtain rfl : fn = Tryz.f5 := (Option.some.inj (Tryz.func5.symm.trans hfn)).symm
      exact ⟨by kernel_rfl, fun j t ht => by
        rw [Tryz.params5] at ht
        have hm : t ∈ [24, 25] := by simpa using Array.mem_of_getElem? ht
        have hall : ([24, 25].all fun u => !Tryz.prog.wantsStandIn u) = true := by kernel_rfl
        exact (show Tryz.prog.wantsStandIn t = false by simpa using List.all_eq_true.1 hall t hm)⟩)
    (by kernel_rfl)
end Go.Proofs.YthmohmmbhjpbcaaGreatDoor.valueBounds
namespace Go.Proofs.YthmohmmbhjpbcaaGreatDoor
/-- The card, under a short name, for the claim. -/
theorem valueBounds_holds : Rows.ValueBoundsCardSaid := valueBounds.proved
end Go.Proofs.YthmohmmbhjpbcaaGreatDoor
#print axioms Go.Proofs.YthmohmmbhjpbcaaGreatDoor.valueBounds_holds

