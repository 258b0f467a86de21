import Derived.Test.YthmohmmbhjpbcaaGreatDoorEvRow
import Derived.Test.YthmohmmbhjpbcaaGreatDoorLawOne
import Derived.Test.YthmohmmbhjpbcaaGreatDoorRows
import Derived.Test.YthmohmmbhjpbcaaGreatDoorTie
import Derived.Test.YthmohmmbhjpbcaaGreatDoorCards
import Derived.WalkKit
import Derived.ProofKit
import Derived.OpenShut
import Derived.ShutString
import Derived.ChangeOld
import Derived.Below
import Derived.SizedLaws
import Derived.Lay
import Derived.LaidOnce
import Derived.SevenTiedAt
import Derived.MakeChecks
set_option linter.unusedVariables false
set_option linter.unusedSimpArgs false
set_option maxHeartbeats 1000000
namespace Go.Proofs.YthmohmmbhjpbcaaGreatDoor.valueApart
open Go.ChangeShapes Go.WideShapes Go.ChangeAt Go.RowKit
open Go.ChangeMaps (open_string shut_string)
theorem own : ownKnob Tryz.prog.godebug = none := by kernel_rfl
theorem laidOut : laidOutB Tryz.prog = true := by kernel_rfl
def wf24 (x : Ev.Seat.Tollbarlaw08Place) : Prop := ((Lit.int .i64 x.version).wf = true) ∧ (Ev.WfL (Tryz.prog.bytesOf 9) (fun y => y.size ≤ 140737488351232) x.names)
set_option maxRecDepth 100000 in
theorem opens24 : ∀ N, Ev.OpensF Ev.Seat.C Tryz.prog (Ev.Seat.C.enc 24) (Ev.Seat.C.size 24) 24 wf24 N := by
  intro N
  have h := Ev.opens_struct (C := Ev.Seat.C) Tryz.underlying24 (by kernel_rfl) (Ev.RowF.iso (Ev.row_cons (Ev.opens_int Tryz.underlying3 (by kernel_rfl) N) rfl (Ev.row_last ((Ev.opens_slice (C := Ev.Seat.C) (e := 9) Ev.Seat.C_ok Tryz.underlying22 (by kernel_rfl) ((fun N => (Ev.opens_string Tryz.underlying9 (by kernel_rfl) N)) N)).le (Nat.le_succ N)) rfl)) (fun x : Ev.Seat.Tollbarlaw08Place => (x.version, x.names)) (fun x => (⟨x.1, x.2⟩ : Ev.Seat.Tollbarlaw08Place)) (fun _ => rfl))
  exact (Ev.OpensF.mono h (fun _ hx => hx)).le (Nat.le_succ N)
def wf27 (x : Ev.Seat.ApiVal) : Prop := ((Lit.int .i64 x.kind).wf = true) ∧ ((Lit.int .u64 x.num).wf = true) ∧ (x.text.size ≤ 140737488351232)
set_option maxRecDepth 100000 in
theorem opens27 : ∀ N, Ev.OpensF Ev.Seat.C Tryz.prog (Ev.Seat.C.enc 27) (Ev.Seat.C.size 27) 27 wf27 N := by
  intro N
  have h := Ev.opens_struct (C := Ev.Seat.C) Tryz.underlying27 (by kernel_rfl) (Ev.RowF.iso (Ev.row_cons (Ev.opens_int Tryz.underlying3 (by kernel_rfl) N) rfl (Ev.row_cons (Ev.opens_int Tryz.underlying25 (by kernel_rfl) N) rfl (Ev.row_last (Ev.opens_string Tryz.underlying9 (by kernel_rfl) N) rfl))) (fun x : Ev.Seat.ApiVal => (x.kind, x.num, x.text)) (fun x => (⟨x.1, x.2.1, x.2.2⟩ : Ev.Seat.ApiVal)) (fun _ => rfl))
  exact (Ev.OpensF.mono h (fun _ hx => hx)).le (Nat.le_succ N)
theorem calls (m : Int) (K : Nat) (a0_0 : Int) (a0_1 : List (ByteArray)) (a1_0 : Int) (a1_1 : Int) (a1_2 : ByteArray) (a2_0 : Int) (a2_1 : Int) (a2_2 : ByteArray) (hp : Ev.Seat.l08_ValueApart K a0_0 a0_1 a1_0 a1_1 a1_2 a2_0 a2_1 a2_2 = some true) (W : World) (cs0 : Array Value) (q0 : Ev.RepVs Ev.Seat.C W [.i .i64 a0_0, .sl 9 a0_1] cs0.toList) (cs1 : Array Value) (q1 : Ev.RepVs Ev.Seat.C W [.i .i64 a1_0, .i .u64 a1_1, .s a1_2] cs1.toList) (cs2 : Array Value) (q2 : Ev.RepVs Ev.Seat.C W [.i .i64 a2_0, .i .u64 a2_1, .s a2_2] cs2.toList) (hG : ∀ g l, Ev.Seat.G m g = some l → Ev.RepCs Ev.Seat.C (Ev.Cell Ev.Seat.C ⟨fun _ => none, fun _ _ => False⟩ ([] : List (Ev.AObj Ev.Seat.T)) W) l g 0) : Calls Tryz.prog 6 #[.agg cs0, .agg cs1, .agg cs2] W fun e W' => e = .returned (.bool true) ∧ Below W.heap.size W W' := by
  have he : (Ev.Seat.sp_l08_ValueApart.entry (fun (a0_0, a0_1, a1_0, a1_1, a1_2, a2_0, a2_1, a2_2) => Ev.Seat.l08_ValueApart K a0_0 a0_1 a1_0 a1_1 a1_2 a2_0 a2_1 a2_2)) (Ev.Out Ev.Seat.T) [.agg [.v (.i .i64 a0_0), .v (.sl 9 a0_1)], .agg [.v (.i .i64 a1_0), .v (.i .u64 a1_1), .v (.s a1_2)], .agg [.v (.i .i64 a2_0), .v (.i .u64 a2_1), .v (.s a2_2)]] [] some = some (.ret (.v (.b true)) []) := by
    exact Ev.Seat.entry_of (i := (a0_0, a0_1, a1_0, a1_1, a1_2, a2_0, a2_1, a2_2)) (x := true) rfl hp rfl
  have hR : Ev.RepL Ev.Seat.C ⟨fun _ => none, fun _ _ => False⟩ ([] : List (Ev.AObj Ev.Seat.T)) W [.agg [.v (.i .i64 a0_0), .v (.sl 9 a0_1)], .agg [.v (.i .i64 a1_0), .v (.i .u64 a1_1), .v (.s a1_2)], .agg [.v (.i .i64 a2_0), .v (.i .u64 a2_1), .v (.s a2_2)]] [.agg cs0, .agg cs1, .agg cs2] := ⟨_, _, rfl, ⟨_, rfl, Ev.repL_start q0⟩, ⟨_, _, rfl, ⟨_, rfl, Ev.repL_start q1⟩, ⟨_, _, rfl, ⟨_, rfl, Ev.repL_start q2⟩, rfl⟩⟩⟩
  refine (Ev.calls_of_eok (Ev.Seat.ok_l08_ValueApart K m) (fun vs w => Ev.callable Tryz.func6 (c := Ev.getBody Tryz.f6) (by kernel_rfl) (by kernel_rfl) vs w) he hG hR).mono fun e W' ⟨bel, out, σ', H', ho, hout⟩ => ?_
  cases ho
  obtain ⟨_, v, rfl, hv⟩ := hout
  cases hv
  exact ⟨rfl, bel⟩
set_option maxRecDepth 100000 in
theorem lifted (os : Os) (started : os.Started) (H : Type) (enc : TypeId × Value → H) :
    ReturnsInHanded {} Tryz.checked os 6 .any (fun w args => (Rows.valueApartSpec.pre enc Tryz.prog Tryz.f6 Rows.valueApartRow.domain false w args ∧ laidMetH Tryz.prog Rows.valueApartRow.laid w) ∧ sizedMet enc Tryz.prog Tryz.f6 (OpenSpec.ofChange Rows.valueApartSpec) false w args) (Rows.valueApartSpec.post enc Tryz.prog Tryz.f6 false true false false) := by
  refine Ev.Seat.of_change_and_shaped (C := Tryz.checked) (X := fun w _ => laidMetH Tryz.prog Rows.valueApartRow.laid w) (fun _ _ _ hh h => h.of_heap hh) own started (by kernel_rfl) Tryz.func6
    (ChangeSpec.witness_shaped (enc := enc) (C := Tryz.checked) (os := os) (X := fun w _ => laidMetH Tryz.prog Rows.valueApartRow.laid w) false (World.laidAll Tryz.prog os Rows.valueApartRow.laid) #[.agg #[.int .i64 0, .slice none 0 0], .agg #[.int .i64 0, .int .u64 0, .string ByteArray.empty], .agg #[.int .i64 0, .int .u64 0, .string ByteArray.empty]] 8 (World.laidAll_os _ _ _)
      (World.shaped_of_ZipB (by kernel_rfl) (by kernel_rfl)) (by kernel_rfl) (by kernel_rfl) (by kernel_rfl)
      (by rw [MakeChecks.laidMetH_plain _ _ _ (by kernel_rfl)]; exact laidMet_laidAll _ (by kernel_rfl) (by kernel_rfl))) ?_
  intro W base args ds gs before hval0 hW hcnd hsz0 hL0 hSh _
  have hL := hL0
  rw [MakeChecks.laidMetH_plain _ _ _ (by kernel_rfl)] at hL
  obtain ⟨mm, hmm⟩ := Ev.Seat.maxLen_cell hSh
  have hP := Ev.Seat.pow10_cell hL (by simp [Rows.valueApartRow])
  have hS := Ev.Seat.esyn_cell hL (by simp [Rows.valueApartRow])
  have hE := Ev.Seat.eran_cell hL (by simp [Rows.valueApartRow])
  have hU := Ev.Seat.units_cell hL (by simp [Rows.valueApartRow])
  have hG := Ev.Seat.globals_met (m := mm) hmm hP hS hE hU
  have hsz : (DataW.weightsEach Tryz.prog (Tryz.f6.params.toList ++ Rows.valueApartSpec.plain.varTypes Tryz.prog) (ds ++ gs)).all (· ≤ reachBytes) = true := hsz0
  have hval : ∀ (j : Nat) t v, Tryz.f6.params[j]? = some t → args[j]? = some v → Value.okWide Tryz.prog W .any base t v := hval0
  have hW' := hW
  obtain ⟨p, q, hA0, hV, rfl, hfz, hnd⟩ := hW
  have hA : DataW.TrodAll enc Tryz.prog W 0 (fun _ => true) true Tryz.f6.params.toList args.toList ds p := hA0
  rw [Tryz.params6] at hA hval hsz
  obtain ⟨v0, vs0, d0, ds0, p0, q0, hargs, rfl, rfl, h0, r0⟩ := trodAll_cons hA
  obtain ⟨v1, vs1, d1, ds1, p1, q1, rfl, rfl, rfl, h1, r1⟩ := trodAll_cons r0
  obtain ⟨v2, vs2, d2, ds2, p2, q2, rfl, rfl, rfl, h2, r2⟩ := trodAll_cons r1
  obtain ⟨rfl, rfl, rfl⟩ := trodAll_nil r2
  obtain rfl : args = #[v0, v1, v2] := by cases args; simp_all
  obtain ⟨rfl, rfl⟩ := trodVars_none hV
  have k0 := h0
  have lt0 : ∀ x ∈ p0, x.block < W.heap.size := by obtain ⟨m, hm⟩ := k0; exact DataW.trod_lt m _ _ _ hm
  obtain ⟨cs0, x0, rfl, g0, w0⟩ := Ev.param_struct Tryz.underlying24 opens24 (hval 0 24 v0 rfl rfl) hsz (j := 0) rfl rfl h0
  have k1 := h1
  have lt1 : ∀ x ∈ p1, x.block < W.heap.size := by obtain ⟨m, hm⟩ := k1; exact DataW.trod_lt m _ _ _ hm
  obtain ⟨cs1, x1, rfl, g1, w1⟩ := Ev.param_struct Tryz.underlying27 opens27 (hval 1 27 v1 rfl rfl) hsz (j := 1) rfl rfl h1
  have k2 := h2
  have lt2 : ∀ x ∈ p2, x.block < W.heap.size := by obtain ⟨m, hm⟩ := k2; exact DataW.trod_lt m _ _ _ hm
  obtain ⟨cs2, x2, rfl, g2, w2⟩ := Ev.param_struct Tryz.underlying27 opens27 (hval 2 27 v2 rfl rfl) hsz (j := 2) rfl rfl h2
  refine (calls mm _ x0.version x0.names x1.kind x1.num x1.text x2.kind x2.num x2.text (Va8.ValueApart_row x0 w0 x1 w1 x2 w2) W cs0 g0 cs1 g1 cs2 g2 hG).mono fun e W' ⟨he, bel⟩ => ?_
  subst he
  exact ⟨_, rfl, _, _, _, [], _, [], hW', trodAll_mk1 (shut_bool Tryz.underlying4 _), (trodAll_cons_mk (Below.trod laidOut (by kernel_rfl) (of_decide_eq_true (by kernel_rfl)) k0 bel lt0) (trodAll_cons_mk (Below.trod laidOut (by kernel_rfl) (of_decide_eq_true (by kernel_rfl)) k1 bel lt1) (trodAll_cons_mk (Below.trod laidOut (by kernel_rfl) (of_decide_eq_true (by kernel_rfl)) k2 bel lt2) trodAll_mk0))), rfl, bel.frame _, fun h => by cases h⟩
theorem over : Rows.valueApartRow.holds Tryz.pinned (OpenSpec.ofChange Rows.valueApartSpec) :=
  OpenClaim.holds_of_wide 6 Tryz.f6 rfl rfl rfl rfl rfl rfl rfl ⟨rfl, rfl, rfl, rfl, rfl⟩ rfl rfl rfl rfl rfl (by kernel_rfl) Tryz.func6 (by kernel_rfl)
    (of_decide_eq_true (by kernel_rfl)) (by unfold Func.isWrapper; first | (rw [if_pos (by decide +kernel)]; kernel_rfl) | (rw [if_neg (by decide +kernel)]; exact ⟨rfl, rfl⟩))
    (fun os started H enc _ => lifted os started H enc)
theorem proved : Rows.ValueApartCardSaid :=
  Claim7.holds_tied_plain_at .later [] [.data, .data, .data, .sentinel, .sentinel, .data] true (true, "728f13a68302fb43a0bf473680bd5df1a5a1f564673656637b7cae9cb494131c") true over (fun _ h => by cases h) (by kernel_rfl) (fun _ h => by cases h) valueApart_row_tie rfl ⟨rfl, rfl⟩ (by kernel_rfl) rfl
    (fun f fn hf hfn => by
      obtain rfl : f = 6 := Option.some.inj ((show Tryz.prog.funcNamed "tollbar/tollbarlaw08.ValueApart" = some 6 by kernel_rfl).symm.trans hf) |>.symm
      obtain rfl : fn = Tryz.f6 := (Option.some.inj (Tryz.func6.symm.trans hfn)).symm
      exact ⟨by kernel_rfl, fun j t ht => by
        rw [Tryz.params6] at ht
        have hm : t ∈ [24, 27, 27] := by simpa using Array.mem_of_getElem? ht
        have hall : ([24, 27, 27].all fun u => !Tryz.prog.wantsStandIn u) = true := by kernel_rfl
        exact (show Tryz.prog.wantsStandIn t = false by simpa using List.all_eq_true.1 hall t hm)⟩)
    (by kernel_rfl)
end Go.Proofs.YthmohmmbhjpbcaaGreatDoor.valueApart
namespace Go.Proofs.YthmohmmbhjpbcaaGreatDoor
/-- The card, under a short name, for the claim. -/
theorem valueApart_holds : Rows.ValueApartCardSaid := valueApart.proved
end Go.Proofs.YthmohmmbhjpbcaaGreatDoor
#print axioms Go.Proofs.YthmohmmbhjpbcaaGreatDoor.valueApart_holds

