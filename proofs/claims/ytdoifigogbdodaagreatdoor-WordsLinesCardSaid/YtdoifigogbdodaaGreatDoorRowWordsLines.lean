import Derived.Test.YtdoifigogbdodaaGreatDoorEvRow
import Derived.Test.YtdoifigogbdodaaGreatDoorLawTwo
import Derived.Test.YtdoifigogbdodaaGreatDoorRows
import Derived.Test.YtdoifigogbdodaaGreatDoorTie
import Derived.Test.YtdoifigogbdodaaGreatDoorCards
import Derived.WalkKit
import Derived.ProofKit
import Derived.OpenShut
import Derived.ShutString
import Derived.ChangeOld
import Derived.Below
import Derived.SizedLaws
import Derived.Lay
import Derived.LaidOnce
import Derived.SevenTiedAt
import Derived.MakeChecks
set_option linter.unusedVariables false
set_option linter.unusedSimpArgs false
set_option maxHeartbeats 1000000
namespace Go.Proofs.YtdoifigogbdodaaGreatDoor.wordsLines
open Go.ChangeShapes Go.WideShapes Go.ChangeAt Go.RowKit
open Go.ChangeMaps (open_string shut_string)
theorem own : ownKnob Tryz.prog.godebug = none := by kernel_rfl
theorem laidOut : laidOutB Tryz.prog = true := by kernel_rfl
def wf55 (x : Ev.Seat.ApiStep) : Prop := (x.name.size ≤ 140737488351232) ∧ (x.key.size ≤ 140737488351232)
set_option maxRecDepth 100000 in
theorem opens55 : ∀ N, Ev.OpensF Ev.Seat.C Tryz.prog (Ev.Seat.C.enc 55) (Ev.Seat.C.size 55) 55 wf55 N := by
  intro N
  have h := Ev.opens_struct (C := Ev.Seat.C) Tryz.underlying55 (by kernel_rfl) (Ev.RowF.iso (Ev.row_cons (Ev.opens_string Tryz.underlying9 (by kernel_rfl) N) rfl (Ev.row_last (Ev.opens_string Tryz.underlying9 (by kernel_rfl) N) rfl)) (fun x : Ev.Seat.ApiStep => (x.name, x.key)) (fun x => (⟨x.1, x.2⟩ : Ev.Seat.ApiStep)) (fun _ => rfl))
  exact (Ev.OpensF.mono h (fun _ hx => hx)).le (Nat.le_succ N)
def wf26 (x : Ev.Seat.WordsCmd) : Prop := ((Lit.int .i64 x.kind).wf = true) ∧ ((Lit.int .i64 x.who).wf = true) ∧ (Ev.WfL (Tryz.prog.bytesOf 55) (fun y => wf55 y) x.way) ∧ (x.value.size ≤ 140737488351232) ∧ ((Lit.int .u64 x.n).wf = true) ∧ (True) ∧ (True) ∧ (x.port.size ≤ 140737488351232) ∧ ((Lit.int .u64 x.flow).wf = true) ∧ ((Lit.int .u64 x.size).wf = true) ∧ (Ev.WfL (Tryz.prog.bytesOf 5) (fun y => (Lit.int .u8 y).wf = true) x.data)
set_option maxRecDepth 100000 in
theorem opens26 : ∀ N, Ev.OpensF Ev.Seat.C Tryz.prog (Ev.Seat.C.enc 26) (Ev.Seat.C.size 26) 26 wf26 N := by
  intro N
  have h := Ev.opens_struct (C := Ev.Seat.C) Tryz.underlying26 (by kernel_rfl) (Ev.RowF.iso (Ev.row_cons (Ev.opens_int Tryz.underlying3 (by kernel_rfl) N) rfl (Ev.row_cons (Ev.opens_int Tryz.underlying3 (by kernel_rfl) N) rfl (Ev.row_cons ((Ev.opens_slice (C := Ev.Seat.C) (e := 55) Ev.Seat.C_ok Tryz.underlying22 (by kernel_rfl) (opens55 N)).le (Nat.le_succ N)) rfl (Ev.row_cons (Ev.opens_string Tryz.underlying9 (by kernel_rfl) N) rfl (Ev.row_cons (Ev.opens_int Tryz.underlying23 (by kernel_rfl) N) rfl (Ev.row_cons (Ev.opens_bool Tryz.underlying4 (by kernel_rfl) N) rfl (Ev.row_cons (Ev.opens_bool Tryz.underlying4 (by kernel_rfl) N) rfl (Ev.row_cons (Ev.opens_string Tryz.underlying9 (by kernel_rfl) N) rfl (Ev.row_cons (Ev.opens_int Tryz.underlying23 (by kernel_rfl) N) rfl (Ev.row_cons (Ev.opens_int Tryz.underlying23 (by kernel_rfl) N) rfl (Ev.row_last ((Ev.opens_slice (C := Ev.Seat.C) (e := 5) Ev.Seat.C_ok Tryz.underlying24 (by kernel_rfl) ((fun N => (Ev.opens_int Tryz.underlying5 (by kernel_rfl) N)) N)).le (Nat.le_succ N)) rfl))))))))))) (fun x : Ev.Seat.WordsCmd => (x.kind, x.who, x.way, x.value, x.n, x.running, x.asBytes, x.port, x.flow, x.size, x.data)) (fun x => (⟨x.1, x.2.1, x.2.2.1, x.2.2.2.1, x.2.2.2.2.1, x.2.2.2.2.2.1, x.2.2.2.2.2.2.1, x.2.2.2.2.2.2.2.1, x.2.2.2.2.2.2.2.2.1, x.2.2.2.2.2.2.2.2.2.1, x.2.2.2.2.2.2.2.2.2.2⟩ : Ev.Seat.WordsCmd)) (fun _ => rfl))
  exact (Ev.OpensF.mono h (fun _ hx => hx)).le (Nat.le_succ N)
theorem calls (m : Int) (K : Nat) (a0_0 : Int) (a0_1 : Int) (a0_2 : List (Ev.Seat.ApiStep)) (a0_3 : ByteArray) (a0_4 : Int) (a0_5 : Bool) (a0_6 : Bool) (a0_7 : ByteArray) (a0_8 : Int) (a0_9 : Int) (a0_10 : List (Int)) (a1_0 : Int) (a1_1 : Int) (a1_2 : List (Ev.Seat.ApiStep)) (a1_3 : ByteArray) (a1_4 : Int) (a1_5 : Bool) (a1_6 : Bool) (a1_7 : ByteArray) (a1_8 : Int) (a1_9 : Int) (a1_10 : List (Int)) (hp : Ev.Seat.l33_WordsLines K a0_0 a0_1 a0_2 a0_3 a0_4 a0_5 a0_6 a0_7 a0_8 a0_9 a0_10 a1_0 a1_1 a1_2 a1_3 a1_4 a1_5 a1_6 a1_7 a1_8 a1_9 a1_10 = some true) (W : World) (cs0 : Array Value) (q0 : Ev.RepVs Ev.Seat.C W [.i .i64 a0_0, .i .i64 a0_1, .sl 55 a0_2, .s a0_3, .i .u64 a0_4, .b a0_5, .b a0_6, .s a0_7, .i .u64 a0_8, .i .u64 a0_9, .sl 5 a0_10] cs0.toList) (cs1 : Array Value) (q1 : Ev.RepVs Ev.Seat.C W [.i .i64 a1_0, .i .i64 a1_1, .sl 55 a1_2, .s a1_3, .i .u64 a1_4, .b a1_5, .b a1_6, .s a1_7, .i .u64 a1_8, .i .u64 a1_9, .sl 5 a1_10] cs1.toList) (hG : ∀ g l, Ev.Seat.G m g = some l → Ev.RepCs Ev.Seat.C (Ev.Cell Ev.Seat.C ⟨fun _ => none, fun _ _ => False⟩ ([] : List (Ev.AObj Ev.Seat.T)) W) l g 0) : Calls Tryz.prog 3 #[.agg cs0, .agg cs1] W fun e W' => e = .returned (.bool true) ∧ Below W.heap.size W W' := by
  have he : (Ev.Seat.sp_l33_WordsLines.entry (fun (a0_0, a0_1, a0_2, a0_3, a0_4, a0_5, a0_6, a0_7, a0_8, a0_9, a0_10, a1_0, a1_1, a1_2, a1_3, a1_4, a1_5, a1_6, a1_7, a1_8, a1_9, a1_10) => Ev.Seat.l33_WordsLines K a0_0 a0_1 a0_2 a0_3 a0_4 a0_5 a0_6 a0_7 a0_8 a0_9 a0_10 a1_0 a1_1 a1_2 a1_3 a1_4 a1_5 a1_6 a1_7 a1_8 a1_9 a1_10)) (Ev.Out Ev.Seat.T) [.agg [.v (.i .i64 a0_0), .v (.i .i64 a0_1), .v (.sl 55 a0_2), .v (.s a0_3), .v (.i .u64 a0_4), .v (.b a0_5), .v (.b a0_6), .v (.s a0_7), .v (.i .u64 a0_8), .v (.i .u64 a0_9), .v (.sl 5 a0_10)], .agg [.v (.i .i64 a1_0), .v (.i .i64 a1_1), .v (.sl 55 a1_2), .v (.s a1_3), .v (.i .u64 a1_4), .v (.b a1_5), .v (.b a1_6), .v (.s a1_7), .v (.i .u64 a1_8), .v (.i .u64 a1_9), .v (.sl 5 a1_10)]] [] some = some (.ret (.v (.b true)) []) := by
    exact Ev.Seat.entry_of (i := (a0_0, a0_1, a0_2, a0_3, a0_4, a0_5, a0_6, a0_7, a0_8, a0_9, a0_10, a1_0, a1_1, a1_2, a1_3, a1_4, a1_5, a1_6, a1_7, a1_8, a1_9, a1_10)) (x := true) rfl hp rfl
  have hR : Ev.RepL Ev.Seat.C ⟨fun _ => none, fun _ _ => False⟩ ([] : List (Ev.AObj Ev.Seat.T)) W [.agg [.v (.i .i64 a0_0), .v (.i .i64 a0_1), .v (.sl 55 a0_2), .v (.s a0_3), .v (.i .u64 a0_4), .v (.b a0_5), .v (.b a0_6), .v (.s a0_7), .v (.i .u64 a0_8), .v (.i .u64 a0_9), .v (.sl 5 a0_10)], .agg [.v (.i .i64 a1_0), .v (.i .i64 a1_1), .v (.sl 55 a1_2), .v (.s a1_3), .v (.i .u64 a1_4), .v (.b a1_5), .v (.b a1_6), .v (.s a1_7), .v (.i .u64 a1_8), .v (.i .u64 a1_9), .v (.sl 5 a1_10)]] [.agg cs0, .agg cs1] := ⟨_, _, rfl, ⟨_, rfl, Ev.repL_start q0⟩, ⟨_, _, rfl, ⟨_, rfl, Ev.repL_start q1⟩, rfl⟩⟩
  refine (Ev.calls_of_eok (Ev.Seat.ok_l33_WordsLines K m) (fun vs w => Ev.callable Tryz.func3 (c := Ev.getBody Tryz.f3) (by kernel_rfl) (by kernel_rfl) vs w) he hG hR).mono fun e W' ⟨bel, out, σ', H', ho, hout⟩ => ?_
  cases ho
  obtain ⟨_, v, rfl, hv⟩ := hout
  cases hv
  exact ⟨rfl, bel⟩
set_option maxRecDepth 100000 in
theorem lifted (os : Os) (started : os.Started) (H : Type) (enc : TypeId × Value → H) :
    ReturnsInHanded {} Tryz.checked os 3 .any (fun w args => (Rows.wordsLinesSpec.pre enc Tryz.prog Tryz.f3 Rows.wordsLinesRow.domain false w args ∧ laidMetH Tryz.prog Rows.wordsLinesRow.laid w) ∧ sizedMet enc Tryz.prog Tryz.f3 (OpenSpec.ofChange Rows.wordsLinesSpec) false w args) (Rows.wordsLinesSpec.post enc Tryz.prog Tryz.f3 false true false false) := by
  refine Ev.Seat.of_change_and_shaped (C := Tryz.checked) (X := fun w _ => laidMetH Tryz.prog Rows.wordsLinesRow.laid w) (fun _ _ _ hh h => h.of_heap hh) own started (by kernel_rfl) Tryz.func3
    (ChangeSpec.witness_shaped (enc := enc) (C := Tryz.checked) (os := os) (X := fun w _ => laidMetH Tryz.prog Rows.wordsLinesRow.laid w) false (World.laidAll Tryz.prog os Rows.wordsLinesRow.laid) #[.agg #[.int .i64 0, .int .i64 0, .slice none 0 0, .string ByteArray.empty, .int .u64 0, .bool false, .bool false, .string ByteArray.empty, .int .u64 0, .int .u64 0, .slice none 0 0], .agg #[.int .i64 0, .int .i64 0, .slice none 0 0, .string ByteArray.empty, .int .u64 0, .bool false, .bool false, .string ByteArray.empty, .int .u64 0, .int .u64 0, .slice none 0 0]] 8 (World.laidAll_os _ _ _)
      (World.shaped_of_ZipB (by kernel_rfl) (by kernel_rfl)) (by kernel_rfl) (by kernel_rfl) (by kernel_rfl)
      (by rw [MakeChecks.laidMetH_plain _ _ _ (by kernel_rfl)]; exact laidMet_laidAll _ (by kernel_rfl) (by kernel_rfl))) ?_
  intro W base args ds gs before hval0 hW hcnd hsz0 hL0 hSh _
  have hL := hL0
  rw [MakeChecks.laidMetH_plain _ _ _ (by kernel_rfl)] at hL
  obtain ⟨mm, hmm⟩ := Ev.Seat.maxLen_cell hSh
  have hT := Ev.Seat.tabs_of_laid hL (by simp [Rows.wordsLinesRow]) (by simp [Rows.wordsLinesRow])
  have hP := Ev.Seat.pow10_cell hL (by simp [Rows.wordsLinesRow])
  have hS := Ev.Seat.esyn_cell hL (by simp [Rows.wordsLinesRow])
  have hE := Ev.Seat.eran_cell hL (by simp [Rows.wordsLinesRow])
  have hG := Ev.Seat.globals_met (m := mm) hT hmm hP hS hE
  have hsz : (DataW.weightsEach Tryz.prog (Tryz.f3.params.toList ++ Rows.wordsLinesSpec.plain.varTypes Tryz.prog) (ds ++ gs)).all (· ≤ reachBytes) = true := hsz0
  have hval : ∀ (j : Nat) t v, Tryz.f3.params[j]? = some t → args[j]? = some v → Value.okWide Tryz.prog W .any base t v := hval0
  have hW' := hW
  obtain ⟨p, q, hA0, hV, rfl, hfz, hnd⟩ := hW
  have hA : DataW.TrodAll enc Tryz.prog W 0 (fun _ => true) true Tryz.f3.params.toList args.toList ds p := hA0
  rw [Tryz.params3] at hA hval hsz
  obtain ⟨v0, vs0, d0, ds0, p0, q0, hargs, rfl, rfl, h0, r0⟩ := trodAll_cons hA
  obtain ⟨v1, vs1, d1, ds1, p1, q1, rfl, rfl, rfl, h1, r1⟩ := trodAll_cons r0
  obtain ⟨rfl, rfl, rfl⟩ := trodAll_nil r1
  obtain rfl : args = #[v0, v1] := by cases args; simp_all
  obtain ⟨rfl, rfl⟩ := trodVars_none hV
  have k0 := h0
  have lt0 : ∀ x ∈ p0, x.block < W.heap.size := by obtain ⟨m, hm⟩ := k0; exact DataW.trod_lt m _ _ _ hm
  obtain ⟨cs0, x0, rfl, g0, w0⟩ := Ev.param_struct Tryz.underlying26 opens26 (hval 0 26 v0 rfl rfl) hsz (j := 0) rfl rfl h0
  have k1 := h1
  have lt1 : ∀ x ∈ p1, x.block < W.heap.size := by obtain ⟨m, hm⟩ := k1; exact DataW.trod_lt m _ _ _ hm
  obtain ⟨cs1, x1, rfl, g1, w1⟩ := Ev.param_struct Tryz.underlying26 opens26 (hval 1 26 v1 rfl rfl) hsz (j := 1) rfl rfl h1
  refine (calls mm _ x0.kind x0.who x0.way x0.value x0.n x0.running x0.asBytes x0.port x0.flow x0.size x0.data x1.kind x1.who x1.way x1.value x1.n x1.running x1.asBytes x1.port x1.flow x1.size x1.data (Wo.WordsLines_row x0 w0 x1 w1) W cs0 g0 cs1 g1 hG).mono fun e W' ⟨he, bel⟩ => ?_
  subst he
  exact ⟨_, rfl, _, _, _, [], _, [], hW', trodAll_mk1 (shut_bool Tryz.underlying4 _), (trodAll_cons_mk (Below.trod laidOut (by kernel_rfl) (of_decide_eq_true (by kernel_rfl)) k0 bel lt0) (trodAll_cons_mk (Below.trod laidOut (by kernel_rfl) (of_decide_eq_true (by kernel_rfl)) k1 bel lt1) trodAll_mk0)), rfl, bel.frame _, fun h => by cases h⟩
theorem over : Rows.wordsLinesRow.holds Tryz.pinned (OpenSpec.ofChange Rows.wordsLinesSpec) :=
  OpenClaim.holds_of_wide 3 Tryz.f3 rfl rfl rfl rfl rfl rfl rfl ⟨rfl, rfl, rfl, rfl, rfl⟩ rfl rfl rfl rfl rfl (by kernel_rfl) Tryz.func3 (by kernel_rfl)
    (of_decide_eq_true (by kernel_rfl)) (by unfold Func.isWrapper; first | (rw [if_pos (by decide +kernel)]; kernel_rfl) | (rw [if_neg (by decide +kernel)]; exact ⟨rfl, rfl⟩))
    (fun os started H enc _ => lifted os started H enc)
theorem proved : Rows.WordsLinesCardSaid :=
  Claim7.holds_tied_plain_at .later [] [.data, .data, .data, .data, .sentinel, .sentinel, .pinned] true (true, "6ed3d3cfc73d228c521729e8d84883bf7d531e87e75554a7720933ea51646b60") true over (fun _ h => by cases h) (by kernel_rfl) (fun _ h => by cases h) wordsLines_row_tie rfl ⟨rfl, rfl⟩ (by kernel_rfl) rfl
    (fun f fn hf hfn => by
      obtain rfl : f = 3 := Option.some.inj ((show Tryz.prog.funcNamed "tollbar/tollbarlaw33.WordsLines" = some 3 by kernel_rfl).symm.trans hf) |>.symm
      obtain rfl : fn = Tryz.f3 := (Option.some.inj (Tryz.func3.symm.trans hfn)).symm
      exact ⟨by kernel_rfl, fun j t ht => by
        rw [Tryz.params3] at ht
        have hm : t ∈ [26, 26] := by simpa using Array.mem_of_getElem? ht
        have hall : ([26, 26].all fun u => !Tryz.prog.wantsStandIn u) = true := by kernel_rfl
        exact (show Tryz.prog.wantsStandIn t = false by simpa using List.all_eq_true.1 hall t hm)⟩)
    (by kernel_rfl)
end Go.Proofs.YtdoifigogbdodaaGreatDoor.wordsLines
namespace Go.Proofs.YtdoifigogbdodaaGreatDoor
/-- The card, under a short name, for the claim. -/
theorem wordsLines_holds : Rows.WordsLinesCardSaid := wordsLines.proved
end Go.Proofs.YtdoifigogbdodaaGreatDoor
#print axioms Go.Proofs.YtdoifigogbdodaaGreatDoor.wordsLines_holds

