import Derived.Test.YtooefkbecoopdaaDoorEvRow
import Derived.Test.YtooefkbecoopdaaDoorLawOne
import Derived.Test.YtooefkbecoopdaaDoorRows
import Derived.Test.YtooefkbecoopdaaDoorTie
import Derived.Test.YtooefkbecoopdaaDoorCards
import Derived.WalkKit
import Derived.ProofKit
import Derived.OpenShut
import Derived.ShutString
import Derived.ChangeOld
import Derived.Below
import Derived.SizedLaws
import Derived.Lay
import Derived.LaidOnce
import Derived.SevenTiedAt
import Derived.MakeChecks
set_option linter.unusedVariables false
set_option linter.unusedSimpArgs false
namespace Go.Proofs.YtooefkbecoopdaaDoor.pathShows
open Go.ChangeShapes Go.WideShapes Go.ChangeAt Go.RowKit
open Go.ChangeMaps (open_string shut_string)
theorem own : ownKnob Tryd.prog.godebug = none := by kernel_rfl
theorem laidOut : laidOutB Tryd.prog = true := by kernel_rfl
def wf46 (x : Ev.Seat.ApiStep) : Prop := (x.name.size ≤ 140737488351232) ∧ (x.key.size ≤ 140737488351232)
set_option maxRecDepth 100000 in
theorem opens46 : ∀ N, Ev.OpensF Ev.Seat.C Tryd.prog (Ev.Seat.C.enc 46) (Ev.Seat.C.size 46) 46 wf46 N := by
  intro N
  have h := Ev.opens_struct (C := Ev.Seat.C) Tryd.underlying46 (by kernel_rfl) (Ev.RowF.iso (Ev.row_cons (Ev.opens_string Tryd.underlying9 (by kernel_rfl) N) rfl (Ev.row_last (Ev.opens_string Tryd.underlying9 (by kernel_rfl) N) rfl)) (fun x : Ev.Seat.ApiStep => (x.name, x.key)) (fun x => (⟨x.1, x.2⟩ : Ev.Seat.ApiStep)) (fun _ => rfl))
  exact (Ev.OpensF.mono h (fun _ hx => hx)).le (Nat.le_succ N)
theorem calls (m : Int) (K : Nat) (a0 : Int) (a1 : List (Ev.Seat.ApiStep)) (a2 : List (Ev.Seat.ApiStep)) (hp : Ev.Seat.tollbarlaw15_PathShows K a0 a1 a2 = some true) (W : World) (v1 : Value) (q1 : Ev.RepV Ev.Seat.C (Ev.CW W) (.sl 46 a1) v1) (v2 : Value) (q2 : Ev.RepV Ev.Seat.C (Ev.CW W) (.sl 46 a2) v2) (hG : ∀ g l, Ev.Seat.G m g = some l → Ev.RepCs Ev.Seat.C (Ev.Cell Ev.Seat.C ⟨fun _ => none, fun _ _ => False⟩ ([] : List (Ev.AObj Ev.Seat.T)) W) l g 0) : Calls Tryd.prog 3 #[.int .i64 a0, v1, v2] W fun e W' => e = .returned (.bool true) ∧ Below W.heap.size W W' := by
  have he : (Ev.Seat.sp_tollbarlaw15_PathShows.entry (fun (a0, a1, a2) => Ev.Seat.tollbarlaw15_PathShows K a0 a1 a2)) (Ev.Out Ev.Seat.T) [.v (.i .i64 a0), .v (.sl 46 a1), .v (.sl 46 a2)] [] some = some (.ret (.v (.b true)) []) := by
    exact Ev.Seat.entry_of (i := (a0, a1, a2)) (x := true) rfl hp rfl
  have hR : Ev.RepL Ev.Seat.C ⟨fun _ => none, fun _ _ => False⟩ ([] : List (Ev.AObj Ev.Seat.T)) W [.v (.i .i64 a0), .v (.sl 46 a1), .v (.sl 46 a2)] [.int .i64 a0, v1, v2] := ⟨_, _, rfl, .i _ _, ⟨_, _, rfl, Ev.repV_start q1, ⟨_, _, rfl, Ev.repV_start q2, rfl⟩⟩⟩
  refine (Ev.calls_of_eok (Ev.Seat.ok_tollbarlaw15_PathShows K m) (fun vs w => Ev.callable Tryd.func3 (c := Ev.getBody Tryd.f3) (by kernel_rfl) (by kernel_rfl) vs w) he hG hR).mono fun e W' ⟨bel, out, σ', H', ho, hout⟩ => ?_
  cases ho
  obtain ⟨_, v, rfl, hv⟩ := hout
  cases hv
  exact ⟨rfl, bel⟩
set_option maxRecDepth 100000 in
theorem lifted (os : Os) (started : os.Started) (H : Type) (enc : TypeId × Value → H) :
    ReturnsInHanded {} Tryd.checked os 3 .any (fun w args => (Rows.pathShowsSpec.pre enc Tryd.prog Tryd.f3 Rows.pathShowsRow.domain false w args ∧ laidMetH Tryd.prog Rows.pathShowsRow.laid w) ∧ sizedMet enc Tryd.prog Tryd.f3 (OpenSpec.ofChange Rows.pathShowsSpec) false w args) (Rows.pathShowsSpec.post enc Tryd.prog Tryd.f3 false true false false) := by
  refine Ev.Seat.of_change_and_shaped (C := Tryd.checked) (X := fun w _ => laidMetH Tryd.prog Rows.pathShowsRow.laid w) (fun _ _ _ hh h => h.of_heap hh) own started (by kernel_rfl) Tryd.func3
    (ChangeSpec.witness_shaped (enc := enc) (C := Tryd.checked) (os := os) (X := fun w _ => laidMetH Tryd.prog Rows.pathShowsRow.laid w) false (World.laidAll Tryd.prog os Rows.pathShowsRow.laid) #[.int .i64 0, .slice none 0 0, .slice none 0 0] 8 (World.laidAll_os _ _ _)
      (World.shaped_of_ZipB (by kernel_rfl) (by kernel_rfl)) (by kernel_rfl) (by kernel_rfl) (by kernel_rfl)
      (by rw [MakeChecks.laidMetH_plain _ _ _ (by kernel_rfl)]; exact laidMet_laidAll _ (by kernel_rfl) (by kernel_rfl))) ?_
  intro W base args ds gs before hval0 hW hcnd hsz0 hL0 hSh _
  have hL := hL0
  rw [MakeChecks.laidMetH_plain _ _ _ (by kernel_rfl)] at hL
  obtain ⟨mm, hmm⟩ := Ev.Seat.maxLen_cell hSh
  have hT := Ev.Seat.tabs_of_laid hL (by simp [Rows.pathShowsRow]) (by simp [Rows.pathShowsRow])
  have hG := Ev.Seat.globals_met (m := mm) hT hmm
  have hsz : (DataW.weightsEach Tryd.prog (Tryd.f3.params.toList ++ Rows.pathShowsSpec.plain.varTypes Tryd.prog) (ds ++ gs)).all (· ≤ reachBytes) = true := hsz0
  have hval : ∀ (j : Nat) t v, Tryd.f3.params[j]? = some t → args[j]? = some v → Value.okWide Tryd.prog W .any base t v := hval0
  have hW' := hW
  obtain ⟨p, q, hA0, hV, rfl, hfz, hnd⟩ := hW
  have hA : DataW.TrodAll enc Tryd.prog W 0 (fun _ => true) true Tryd.f3.params.toList args.toList ds p := hA0
  rw [Tryd.params3] at hA hval hsz
  obtain ⟨v0, vs0, d0, ds0, p0, q0, hargs, rfl, rfl, h0, r0⟩ := trodAll_cons hA
  obtain ⟨v1, vs1, d1, ds1, p1, q1, rfl, rfl, rfl, h1, r1⟩ := trodAll_cons r0
  obtain ⟨v2, vs2, d2, ds2, p2, q2, rfl, rfl, rfl, h2, r2⟩ := trodAll_cons r1
  obtain ⟨rfl, rfl, rfl⟩ := trodAll_nil r2
  obtain rfl : args = #[v0, v1, v2] := by cases args; simp_all
  obtain ⟨rfl, rfl⟩ := trodVars_none hV
  obtain ⟨a0, rfl, rfl, rfl, w0⟩ := open_int Tryd.underlying3 (hval 0 3 v0 rfl rfl) h0
  have k1 := h1
  have lt1 : ∀ x ∈ p1, x.block < W.heap.size := by obtain ⟨m, hm⟩ := k1; exact DataW.trod_lt m _ _ _ hm
  obtain ⟨a1, g1, w1⟩ := Ev.param_slice Ev.Seat.C_ok Tryd.underlying22 opens46 (hval 1 22 v1 rfl rfl) hsz (j := 1) rfl rfl h1
  have k2 := h2
  have lt2 : ∀ x ∈ p2, x.block < W.heap.size := by obtain ⟨m, hm⟩ := k2; exact DataW.trod_lt m _ _ _ hm
  obtain ⟨a2, g2, w2⟩ := Ev.param_slice Ev.Seat.C_ok Tryd.underlying22 opens46 (hval 2 22 v2 rfl rfl) hsz (j := 2) rfl rfl h2
  refine (calls mm _ a0 a1 a2 (Pa15.PathShows_row a0 w0 a1 w1 a2 w2) W v1 g1 v2 g2 hG).mono fun e W' ⟨he, bel⟩ => ?_
  subst he
  exact ⟨_, rfl, _, _, _, [], _, [], hW', trodAll_mk1 (shut_bool Tryd.underlying4 _), (trodAll_cons_mk (shut_int Tryd.underlying3 w0) (trodAll_cons_mk (Below.trod laidOut (by kernel_rfl) (of_decide_eq_true (by kernel_rfl)) k1 bel lt1) (trodAll_cons_mk (Below.trod laidOut (by kernel_rfl) (of_decide_eq_true (by kernel_rfl)) k2 bel lt2) trodAll_mk0))), rfl, bel.frame _, fun h => by cases h⟩
theorem over : Rows.pathShowsRow.holds Tryd.pinned (OpenSpec.ofChange Rows.pathShowsSpec) :=
  OpenClaim.holds_of_wide 3 Tryd.f3 rfl rfl rfl rfl rfl rfl rfl ⟨rfl, rfl, rfl, rfl, rfl⟩ rfl rfl rfl rfl rfl (by kernel_rfl) Tryd.func3 (by kernel_rfl)
    (of_decide_eq_true (by kernel_rfl)) (by unfold Func.isWrapper; first | (rw [if_pos (by decide +kernel)]; kernel_rfl) | (rw [if_neg (by decide +kernel)]; exact ⟨rfl, rfl⟩))
    (fun os started H enc _ => lifted os started H enc)
theorem proved : Rows.PathShowsCardSaid :=
  Claim7.holds_tied_plain_at .later [] [.data, .pinned] true (true, "f714fc7eb65ff91713e6b320bab7176fb35a1f1d846c41cc29dba627da83727f") false over (fun _ h => by cases h) (by kernel_rfl) (fun _ h => by cases h) pathShows_row_tie rfl ⟨rfl, rfl⟩ (by kernel_rfl) rfl
    (fun f fn hf hfn => by
      obtain rfl : f = 3 := Option.some.inj ((show Tryd.prog.funcNamed "tollbar/tollbarlaw15.PathShows" = some 3 by kernel_rfl).symm.trans hf) |>.symm
      obtain rfl : fn = Tryd.f3 := (Option.some.inj (Tryd.func3.symm.trans hfn)).symm
      exact ⟨by kernel_rfl, fun j t ht => by
        rw [Tryd.params3] at ht
        have hm : t ∈ [3, 22, 22] := by simpa using Array.mem_of_getElem? ht
        have hall : ([3, 22, 22].all fun u => !Tryd.prog.wantsStandIn u) = true := by kernel_rfl
        exact (show Tryd.prog.wantsStandIn t = false by simpa using List.all_eq_true.1 hall t hm)⟩)
    (by kernel_rfl)
end Go.Proofs.YtooefkbecoopdaaDoor.pathShows
namespace Go.Proofs.YtooefkbecoopdaaDoor
/-- The card, under a short name, for the claim. -/
theorem pathShows_holds : Rows.PathShowsCardSaid := pathShows.proved
end Go.Proofs.YtooefkbecoopdaaDoor
#print axioms Go.Proofs.YtooefkbecoopdaaDoor.pathShows_holds

