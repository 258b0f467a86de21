-- laid by a program of this session (pp.sh) out of the translation
import Derived.Test.YtdlkjcginamemaaDoorQScalarx0
import Derived.Test.YtdlkjcginamemaaDoorQScalarx1
import Derived.Test.YtdlkjcginamemaaDoorQScalarx3
namespace Go.Proofs.YtdlkjcginamemaaDoor.QScalar
open Go.RowKit Go.Proofs.YtdlkjcginamemaaDoorW.PrintWords Go.Proofs.YtdlkjcginamemaaDoorW.PrintLast Go.Proofs.YtdlkjcginamemaaDoorW.PrintMore
open Go.Proofs.YtdlkjcginamemaaDoor.Scalar (G gOf)
attribute [local go_sem] max2_int min2_int max_two min_two max_three min_three max_four min_four   -- for this text's walks alone
set_option linter.unusedVariables false
set_option linter.unusedSimpArgs false

/-! ### tollbarlaw06_ScalarShows: function 4 -/
def tollbarlaw06_ScalarShows.f (k : Nat) (a0 : Int) : Option (Bool) := (tollbarlaw06_awake.f).bind fun t139 => (if t139 = true then ((scalar_ShowUint.f a0).bind fun t140 => ((scalar_Uint.f t140).bind fun bt141 => ((scalar_ShowRate.f a0).bind fun t143 => ((scalar_Rate.f t143).bind fun bt144 => ((scalar_ShowUint.f a0).bind fun t146 => ((tollbarref06_ShowUint.f k a0).bind fun t147 => (if t146.toList = t147.toList then ((scalar_ShowRate.f a0).bind fun t148 => ((tollbarref06_ShowRate.f k a0).bind fun t149 => (if t148.toList = t149.toList then (if bt141.1 = a0 then (if bt141.2 = true then (if bt144.1 = a0 then (some bt144.2) else (some false)) else (some false)) else (some false)) else (some false)))) else (some false)))))))) else (some false))
theorem tollbarlaw06_ScalarShows.mono : ∀ a0 k, LeO (tollbarlaw06_ScalarShows.f k a0) (tollbarlaw06_ScalarShows.f (k + 1) a0) := by
  intro a0 k
  unfold tollbarlaw06_ScalarShows.f
  repeat' first
      | (with_reducible exact tollbarref06_ShowRate.mono _ _)
      | (with_reducible exact tollbarref06_ShowUint.mono _ _)
      | (with_reducible exact LeO.refl _)
      | (with_reducible exact LeO.none _)
      | (with_reducible refine LeO.ite ?_ ?_)
      | (with_reducible refine LeO.bind ?_ (fun _ => ?_))
      | exact tollbarref06_ShowRate.mono _ _
      | exact tollbarref06_ShowUint.mono _ _
      | exact LeO.none _
      | refine LeO.ite ?_ ?_
      | refine LeO.bind ?_ (fun _ => ?_)
set_option maxHeartbeats 8000000 in
set_option maxRecDepth 100000 in
theorem tollbarlaw06_ScalarShows.calls (k : Nat) (a0 : Int) (r : Bool) (w : World) (hG : G w) (h : tollbarlaw06_ScalarShows.f k a0 = some r) :
    Calls Tryd.prog 4 #[.int .u64 a0] w fun e w' => e = .returned (.bool r) ∧ Below w.heap.size w w' := by
  have HG0 := Aside0.mk hG
  clear hG
  have HB := Aside0.mk (Below.refl w.heap.size w)
  have H : ((tollbarlaw06_awake.f).bind fun t139 => (if t139 = true then ((scalar_ShowUint.f a0).bind fun t140 => ((scalar_Uint.f t140).bind fun bt141 => ((scalar_ShowRate.f a0).bind fun t143 => ((scalar_Rate.f t143).bind fun bt144 => ((scalar_ShowUint.f a0).bind fun t146 => ((tollbarref06_ShowUint.f k a0).bind fun t147 => (if t146.toList = t147.toList then ((scalar_ShowRate.f a0).bind fun t148 => ((tollbarref06_ShowRate.f k a0).bind fun t149 => (if t148.toList = t149.toList then (if bt141.1 = a0 then (if bt141.2 = true then (if bt144.1 = a0 then (some bt144.2) else (some false)) else (some false)) else (some false)) else (some false)))) else (some false)))))))) else (some false))) = some r := h
  clear h
  replace H := Option.bind_eq_some_iff.mp H
  obtain ⟨t139, A20, H⟩ := H
  replace H : (if t139 = true then ((scalar_ShowUint.f a0).bind fun t140 => ((scalar_Uint.f t140).bind fun bt141 => ((scalar_ShowRate.f a0).bind fun t143 => ((scalar_Rate.f t143).bind fun bt144 => ((scalar_ShowUint.f a0).bind fun t146 => ((tollbarref06_ShowUint.f k a0).bind fun t147 => (if t146.toList = t147.toList then ((scalar_ShowRate.f a0).bind fun t148 => ((tollbarref06_ShowRate.f k a0).bind fun t149 => (if t148.toList = t149.toList then (if bt141.1 = a0 then (if bt141.2 = true then (if bt144.1 = a0 then (some bt144.2) else (some false)) else (some false)) else (some false)) else (some false)))) else (some false)))))))) else (some false)) = some r := H
  have A2 := Aside0.mk A20
  clear A20
  by_cases c3 : t139 = true
  · subst c3
    have H1 : ((scalar_ShowUint.f a0).bind fun t140 => ((scalar_Uint.f t140).bind fun bt141 => ((scalar_ShowRate.f a0).bind fun t143 => ((scalar_Rate.f t143).bind fun bt144 => ((scalar_ShowUint.f a0).bind fun t146 => ((tollbarref06_ShowUint.f k a0).bind fun t147 => (if t146.toList = t147.toList then ((scalar_ShowRate.f a0).bind fun t148 => ((tollbarref06_ShowRate.f k a0).bind fun t149 => (if t148.toList = t149.toList then (if bt141.1 = a0 then (if bt141.2 = true then (if bt144.1 = a0 then (some bt144.2) else (some false)) else (some false)) else (some false)) else (some false)))) else (some false)))))))) = some r := by rw [if_pos rfl] at H; exact H
    clear H
    have H := H1
    clear H1
    replace H := Option.bind_eq_some_iff.mp H
    obtain ⟨t140, A40, H⟩ := H
    replace H : ((scalar_Uint.f t140).bind fun bt141 => ((scalar_ShowRate.f a0).bind fun t143 => ((scalar_Rate.f t143).bind fun bt144 => ((scalar_ShowUint.f a0).bind fun t146 => ((tollbarref06_ShowUint.f k a0).bind fun t147 => (if t146.toList = t147.toList then ((scalar_ShowRate.f a0).bind fun t148 => ((tollbarref06_ShowRate.f k a0).bind fun t149 => (if t148.toList = t149.toList then (if bt141.1 = a0 then (if bt141.2 = true then (if bt144.1 = a0 then (some bt144.2) else (some false)) else (some false)) else (some false)) else (some false)))) else (some false))))))) = some r := H
    have A4 := Aside0.mk A40
    clear A40
    replace H := Option.bind_eq_some_iff.mp H
    obtain ⟨⟨t141, t142⟩, A50, H⟩ := H
    replace H : ((scalar_ShowRate.f a0).bind fun t143 => ((scalar_Rate.f t143).bind fun bt144 => ((scalar_ShowUint.f a0).bind fun t146 => ((tollbarref06_ShowUint.f k a0).bind fun t147 => (if t146.toList = t147.toList then ((scalar_ShowRate.f a0).bind fun t148 => ((tollbarref06_ShowRate.f k a0).bind fun t149 => (if t148.toList = t149.toList then (if t141 = a0 then (if t142 = true then (if bt144.1 = a0 then (some bt144.2) else (some false)) else (some false)) else (some false)) else (some false)))) else (some false)))))) = some r := H
    have A5 := Aside0.mk A50
    clear A50
    replace H := Option.bind_eq_some_iff.mp H
    obtain ⟨t143, A60, H⟩ := H
    replace H : ((scalar_Rate.f t143).bind fun bt144 => ((scalar_ShowUint.f a0).bind fun t146 => ((tollbarref06_ShowUint.f k a0).bind fun t147 => (if t146.toList = t147.toList then ((scalar_ShowRate.f a0).bind fun t148 => ((tollbarref06_ShowRate.f k a0).bind fun t149 => (if t148.toList = t149.toList then (if t141 = a0 then (if t142 = true then (if bt144.1 = a0 then (some bt144.2) else (some false)) else (some false)) else (some false)) else (some false)))) else (some false))))) = some r := H
    have A6 := Aside0.mk A60
    clear A60
    replace H := Option.bind_eq_some_iff.mp H
    obtain ⟨⟨t144, t145⟩, A70, H⟩ := H
    replace H : ((scalar_ShowUint.f a0).bind fun t146 => ((tollbarref06_ShowUint.f k a0).bind fun t147 => (if t146.toList = t147.toList then ((scalar_ShowRate.f a0).bind fun t148 => ((tollbarref06_ShowRate.f k a0).bind fun t149 => (if t148.toList = t149.toList then (if t141 = a0 then (if t142 = true then (if t144 = a0 then (some t145) else (some false)) else (some false)) else (some false)) else (some false)))) else (some false)))) = some r := H
    have A7 := Aside0.mk A70
    clear A70
    replace H := Option.bind_eq_some_iff.mp H
    obtain ⟨t146, A80, H⟩ := H
    replace H : ((tollbarref06_ShowUint.f k a0).bind fun t147 => (if t146.toList = t147.toList then ((scalar_ShowRate.f a0).bind fun t148 => ((tollbarref06_ShowRate.f k a0).bind fun t149 => (if t148.toList = t149.toList then (if t141 = a0 then (if t142 = true then (if t144 = a0 then (some t145) else (some false)) else (some false)) else (some false)) else (some false)))) else (some false))) = some r := H
    have A8 := Aside0.mk A80
    clear A80
    replace H := Option.bind_eq_some_iff.mp H
    obtain ⟨t147, A90, H⟩ := H
    replace H : (if t146.toList = t147.toList then ((scalar_ShowRate.f a0).bind fun t148 => ((tollbarref06_ShowRate.f k a0).bind fun t149 => (if t148.toList = t149.toList then (if t141 = a0 then (if t142 = true then (if t144 = a0 then (some t145) else (some false)) else (some false)) else (some false)) else (some false)))) else (some false)) = some r := H
    have A9 := Aside0.mk A90
    clear A90
    by_cases c10 : t146.toList = t147.toList
    · rw [if_pos c10] at H
      have c10b0 : (t146.toList == t147.toList) = true := beq_iff_eq.mpr c10
      have c10b1 : (t146.toList != t147.toList) = false := bne_eq_false_iff_eq.mpr c10
      clear c10
      replace H := Option.bind_eq_some_iff.mp H
      obtain ⟨t148, A110, H⟩ := H
      replace H : ((tollbarref06_ShowRate.f k a0).bind fun t149 => (if t148.toList = t149.toList then (if t141 = a0 then (if t142 = true then (if t144 = a0 then (some t145) else (some false)) else (some false)) else (some false)) else (some false))) = some r := H
      have A11 := Aside0.mk A110
      clear A110
      replace H := Option.bind_eq_some_iff.mp H
      obtain ⟨t149, A120, H⟩ := H
      replace H : (if t148.toList = t149.toList then (if t141 = a0 then (if t142 = true then (if t144 = a0 then (some t145) else (some false)) else (some false)) else (some false)) else (some false)) = some r := H
      have A12 := Aside0.mk A120
      clear A120
      by_cases c13 : t148.toList = t149.toList
      · rw [if_pos c13] at H
        have c13b0 : (t148.toList == t149.toList) = true := beq_iff_eq.mpr c13
        have c13b1 : (t148.toList != t149.toList) = false := bne_eq_false_iff_eq.mpr c13
        clear c13
        by_cases c14 : t141 = a0
        · rw [if_pos c14] at H
          have c14b0 : (t141 == a0) = true := beq_iff_eq.mpr c14
          have c14b1 : (t141 != a0) = false := bne_eq_false_iff_eq.mpr c14
          clear c14
          by_cases c15 : t142 = true
          · subst c15
            have H1 : (if t144 = a0 then (some t145) else (some false)) = some r := by rw [if_pos rfl] at H; exact H
            clear H
            have H := H1
            clear H1
            by_cases c16 : t144 = a0
            · rw [if_pos c16] at H
              have c16b0 : (t144 == a0) = true := beq_iff_eq.mpr c16
              have c16b1 : (t144 != a0) = false := bne_eq_false_iff_eq.mpr c16
              clear c16
              obtain rfl := Option.some.inj H
              go_enter Tryd.func4, Tryd.ntmps4
              go_wp2_with (first | ((with_reducible refine gate_callee (f := 7) rfl ?_); refine goesL_ (some 8) rfl rfl Tryd.func7 (by kernel_rfl) rfl #[] rfl (by (try simp only [List.map_toArray, List.map_cons, List.map_nil]); first | done | rfl | (simp only [List.length_drop, List.length_take]; rfl)) ?_; (with_reducible refine (tollbarlaw06_awake.calls  true _ (gOf HG0.out (by repeat (first | (with_reducible first | exact HB.out | apply below_alloc | apply pw_below_drewN | apply below_drew1) | exact HB.out))) A2.out).mono ?_); rintro e w17 ⟨rfl, hb⟩; refine ⟨_, rfl, ?_⟩; have n0_ := Aside0.mk (below_step (by repeat (first | (with_reducible first | exact HB.out | apply below_alloc | apply pw_below_drewN | apply below_drew1) | exact HB.out)) hb); clear HB; have HB := n0_; clear n0_; (try clear hb); (try clear hb2); (try clear hk); (try clear hi)) | ((with_reducible refine gate_callee (f := 14) rfl ?_); refine goesL_ (some 13) rfl rfl Tryd.func14 (by kernel_rfl) rfl #[.int .u64 a0] rfl (by (try simp only [List.map_toArray, List.map_cons, List.map_nil]); first | done | rfl | (simp only [List.length_drop, List.length_take]; rfl)) ?_; (with_reducible refine (scalar_ShowUint.calls a0 t140 _ (gOf HG0.out (by repeat (first | (with_reducible first | exact HB.out | apply below_alloc | apply pw_below_drewN | apply below_drew1) | exact HB.out))) A4.out).mono ?_); rintro e w18 ⟨rfl, hb⟩; refine ⟨_, rfl, ?_⟩; have n0_ := Aside0.mk (below_step (by repeat (first | (with_reducible first | exact HB.out | apply below_alloc | apply pw_below_drewN | apply below_drew1) | exact HB.out)) hb); clear HB; have HB := n0_; clear n0_; (try clear hb); (try clear hb2); (try clear hk); (try clear hi)) | ((with_reducible refine gate_callee (f := 8) rfl ?_); refine goesL_ (some 14) rfl rfl Tryd.func8 (by kernel_rfl) rfl #[.string t140] rfl (by (try simp only [List.map_toArray, List.map_cons, List.map_nil]); first | done | rfl | (simp only [List.length_drop, List.length_take]; rfl)) ?_; (with_reducible refine (scalar_Uint.calls t140 t141 true _ (gOf HG0.out (by repeat (first | (with_reducible first | exact HB.out | apply below_alloc | apply pw_below_drewN | apply below_drew1) | exact HB.out))) A5.out).mono ?_); rintro e w19 ⟨rfl, hb⟩; refine ⟨_, rfl, ?_⟩; have n0_ := Aside0.mk (below_step (by repeat (first | (with_reducible first | exact HB.out | apply below_alloc | apply pw_below_drewN | apply below_drew1) | exact HB.out)) hb); clear HB; have HB := n0_; clear n0_; (try clear hb); (try clear hb2); (try clear hk); (try clear hi)) | ((with_reducible refine gate_callee (f := 15) rfl ?_); refine goesL_ (some 19) rfl rfl Tryd.func15 (by kernel_rfl) rfl #[.int .u64 a0] rfl (by (try simp only [List.map_toArray, List.map_cons, List.map_nil]); first | done | rfl | (simp only [List.length_drop, List.length_take]; rfl)) ?_; (with_reducible refine (scalar_ShowRate.calls a0 t143 _ (gOf HG0.out (by repeat (first | (with_reducible first | exact HB.out | apply below_alloc | apply pw_below_drewN | apply below_drew1) | exact HB.out))) A6.out).mono ?_); rintro e w20 ⟨rfl, hb⟩; refine ⟨_, rfl, ?_⟩; have n0_ := Aside0.mk (below_step (by repeat (first | (with_reducible first | exact HB.out | apply below_alloc | apply pw_below_drewN | apply below_drew1) | exact HB.out)) hb); clear HB; have HB := n0_; clear n0_; (try clear hb); (try clear hb2); (try clear hk); (try clear hi)) | ((with_reducible refine gate_callee (f := 10) rfl ?_); refine goesL_ (some 20) rfl rfl Tryd.func10 (by kernel_rfl) rfl #[.string t143] rfl (by (try simp only [List.map_toArray, List.map_cons, List.map_nil]); first | done | rfl | (simp only [List.length_drop, List.length_take]; rfl)) ?_; (with_reducible refine (scalar_Rate.calls t143 t144 t145 _ (gOf HG0.out (by repeat (first | (with_reducible first | exact HB.out | apply below_alloc | apply pw_below_drewN | apply below_drew1) | exact HB.out))) A7.out).mono ?_); rintro e w21 ⟨rfl, hb⟩; refine ⟨_, rfl, ?_⟩; have n0_ := Aside0.mk (below_step (by repeat (first | (with_reducible first | exact HB.out | apply below_alloc | apply pw_below_drewN | apply below_drew1) | exact HB.out)) hb); clear HB; have HB := n0_; clear n0_; (try clear hb); (try clear hb2); (try clear hk); (try clear hi)) | ((with_reducible refine gate_callee (f := 14) rfl ?_); refine goesL_ (some 24) rfl rfl Tryd.func14 (by kernel_rfl) rfl #[.int .u64 a0] rfl (by (try simp only [List.map_toArray, List.map_cons, List.map_nil]); first | done | rfl | (simp only [List.length_drop, List.length_take]; rfl)) ?_; (with_reducible refine (scalar_ShowUint.calls a0 t146 _ (gOf HG0.out (by repeat (first | (with_reducible first | exact HB.out | apply below_alloc | apply pw_below_drewN | apply below_drew1) | exact HB.out))) A8.out).mono ?_); rintro e w22 ⟨rfl, hb⟩; refine ⟨_, rfl, ?_⟩; have n0_ := Aside0.mk (below_step (by repeat (first | (with_reducible first | exact HB.out | apply below_alloc | apply pw_below_drewN | apply below_drew1) | exact HB.out)) hb); clear HB; have HB := n0_; clear n0_; (try clear hb); (try clear hb2); (try clear hk); (try clear hi)) | ((with_reducible refine gate_callee (f := 16) rfl ?_); refine goesL_ (some 26) rfl rfl Tryd.func16 (by kernel_rfl) rfl #[.int .u64 a0] rfl (by (try simp only [List.map_toArray, List.map_cons, List.map_nil]); first | done | rfl | (simp only [List.length_drop, List.length_take]; rfl)) ?_; (with_reducible refine (tollbarref06_ShowUint.calls k a0 t147 _ A9.out).mono ?_); rintro e w23 ⟨rfl, hb⟩; refine ⟨_, rfl, ?_⟩; have n0_ := Aside0.mk (below_step (by repeat (first | (with_reducible first | exact HB.out | apply below_alloc | apply pw_below_drewN | apply below_drew1) | exact HB.out)) hb); clear HB; have HB := n0_; clear n0_; (try clear hb); (try clear hb2); (try clear hk); (try clear hi)) | (go_at_call 15; (with_reducible refine (scalar_ShowRate.calls a0 t148 _ (gOf HG0.out (by repeat (first | (with_reducible first | exact HB.out | apply below_alloc | apply pw_below_drewN | apply below_drew1) | exact HB.out))) A11.out).mono ?_); rintro e w24 ⟨rfl, hb⟩; have n0_ := Aside0.mk (below_step (by repeat (first | (with_reducible first | exact HB.out | apply below_alloc | apply pw_below_drewN | apply below_drew1) | exact HB.out)) hb); clear HB; have HB := n0_; clear n0_; (try clear hb); (try clear hb2); (try clear hk); (try clear hi)) | (go_at_call 17; (with_reducible refine (tollbarref06_ShowRate.calls k a0 t149 _ A12.out).mono ?_); rintro e w25 ⟨rfl, hb⟩; have n0_ := Aside0.mk (below_step (by repeat (first | (with_reducible first | exact HB.out | apply below_alloc | apply pw_below_drewN | apply below_drew1) | exact HB.out)) hb); clear HB; have HB := n0_; clear n0_; (try clear hb); (try clear hb2); (try clear hk); (try clear hi)))
              go_ret
              exact ⟨by first | rfl | (simp [errW_none, errW_some] <;> rfl) | (simp [*, errW_none, errW_some] <;> rfl), by repeat (first | (with_reducible first | exact HB.out | apply below_alloc | apply pw_below_drewN | apply below_drew1) | exact HB.out)⟩
            · rw [if_neg c16] at H
              have c16b0 : (t144 == a0) = false := beq_eq_false_iff_ne.mpr c16
              have c16b1 : (t144 != a0) = true := bne_iff_ne.mpr c16
              obtain rfl := Option.some.inj H
              go_enter Tryd.func4, Tryd.ntmps4
              go_wp2_with (first | ((with_reducible refine gate_callee (f := 7) rfl ?_); refine goesL_ (some 8) rfl rfl Tryd.func7 (by kernel_rfl) rfl #[] rfl (by (try simp only [List.map_toArray, List.map_cons, List.map_nil]); first | done | rfl | (simp only [List.length_drop, List.length_take]; rfl)) ?_; (with_reducible refine (tollbarlaw06_awake.calls  true _ (gOf HG0.out (by repeat (first | (with_reducible first | exact HB.out | apply below_alloc | apply pw_below_drewN | apply below_drew1) | exact HB.out))) A2.out).mono ?_); rintro e w26 ⟨rfl, hb⟩; refine ⟨_, rfl, ?_⟩; have n0_ := Aside0.mk (below_step (by repeat (first | (with_reducible first | exact HB.out | apply below_alloc | apply pw_below_drewN | apply below_drew1) | exact HB.out)) hb); clear HB; have HB := n0_; clear n0_; (try clear hb); (try clear hb2); (try clear hk); (try clear hi)) | ((with_reducible refine gate_callee (f := 14) rfl ?_); refine goesL_ (some 13) rfl rfl Tryd.func14 (by kernel_rfl) rfl #[.int .u64 a0] rfl (by (try simp only [List.map_toArray, List.map_cons, List.map_nil]); first | done | rfl | (simp only [List.length_drop, List.length_take]; rfl)) ?_; (with_reducible refine (scalar_ShowUint.calls a0 t140 _ (gOf HG0.out (by repeat (first | (with_reducible first | exact HB.out | apply below_alloc | apply pw_below_drewN | apply below_drew1) | exact HB.out))) A4.out).mono ?_); rintro e w27 ⟨rfl, hb⟩; refine ⟨_, rfl, ?_⟩; have n0_ := Aside0.mk (below_step (by repeat (first | (with_reducible first | exact HB.out | apply below_alloc | apply pw_below_drewN | apply below_drew1) | exact HB.out)) hb); clear HB; have HB := n0_; clear n0_; (try clear hb); (try clear hb2); (try clear hk); (try clear hi)) | ((with_reducible refine gate_callee (f := 8) rfl ?_); refine goesL_ (some 14) rfl rfl Tryd.func8 (by kernel_rfl) rfl #[.string t140] rfl (by (try simp only [List.map_toArray, List.map_cons, List.map_nil]); first | done | rfl | (simp only [List.length_drop, List.length_take]; rfl)) ?_; (with_reducible refine (scalar_Uint.calls t140 t141 true _ (gOf HG0.out (by repeat (first | (with_reducible first | exact HB.out | apply below_alloc | apply pw_below_drewN | apply below_drew1) | exact HB.out))) A5.out).mono ?_); rintro e w28 ⟨rfl, hb⟩; refine ⟨_, rfl, ?_⟩; have n0_ := Aside0.mk (below_step (by repeat (first | (with_reducible first | exact HB.out | apply below_alloc | apply pw_below_drewN | apply below_drew1) | exact HB.out)) hb); clear HB; have HB := n0_; clear n0_; (try clear hb); (try clear hb2); (try clear hk); (try clear hi)) | ((with_reducible refine gate_callee (f := 15) rfl ?_); refine goesL_ (some 19) rfl rfl Tryd.func15 (by kernel_rfl) rfl #[.int .u64 a0] rfl (by (try simp only [List.map_toArray, List.map_cons, List.map_nil]); first | done | rfl | (simp only [List.length_drop, List.length_take]; rfl)) ?_; (with_reducible refine (scalar_ShowRate.calls a0 t143 _ (gOf HG0.out (by repeat (first | (with_reducible first | exact HB.out | apply below_alloc | apply pw_below_drewN | apply below_drew1) | exact HB.out))) A6.out).mono ?_); rintro e w29 ⟨rfl, hb⟩; refine ⟨_, rfl, ?_⟩; have n0_ := Aside0.mk (below_step (by repeat (first | (with_reducible first | exact HB.out | apply below_alloc | apply pw_below_drewN | apply below_drew1) | exact HB.out)) hb); clear HB; have HB := n0_; clear n0_; (try clear hb); (try clear hb2); (try clear hk); (try clear hi)) | ((with_reducible refine gate_callee (f := 10) rfl ?_); refine goesL_ (some 20) rfl rfl Tryd.func10 (by kernel_rfl) rfl #[.string t143] rfl (by (try simp only [List.map_toArray, List.map_cons, List.map_nil]); first | done | rfl | (simp only [List.length_drop, List.length_take]; rfl)) ?_; (with_reducible refine (scalar_Rate.calls t143 t144 t145 _ (gOf HG0.out (by repeat (first | (with_reducible first | exact HB.out | apply below_alloc | apply pw_below_drewN | apply below_drew1) | exact HB.out))) A7.out).mono ?_); rintro e w30 ⟨rfl, hb⟩; refine ⟨_, rfl, ?_⟩; have n0_ := Aside0.mk (below_step (by repeat (first | (with_reducible first | exact HB.out | apply below_alloc | apply pw_below_drewN | apply below_drew1) | exact HB.out)) hb); clear HB; have HB := n0_; clear n0_; (try clear hb); (try clear hb2); (try clear hk); (try clear hi)) | ((with_reducible refine gate_callee (f := 14) rfl ?_); refine goesL_ (some 24) rfl rfl Tryd.func14 (by kernel_rfl) rfl #[.int .u64 a0] rfl (by (try simp only [List.map_toArray, List.map_cons, List.map_nil]); first | done | rfl | (simp only [List.length_drop, List.length_take]; rfl)) ?_; (with_reducible refine (scalar_ShowUint.calls a0 t146 _ (gOf HG0.out (by repeat (first | (with_reducible first | exact HB.out | apply below_alloc | apply pw_below_drewN | apply below_drew1) | exact HB.out))) A8.out).mono ?_); rintro e w31 ⟨rfl, hb⟩; refine ⟨_, rfl, ?_⟩; have n0_ := Aside0.mk (below_step (by repeat (first | (with_reducible first | exact HB.out | apply below_alloc | apply pw_below_drewN | apply below_drew1) | exact HB.out)) hb); clear HB; have HB := n0_; clear n0_; (try clear hb); (try clear hb2); (try clear hk); (try clear hi)) | ((with_reducible refine gate_callee (f := 16) rfl ?_); refine goesL_ (some 26) rfl rfl Tryd.func16 (by kernel_rfl) rfl #[.int .u64 a0] rfl (by (try simp only [List.map_toArray, List.map_cons, List.map_nil]); first | done | rfl | (simp only [List.length_drop, List.length_take]; rfl)) ?_; (with_reducible refine (tollbarref06_ShowUint.calls k a0 t147 _ A9.out).mono ?_); rintro e w32 ⟨rfl, hb⟩; refine ⟨_, rfl, ?_⟩; have n0_ := Aside0.mk (below_step (by repeat (first | (with_reducible first | exact HB.out | apply below_alloc | apply pw_below_drewN | apply below_drew1) | exact HB.out)) hb); clear HB; have HB := n0_; clear n0_; (try clear hb); (try clear hb2); (try clear hk); (try clear hi)) | (go_at_call 15; (with_reducible refine (scalar_ShowRate.calls a0 t148 _ (gOf HG0.out (by repeat (first | (with_reducible first | exact HB.out | apply below_alloc | apply pw_below_drewN | apply below_drew1) | exact HB.out))) A11.out).mono ?_); rintro e w33 ⟨rfl, hb⟩; have n0_ := Aside0.mk (below_step (by repeat (first | (with_reducible first | exact HB.out | apply below_alloc | apply pw_below_drewN | apply below_drew1) | exact HB.out)) hb); clear HB; have HB := n0_; clear n0_; (try clear hb); (try clear hb2); (try clear hk); (try clear hi)) | (go_at_call 17; (with_reducible refine (tollbarref06_ShowRate.calls k a0 t149 _ A12.out).mono ?_); rintro e w34 ⟨rfl, hb⟩; have n0_ := Aside0.mk (below_step (by repeat (first | (with_reducible first | exact HB.out | apply below_alloc | apply pw_below_drewN | apply below_drew1) | exact HB.out)) hb); clear HB; have HB := n0_; clear n0_; (try clear hb); (try clear hb2); (try clear hk); (try clear hi)))
              go_ret
              exact ⟨by first | rfl | (simp [errW_none, errW_some] <;> rfl) | (simp [*, errW_none, errW_some] <;> rfl), by repeat (first | (with_reducible first | exact HB.out | apply below_alloc | apply pw_below_drewN | apply below_drew1) | exact HB.out)⟩
          · replace c15 := Bool.eq_false_iff.mpr c15
            subst c15
            have H1 : (some false) = some r := by rw [if_neg (show ¬ (false = true) by decide)] at H; exact H
            clear H
            have H := H1
            clear H1
            obtain rfl := Option.some.inj H
            go_enter Tryd.func4, Tryd.ntmps4
            go_wp2_with (first | ((with_reducible refine gate_callee (f := 7) rfl ?_); refine goesL_ (some 8) rfl rfl Tryd.func7 (by kernel_rfl) rfl #[] rfl (by (try simp only [List.map_toArray, List.map_cons, List.map_nil]); first | done | rfl | (simp only [List.length_drop, List.length_take]; rfl)) ?_; (with_reducible refine (tollbarlaw06_awake.calls  true _ (gOf HG0.out (by repeat (first | (with_reducible first | exact HB.out | apply below_alloc | apply pw_below_drewN | apply below_drew1) | exact HB.out))) A2.out).mono ?_); rintro e w35 ⟨rfl, hb⟩; refine ⟨_, rfl, ?_⟩; have n0_ := Aside0.mk (below_step (by repeat (first | (with_reducible first | exact HB.out | apply below_alloc | apply pw_below_drewN | apply below_drew1) | exact HB.out)) hb); clear HB; have HB := n0_; clear n0_; (try clear hb); (try clear hb2); (try clear hk); (try clear hi)) | ((with_reducible refine gate_callee (f := 14) rfl ?_); refine goesL_ (some 13) rfl rfl Tryd.func14 (by kernel_rfl) rfl #[.int .u64 a0] rfl (by (try simp only [List.map_toArray, List.map_cons, List.map_nil]); first | done | rfl | (simp only [List.length_drop, List.length_take]; rfl)) ?_; (with_reducible refine (scalar_ShowUint.calls a0 t140 _ (gOf HG0.out (by repeat (first | (with_reducible first | exact HB.out | apply below_alloc | apply pw_below_drewN | apply below_drew1) | exact HB.out))) A4.out).mono ?_); rintro e w36 ⟨rfl, hb⟩; refine ⟨_, rfl, ?_⟩; have n0_ := Aside0.mk (below_step (by repeat (first | (with_reducible first | exact HB.out | apply below_alloc | apply pw_below_drewN | apply below_drew1) | exact HB.out)) hb); clear HB; have HB := n0_; clear n0_; (try clear hb); (try clear hb2); (try clear hk); (try clear hi)) | ((with_reducible refine gate_callee (f := 8) rfl ?_); refine goesL_ (some 14) rfl rfl Tryd.func8 (by kernel_rfl) rfl #[.string t140] rfl (by (try simp only [List.map_toArray, List.map_cons, List.map_nil]); first | done | rfl | (simp only [List.length_drop, List.length_take]; rfl)) ?_; (with_reducible refine (scalar_Uint.calls t140 t141 false _ (gOf HG0.out (by repeat (first | (with_reducible first | exact HB.out | apply below_alloc | apply pw_below_drewN | apply below_drew1) | exact HB.out))) A5.out).mono ?_); rintro e w37 ⟨rfl, hb⟩; refine ⟨_, rfl, ?_⟩; have n0_ := Aside0.mk (below_step (by repeat (first | (with_reducible first | exact HB.out | apply below_alloc | apply pw_below_drewN | apply below_drew1) | exact HB.out)) hb); clear HB; have HB := n0_; clear n0_; (try clear hb); (try clear hb2); (try clear hk); (try clear hi)) | ((with_reducible refine gate_callee (f := 15) rfl ?_); refine goesL_ (some 19) rfl rfl Tryd.func15 (by kernel_rfl) rfl #[.int .u64 a0] rfl (by (try simp only [List.map_toArray, List.map_cons, List.map_nil]); first | done | rfl | (simp only [List.length_drop, List.length_take]; rfl)) ?_; (with_reducible refine (scalar_ShowRate.calls a0 t143 _ (gOf HG0.out (by repeat (first | (with_reducible first | exact HB.out | apply below_alloc | apply pw_below_drewN | apply below_drew1) | exact HB.out))) A6.out).mono ?_); rintro e w38 ⟨rfl, hb⟩; refine ⟨_, rfl, ?_⟩; have n0_ := Aside0.mk (below_step (by repeat (first | (with_reducible first | exact HB.out | apply below_alloc | apply pw_below_drewN | apply below_drew1) | exact HB.out)) hb); clear HB; have HB := n0_; clear n0_; (try clear hb); (try clear hb2); (try clear hk); (try clear hi)) | ((with_reducible refine gate_callee (f := 10) rfl ?_); refine goesL_ (some 20) rfl rfl Tryd.func10 (by kernel_rfl) rfl #[.string t143] rfl (by (try simp only [List.map_toArray, List.map_cons, List.map_nil]); first | done | rfl | (simp only [List.length_drop, List.length_take]; rfl)) ?_; (with_reducible refine (scalar_Rate.calls t143 t144 t145 _ (gOf HG0.out (by repeat (first | (with_reducible first | exact HB.out | apply below_alloc | apply pw_below_drewN | apply below_drew1) | exact HB.out))) A7.out).mono ?_); rintro e w39 ⟨rfl, hb⟩; refine ⟨_, rfl, ?_⟩; have n0_ := Aside0.mk (below_step (by repeat (first | (with_reducible first | exact HB.out | apply below_alloc | apply pw_below_drewN | apply below_drew1) | exact HB.out)) hb); clear HB; have HB := n0_; clear n0_; (try clear hb); (try clear hb2); (try clear hk); (try clear hi)) | ((with_reducible refine gate_callee (f := 14) rfl ?_); refine goesL_ (some 24) rfl rfl Tryd.func14 (by kernel_rfl) rfl #[.int .u64 a0] rfl (by (try simp only [List.map_toArray, List.map_cons, List.map_nil]); first | done | rfl | (simp only [List.length_drop, List.length_take]; rfl)) ?_; (with_reducible refine (scalar_ShowUint.calls a0 t146 _ (gOf HG0.out (by repeat (first | (with_reducible first | exact HB.out | apply below_alloc | apply pw_below_drewN | apply below_drew1) | exact HB.out))) A8.out).mono ?_); rintro e w40 ⟨rfl, hb⟩; refine ⟨_, rfl, ?_⟩; have n0_ := Aside0.mk (below_step (by repeat (first | (with_reducible first | exact HB.out | apply below_alloc | apply pw_below_drewN | apply below_drew1) | exact HB.out)) hb); clear HB; have HB := n0_; clear n0_; (try clear hb); (try clear hb2); (try clear hk); (try clear hi)) | ((with_reducible refine gate_callee (f := 16) rfl ?_); refine goesL_ (some 26) rfl rfl Tryd.func16 (by kernel_rfl) rfl #[.int .u64 a0] rfl (by (try simp only [List.map_toArray, List.map_cons, List.map_nil]); first | done | rfl | (simp only [List.length_drop, List.length_take]; rfl)) ?_; (with_reducible refine (tollbarref06_ShowUint.calls k a0 t147 _ A9.out).mono ?_); rintro e w41 ⟨rfl, hb⟩; refine ⟨_, rfl, ?_⟩; have n0_ := Aside0.mk (below_step (by repeat (first | (with_reducible first | exact HB.out | apply below_alloc | apply pw_below_drewN | apply below_drew1) | exact HB.out)) hb); clear HB; have HB := n0_; clear n0_; (try clear hb); (try clear hb2); (try clear hk); (try clear hi)) | (go_at_call 15; (with_reducible refine (scalar_ShowRate.calls a0 t148 _ (gOf HG0.out (by repeat (first | (with_reducible first | exact HB.out | apply below_alloc | apply pw_below_drewN | apply below_drew1) | exact HB.out))) A11.out).mono ?_); rintro e w42 ⟨rfl, hb⟩; have n0_ := Aside0.mk (below_step (by repeat (first | (with_reducible first | exact HB.out | apply below_alloc | apply pw_below_drewN | apply below_drew1) | exact HB.out)) hb); clear HB; have HB := n0_; clear n0_; (try clear hb); (try clear hb2); (try clear hk); (try clear hi)) | (go_at_call 17; (with_reducible refine (tollbarref06_ShowRate.calls k a0 t149 _ A12.out).mono ?_); rintro e w43 ⟨rfl, hb⟩; have n0_ := Aside0.mk (below_step (by repeat (first | (with_reducible first | exact HB.out | apply below_alloc | apply pw_below_drewN | apply below_drew1) | exact HB.out)) hb); clear HB; have HB := n0_; clear n0_; (try clear hb); (try clear hb2); (try clear hk); (try clear hi)))
            go_ret
            exact ⟨by first | rfl | (simp [errW_none, errW_some] <;> rfl) | (simp [*, errW_none, errW_some] <;> rfl), by repeat (first | (with_reducible first | exact HB.out | apply below_alloc | apply pw_below_drewN | apply below_drew1) | exact HB.out)⟩
        · rw [if_neg c14] at H
          have c14b0 : (t141 == a0) = false := beq_eq_false_iff_ne.mpr c14
          have c14b1 : (t141 != a0) = true := bne_iff_ne.mpr c14
          obtain rfl := Option.some.inj H
          go_enter Tryd.func4, Tryd.ntmps4
          go_wp2_with (first | ((with_reducible refine gate_callee (f := 7) rfl ?_); refine goesL_ (some 8) rfl rfl Tryd.func7 (by kernel_rfl) rfl #[] rfl (by (try simp only [List.map_toArray, List.map_cons, List.map_nil]); first | done | rfl | (simp only [List.length_drop, List.length_take]; rfl)) ?_; (with_reducible refine (tollbarlaw06_awake.calls  true _ (gOf HG0.out (by repeat (first | (with_reducible first | exact HB.out | apply below_alloc | apply pw_below_drewN | apply below_drew1) | exact HB.out))) A2.out).mono ?_); rintro e w44 ⟨rfl, hb⟩; refine ⟨_, rfl, ?_⟩; have n0_ := Aside0.mk (below_step (by repeat (first | (with_reducible first | exact HB.out | apply below_alloc | apply pw_below_drewN | apply below_drew1) | exact HB.out)) hb); clear HB; have HB := n0_; clear n0_; (try clear hb); (try clear hb2); (try clear hk); (try clear hi)) | ((with_reducible refine gate_callee (f := 14) rfl ?_); refine goesL_ (some 13) rfl rfl Tryd.func14 (by kernel_rfl) rfl #[.int .u64 a0] rfl (by (try simp only [List.map_toArray, List.map_cons, List.map_nil]); first | done | rfl | (simp only [List.length_drop, List.length_take]; rfl)) ?_; (with_reducible refine (scalar_ShowUint.calls a0 t140 _ (gOf HG0.out (by repeat (first | (with_reducible first | exact HB.out | apply below_alloc | apply pw_below_drewN | apply below_drew1) | exact HB.out))) A4.out).mono ?_); rintro e w45 ⟨rfl, hb⟩; refine ⟨_, rfl, ?_⟩; have n0_ := Aside0.mk (below_step (by repeat (first | (with_reducible first | exact HB.out | apply below_alloc | apply pw_below_drewN | apply below_drew1) | exact HB.out)) hb); clear HB; have HB := n0_; clear n0_; (try clear hb); (try clear hb2); (try clear hk); (try clear hi)) | ((with_reducible refine gate_callee (f := 8) rfl ?_); refine goesL_ (some 14) rfl rfl Tryd.func8 (by kernel_rfl) rfl #[.string t140] rfl (by (try simp only [List.map_toArray, List.map_cons, List.map_nil]); first | done | rfl | (simp only [List.length_drop, List.length_take]; rfl)) ?_; (with_reducible refine (scalar_Uint.calls t140 t141 t142 _ (gOf HG0.out (by repeat (first | (with_reducible first | exact HB.out | apply below_alloc | apply pw_below_drewN | apply below_drew1) | exact HB.out))) A5.out).mono ?_); rintro e w46 ⟨rfl, hb⟩; refine ⟨_, rfl, ?_⟩; have n0_ := Aside0.mk (below_step (by repeat (first | (with_reducible first | exact HB.out | apply below_alloc | apply pw_below_drewN | apply below_drew1) | exact HB.out)) hb); clear HB; have HB := n0_; clear n0_; (try clear hb); (try clear hb2); (try clear hk); (try clear hi)) | ((with_reducible refine gate_callee (f := 15) rfl ?_); refine goesL_ (some 19) rfl rfl Tryd.func15 (by kernel_rfl) rfl #[.int .u64 a0] rfl (by (try simp only [List.map_toArray, List.map_cons, List.map_nil]); first | done | rfl | (simp only [List.length_drop, List.length_take]; rfl)) ?_; (with_reducible refine (scalar_ShowRate.calls a0 t143 _ (gOf HG0.out (by repeat (first | (with_reducible first | exact HB.out | apply below_alloc | apply pw_below_drewN | apply below_drew1) | exact HB.out))) A6.out).mono ?_); rintro e w47 ⟨rfl, hb⟩; refine ⟨_, rfl, ?_⟩; have n0_ := Aside0.mk (below_step (by repeat (first | (with_reducible first | exact HB.out | apply below_alloc | apply pw_below_drewN | apply below_drew1) | exact HB.out)) hb); clear HB; have HB := n0_; clear n0_; (try clear hb); (try clear hb2); (try clear hk); (try clear hi)) | ((with_reducible refine gate_callee (f := 10) rfl ?_); refine goesL_ (some 20) rfl rfl Tryd.func10 (by kernel_rfl) rfl #[.string t143] rfl (by (try simp only [List.map_toArray, List.map_cons, List.map_nil]); first | done | rfl | (simp only [List.length_drop, List.length_take]; rfl)) ?_; (with_reducible refine (scalar_Rate.calls t143 t144 t145 _ (gOf HG0.out (by repeat (first | (with_reducible first | exact HB.out | apply below_alloc | apply pw_below_drewN | apply below_drew1) | exact HB.out))) A7.out).mono ?_); rintro e w48 ⟨rfl, hb⟩; refine ⟨_, rfl, ?_⟩; have n0_ := Aside0.mk (below_step (by repeat (first | (with_reducible first | exact HB.out | apply below_alloc | apply pw_below_drewN | apply below_drew1) | exact HB.out)) hb); clear HB; have HB := n0_; clear n0_; (try clear hb); (try clear hb2); (try clear hk); (try clear hi)) | ((with_reducible refine gate_callee (f := 14) rfl ?_); refine goesL_ (some 24) rfl rfl Tryd.func14 (by kernel_rfl) rfl #[.int .u64 a0] rfl (by (try simp only [List.map_toArray, List.map_cons, List.map_nil]); first | done | rfl | (simp only [List.length_drop, List.length_take]; rfl)) ?_; (with_reducible refine (scalar_ShowUint.calls a0 t146 _ (gOf HG0.out (by repeat (first | (with_reducible first | exact HB.out | apply below_alloc | apply pw_below_drewN | apply below_drew1) | exact HB.out))) A8.out).mono ?_); rintro e w49 ⟨rfl, hb⟩; refine ⟨_, rfl, ?_⟩; have n0_ := Aside0.mk (below_step (by repeat (first | (with_reducible first | exact HB.out | apply below_alloc | apply pw_below_drewN | apply below_drew1) | exact HB.out)) hb); clear HB; have HB := n0_; clear n0_; (try clear hb); (try clear hb2); (try clear hk); (try clear hi)) | ((with_reducible refine gate_callee (f := 16) rfl ?_); refine goesL_ (some 26) rfl rfl Tryd.func16 (by kernel_rfl) rfl #[.int .u64 a0] rfl (by (try simp only [List.map_toArray, List.map_cons, List.map_nil]); first | done | rfl | (simp only [List.length_drop, List.length_take]; rfl)) ?_; (with_reducible refine (tollbarref06_ShowUint.calls k a0 t147 _ A9.out).mono ?_); rintro e w50 ⟨rfl, hb⟩; refine ⟨_, rfl, ?_⟩; have n0_ := Aside0.mk (below_step (by repeat (first | (with_reducible first | exact HB.out | apply below_alloc | apply pw_below_drewN | apply below_drew1) | exact HB.out)) hb); clear HB; have HB := n0_; clear n0_; (try clear hb); (try clear hb2); (try clear hk); (try clear hi)) | (go_at_call 15; (with_reducible refine (scalar_ShowRate.calls a0 t148 _ (gOf HG0.out (by repeat (first | (with_reducible first | exact HB.out | apply below_alloc | apply pw_below_drewN | apply below_drew1) | exact HB.out))) A11.out).mono ?_); rintro e w51 ⟨rfl, hb⟩; have n0_ := Aside0.mk (below_step (by repeat (first | (with_reducible first | exact HB.out | apply below_alloc | apply pw_below_drewN | apply below_drew1) | exact HB.out)) hb); clear HB; have HB := n0_; clear n0_; (try clear hb); (try clear hb2); (try clear hk); (try clear hi)) | (go_at_call 17; (with_reducible refine (tollbarref06_ShowRate.calls k a0 t149 _ A12.out).mono ?_); rintro e w52 ⟨rfl, hb⟩; have n0_ := Aside0.mk (below_step (by repeat (first | (with_reducible first | exact HB.out | apply below_alloc | apply pw_below_drewN | apply below_drew1) | exact HB.out)) hb); clear HB; have HB := n0_; clear n0_; (try clear hb); (try clear hb2); (try clear hk); (try clear hi)))
          go_ret
          exact ⟨by first | rfl | (simp [errW_none, errW_some] <;> rfl) | (simp [*, errW_none, errW_some] <;> rfl), by repeat (first | (with_reducible first | exact HB.out | apply below_alloc | apply pw_below_drewN | apply below_drew1) | exact HB.out)⟩
      · rw [if_neg c13] at H
        have c13b0 : (t148.toList == t149.toList) = false := beq_eq_false_iff_ne.mpr c13
        have c13b1 : (t148.toList != t149.toList) = true := bne_iff_ne.mpr c13
        obtain rfl := Option.some.inj H
        go_enter Tryd.func4, Tryd.ntmps4
        go_wp2_with (first | ((with_reducible refine gate_callee (f := 7) rfl ?_); refine goesL_ (some 8) rfl rfl Tryd.func7 (by kernel_rfl) rfl #[] rfl (by (try simp only [List.map_toArray, List.map_cons, List.map_nil]); first | done | rfl | (simp only [List.length_drop, List.length_take]; rfl)) ?_; (with_reducible refine (tollbarlaw06_awake.calls  true _ (gOf HG0.out (by repeat (first | (with_reducible first | exact HB.out | apply below_alloc | apply pw_below_drewN | apply below_drew1) | exact HB.out))) A2.out).mono ?_); rintro e w53 ⟨rfl, hb⟩; refine ⟨_, rfl, ?_⟩; have n0_ := Aside0.mk (below_step (by repeat (first | (with_reducible first | exact HB.out | apply below_alloc | apply pw_below_drewN | apply below_drew1) | exact HB.out)) hb); clear HB; have HB := n0_; clear n0_; (try clear hb); (try clear hb2); (try clear hk); (try clear hi)) | ((with_reducible refine gate_callee (f := 14) rfl ?_); refine goesL_ (some 13) rfl rfl Tryd.func14 (by kernel_rfl) rfl #[.int .u64 a0] rfl (by (try simp only [List.map_toArray, List.map_cons, List.map_nil]); first | done | rfl | (simp only [List.length_drop, List.length_take]; rfl)) ?_; (with_reducible refine (scalar_ShowUint.calls a0 t140 _ (gOf HG0.out (by repeat (first | (with_reducible first | exact HB.out | apply below_alloc | apply pw_below_drewN | apply below_drew1) | exact HB.out))) A4.out).mono ?_); rintro e w54 ⟨rfl, hb⟩; refine ⟨_, rfl, ?_⟩; have n0_ := Aside0.mk (below_step (by repeat (first | (with_reducible first | exact HB.out | apply below_alloc | apply pw_below_drewN | apply below_drew1) | exact HB.out)) hb); clear HB; have HB := n0_; clear n0_; (try clear hb); (try clear hb2); (try clear hk); (try clear hi)) | ((with_reducible refine gate_callee (f := 8) rfl ?_); refine goesL_ (some 14) rfl rfl Tryd.func8 (by kernel_rfl) rfl #[.string t140] rfl (by (try simp only [List.map_toArray, List.map_cons, List.map_nil]); first | done | rfl | (simp only [List.length_drop, List.length_take]; rfl)) ?_; (with_reducible refine (scalar_Uint.calls t140 t141 t142 _ (gOf HG0.out (by repeat (first | (with_reducible first | exact HB.out | apply below_alloc | apply pw_below_drewN | apply below_drew1) | exact HB.out))) A5.out).mono ?_); rintro e w55 ⟨rfl, hb⟩; refine ⟨_, rfl, ?_⟩; have n0_ := Aside0.mk (below_step (by repeat (first | (with_reducible first | exact HB.out | apply below_alloc | apply pw_below_drewN | apply below_drew1) | exact HB.out)) hb); clear HB; have HB := n0_; clear n0_; (try clear hb); (try clear hb2); (try clear hk); (try clear hi)) | ((with_reducible refine gate_callee (f := 15) rfl ?_); refine goesL_ (some 19) rfl rfl Tryd.func15 (by kernel_rfl) rfl #[.int .u64 a0] rfl (by (try simp only [List.map_toArray, List.map_cons, List.map_nil]); first | done | rfl | (simp only [List.length_drop, List.length_take]; rfl)) ?_; (with_reducible refine (scalar_ShowRate.calls a0 t143 _ (gOf HG0.out (by repeat (first | (with_reducible first | exact HB.out | apply below_alloc | apply pw_below_drewN | apply below_drew1) | exact HB.out))) A6.out).mono ?_); rintro e w56 ⟨rfl, hb⟩; refine ⟨_, rfl, ?_⟩; have n0_ := Aside0.mk (below_step (by repeat (first | (with_reducible first | exact HB.out | apply below_alloc | apply pw_below_drewN | apply below_drew1) | exact HB.out)) hb); clear HB; have HB := n0_; clear n0_; (try clear hb); (try clear hb2); (try clear hk); (try clear hi)) | ((with_reducible refine gate_callee (f := 10) rfl ?_); refine goesL_ (some 20) rfl rfl Tryd.func10 (by kernel_rfl) rfl #[.string t143] rfl (by (try simp only [List.map_toArray, List.map_cons, List.map_nil]); first | done | rfl | (simp only [List.length_drop, List.length_take]; rfl)) ?_; (with_reducible refine (scalar_Rate.calls t143 t144 t145 _ (gOf HG0.out (by repeat (first | (with_reducible first | exact HB.out | apply below_alloc | apply pw_below_drewN | apply below_drew1) | exact HB.out))) A7.out).mono ?_); rintro e w57 ⟨rfl, hb⟩; refine ⟨_, rfl, ?_⟩; have n0_ := Aside0.mk (below_step (by repeat (first | (with_reducible first | exact HB.out | apply below_alloc | apply pw_below_drewN | apply below_drew1) | exact HB.out)) hb); clear HB; have HB := n0_; clear n0_; (try clear hb); (try clear hb2); (try clear hk); (try clear hi)) | ((with_reducible refine gate_callee (f := 14) rfl ?_); refine goesL_ (some 24) rfl rfl Tryd.func14 (by kernel_rfl) rfl #[.int .u64 a0] rfl (by (try simp only [List.map_toArray, List.map_cons, List.map_nil]); first | done | rfl | (simp only [List.length_drop, List.length_take]; rfl)) ?_; (with_reducible refine (scalar_ShowUint.calls a0 t146 _ (gOf HG0.out (by repeat (first | (with_reducible first | exact HB.out | apply below_alloc | apply pw_below_drewN | apply below_drew1) | exact HB.out))) A8.out).mono ?_); rintro e w58 ⟨rfl, hb⟩; refine ⟨_, rfl, ?_⟩; have n0_ := Aside0.mk (below_step (by repeat (first | (with_reducible first | exact HB.out | apply below_alloc | apply pw_below_drewN | apply below_drew1) | exact HB.out)) hb); clear HB; have HB := n0_; clear n0_; (try clear hb); (try clear hb2); (try clear hk); (try clear hi)) | ((with_reducible refine gate_callee (f := 16) rfl ?_); refine goesL_ (some 26) rfl rfl Tryd.func16 (by kernel_rfl) rfl #[.int .u64 a0] rfl (by (try simp only [List.map_toArray, List.map_cons, List.map_nil]); first | done | rfl | (simp only [List.length_drop, List.length_take]; rfl)) ?_; (with_reducible refine (tollbarref06_ShowUint.calls k a0 t147 _ A9.out).mono ?_); rintro e w59 ⟨rfl, hb⟩; refine ⟨_, rfl, ?_⟩; have n0_ := Aside0.mk (below_step (by repeat (first | (with_reducible first | exact HB.out | apply below_alloc | apply pw_below_drewN | apply below_drew1) | exact HB.out)) hb); clear HB; have HB := n0_; clear n0_; (try clear hb); (try clear hb2); (try clear hk); (try clear hi)) | (go_at_call 15; (with_reducible refine (scalar_ShowRate.calls a0 t148 _ (gOf HG0.out (by repeat (first | (with_reducible first | exact HB.out | apply below_alloc | apply pw_below_drewN | apply below_drew1) | exact HB.out))) A11.out).mono ?_); rintro e w60 ⟨rfl, hb⟩; have n0_ := Aside0.mk (below_step (by repeat (first | (with_reducible first | exact HB.out | apply below_alloc | apply pw_below_drewN | apply below_drew1) | exact HB.out)) hb); clear HB; have HB := n0_; clear n0_; (try clear hb); (try clear hb2); (try clear hk); (try clear hi)) | (go_at_call 17; (with_reducible refine (tollbarref06_ShowRate.calls k a0 t149 _ A12.out).mono ?_); rintro e w61 ⟨rfl, hb⟩; have n0_ := Aside0.mk (below_step (by repeat (first | (with_reducible first | exact HB.out | apply below_alloc | apply pw_below_drewN | apply below_drew1) | exact HB.out)) hb); clear HB; have HB := n0_; clear n0_; (try clear hb); (try clear hb2); (try clear hk); (try clear hi)))
        go_ret
        exact ⟨by first | rfl | (simp [errW_none, errW_some] <;> rfl) | (simp [*, errW_none, errW_some] <;> rfl), by repeat (first | (with_reducible first | exact HB.out | apply below_alloc | apply pw_below_drewN | apply below_drew1) | exact HB.out)⟩
    · rw [if_neg c10] at H
      have c10b0 : (t146.toList == t147.toList) = false := beq_eq_false_iff_ne.mpr c10
      have c10b1 : (t146.toList != t147.toList) = true := bne_iff_ne.mpr c10
      obtain rfl := Option.some.inj H
      go_enter Tryd.func4, Tryd.ntmps4
      go_wp2_with (first | ((with_reducible refine gate_callee (f := 7) rfl ?_); refine goesL_ (some 8) rfl rfl Tryd.func7 (by kernel_rfl) rfl #[] rfl (by (try simp only [List.map_toArray, List.map_cons, List.map_nil]); first | done | rfl | (simp only [List.length_drop, List.length_take]; rfl)) ?_; (with_reducible refine (tollbarlaw06_awake.calls  true _ (gOf HG0.out (by repeat (first | (with_reducible first | exact HB.out | apply below_alloc | apply pw_below_drewN | apply below_drew1) | exact HB.out))) A2.out).mono ?_); rintro e w62 ⟨rfl, hb⟩; refine ⟨_, rfl, ?_⟩; have n0_ := Aside0.mk (below_step (by repeat (first | (with_reducible first | exact HB.out | apply below_alloc | apply pw_below_drewN | apply below_drew1) | exact HB.out)) hb); clear HB; have HB := n0_; clear n0_; (try clear hb); (try clear hb2); (try clear hk); (try clear hi)) | ((with_reducible refine gate_callee (f := 14) rfl ?_); refine goesL_ (some 13) rfl rfl Tryd.func14 (by kernel_rfl) rfl #[.int .u64 a0] rfl (by (try simp only [List.map_toArray, List.map_cons, List.map_nil]); first | done | rfl | (simp only [List.length_drop, List.length_take]; rfl)) ?_; (with_reducible refine (scalar_ShowUint.calls a0 t140 _ (gOf HG0.out (by repeat (first | (with_reducible first | exact HB.out | apply below_alloc | apply pw_below_drewN | apply below_drew1) | exact HB.out))) A4.out).mono ?_); rintro e w63 ⟨rfl, hb⟩; refine ⟨_, rfl, ?_⟩; have n0_ := Aside0.mk (below_step (by repeat (first | (with_reducible first | exact HB.out | apply below_alloc | apply pw_below_drewN | apply below_drew1) | exact HB.out)) hb); clear HB; have HB := n0_; clear n0_; (try clear hb); (try clear hb2); (try clear hk); (try clear hi)) | ((with_reducible refine gate_callee (f := 8) rfl ?_); refine goesL_ (some 14) rfl rfl Tryd.func8 (by kernel_rfl) rfl #[.string t140] rfl (by (try simp only [List.map_toArray, List.map_cons, List.map_nil]); first | done | rfl | (simp only [List.length_drop, List.length_take]; rfl)) ?_; (with_reducible refine (scalar_Uint.calls t140 t141 t142 _ (gOf HG0.out (by repeat (first | (with_reducible first | exact HB.out | apply below_alloc | apply pw_below_drewN | apply below_drew1) | exact HB.out))) A5.out).mono ?_); rintro e w64 ⟨rfl, hb⟩; refine ⟨_, rfl, ?_⟩; have n0_ := Aside0.mk (below_step (by repeat (first | (with_reducible first | exact HB.out | apply below_alloc | apply pw_below_drewN | apply below_drew1) | exact HB.out)) hb); clear HB; have HB := n0_; clear n0_; (try clear hb); (try clear hb2); (try clear hk); (try clear hi)) | ((with_reducible refine gate_callee (f := 15) rfl ?_); refine goesL_ (some 19) rfl rfl Tryd.func15 (by kernel_rfl) rfl #[.int .u64 a0] rfl (by (try simp only [List.map_toArray, List.map_cons, List.map_nil]); first | done | rfl | (simp only [List.length_drop, List.length_take]; rfl)) ?_; (with_reducible refine (scalar_ShowRate.calls a0 t143 _ (gOf HG0.out (by repeat (first | (with_reducible first | exact HB.out | apply below_alloc | apply pw_below_drewN | apply below_drew1) | exact HB.out))) A6.out).mono ?_); rintro e w65 ⟨rfl, hb⟩; refine ⟨_, rfl, ?_⟩; have n0_ := Aside0.mk (below_step (by repeat (first | (with_reducible first | exact HB.out | apply below_alloc | apply pw_below_drewN | apply below_drew1) | exact HB.out)) hb); clear HB; have HB := n0_; clear n0_; (try clear hb); (try clear hb2); (try clear hk); (try clear hi)) | ((with_reducible refine gate_callee (f := 10) rfl ?_); refine goesL_ (some 20) rfl rfl Tryd.func10 (by kernel_rfl) rfl #[.string t143] rfl (by (try simp only [List.map_toArray, List.map_cons, List.map_nil]); first | done | rfl | (simp only [List.length_drop, List.length_take]; rfl)) ?_; (with_reducible refine (scalar_Rate.calls t143 t144 t145 _ (gOf HG0.out (by repeat (first | (with_reducible first | exact HB.out | apply below_alloc | apply pw_below_drewN | apply below_drew1) | exact HB.out))) A7.out).mono ?_); rintro e w66 ⟨rfl, hb⟩; refine ⟨_, rfl, ?_⟩; have n0_ := Aside0.mk (below_step (by repeat (first | (with_reducible first | exact HB.out | apply below_alloc | apply pw_below_drewN | apply below_drew1) | exact HB.out)) hb); clear HB; have HB := n0_; clear n0_; (try clear hb); (try clear hb2); (try clear hk); (try clear hi)) | ((with_reducible refine gate_callee (f := 14) rfl ?_); refine goesL_ (some 24) rfl rfl Tryd.func14 (by kernel_rfl) rfl #[.int .u64 a0] rfl (by (try simp only [List.map_toArray, List.map_cons, List.map_nil]); first | done | rfl | (simp only [List.length_drop, List.length_take]; rfl)) ?_; (with_reducible refine (scalar_ShowUint.calls a0 t146 _ (gOf HG0.out (by repeat (first | (with_reducible first | exact HB.out | apply below_alloc | apply pw_below_drewN | apply below_drew1) | exact HB.out))) A8.out).mono ?_); rintro e w67 ⟨rfl, hb⟩; refine ⟨_, rfl, ?_⟩; have n0_ := Aside0.mk (below_step (by repeat (first | (with_reducible first | exact HB.out | apply below_alloc | apply pw_below_drewN | apply below_drew1) | exact HB.out)) hb); clear HB; have HB := n0_; clear n0_; (try clear hb); (try clear hb2); (try clear hk); (try clear hi)) | ((with_reducible refine gate_callee (f := 16) rfl ?_); refine goesL_ (some 26) rfl rfl Tryd.func16 (by kernel_rfl) rfl #[.int .u64 a0] rfl (by (try simp only [List.map_toArray, List.map_cons, List.map_nil]); first | done | rfl | (simp only [List.length_drop, List.length_take]; rfl)) ?_; (with_reducible refine (tollbarref06_ShowUint.calls k a0 t147 _ A9.out).mono ?_); rintro e w68 ⟨rfl, hb⟩; refine ⟨_, rfl, ?_⟩; have n0_ := Aside0.mk (below_step (by repeat (first | (with_reducible first | exact HB.out | apply below_alloc | apply pw_below_drewN | apply below_drew1) | exact HB.out)) hb); clear HB; have HB := n0_; clear n0_; (try clear hb); (try clear hb2); (try clear hk); (try clear hi)))
      go_ret
      exact ⟨by first | rfl | (simp [errW_none, errW_some] <;> rfl) | (simp [*, errW_none, errW_some] <;> rfl), by repeat (first | (with_reducible first | exact HB.out | apply below_alloc | apply pw_below_drewN | apply below_drew1) | exact HB.out)⟩
  · replace c3 := Bool.eq_false_iff.mpr c3
    subst c3
    have H1 : (some false) = some r := by rw [if_neg (show ¬ (false = true) by decide)] at H; exact H
    clear H
    have H := H1
    clear H1
    obtain rfl := Option.some.inj H
    go_enter Tryd.func4, Tryd.ntmps4
    go_wp2_with (first | ((with_reducible refine gate_callee (f := 7) rfl ?_); refine goesL_ (some 8) rfl rfl Tryd.func7 (by kernel_rfl) rfl #[] rfl (by (try simp only [List.map_toArray, List.map_cons, List.map_nil]); first | done | rfl | (simp only [List.length_drop, List.length_take]; rfl)) ?_; (with_reducible refine (tollbarlaw06_awake.calls  false _ (gOf HG0.out (by repeat (first | (with_reducible first | exact HB.out | apply below_alloc | apply pw_below_drewN | apply below_drew1) | exact HB.out))) A2.out).mono ?_); rintro e w69 ⟨rfl, hb⟩; refine ⟨_, rfl, ?_⟩; have n0_ := Aside0.mk (below_step (by repeat (first | (with_reducible first | exact HB.out | apply below_alloc | apply pw_below_drewN | apply below_drew1) | exact HB.out)) hb); clear HB; have HB := n0_; clear n0_; (try clear hb); (try clear hb2); (try clear hk); (try clear hi)))
    go_ret
    exact ⟨by first | rfl | (simp [errW_none, errW_some] <;> rfl) | (simp [*, errW_none, errW_some] <;> rfl), by repeat (first | (with_reducible first | exact HB.out | apply below_alloc | apply pw_below_drewN | apply below_drew1) | exact HB.out)⟩

/-- THE ONE PURE STATEMENT of tollbarlaw06_ScalarShows: yours. -/
def tollbarlaw06_ScalarShows.Pure : Prop := ∀ (a0 : Int), (Lit.int .u64 a0).wf = true → ∃ k, tollbarlaw06_ScalarShows.f k a0 = some true

/-! ### tollbarlaw06_ScalarUnits: function 5 -/
def tollbarlaw06_ScalarUnits.j0 : Nat → ByteArray → Bool → Option (Bool)
  | 0, _, _ => none
  | k + 1, x1, x82 => if x82 = true then (some false) else ((scalar_Rate.f x1).bind fun bt160 => (if bt160.2 = true then ((scalar_ShowRate.f bt160.1).bind fun t162 => (some (decide ((t162.size : Int) ≤ (x1.size : Int))))) else (some true)))
def tollbarlaw06_ScalarUnits.f (k : Nat) (a0 : Int) (a1 : ByteArray) : Option (Bool) := (tollbarlaw06_awake.f).bind fun t150 => (if t150 = true then (if (a1.size : Int) > 300 then (some true) else ((scalar_ShowUint.f a0).bind fun t151 => (if t151.size + 1 ≤ 9223372036854775807 then ((scalar_Rate.f (t151 ++ (⟨#[107]⟩ : ByteArray))).bind fun bt152 => ((scalar_Rate.f (t151 ++ (⟨#[109]⟩ : ByteArray))).bind fun bt154 => ((scalar_Uint.f (t151 ++ (⟨#[107]⟩ : ByteArray))).bind fun bt156 => (if t151.size + 2 ≤ 9223372036854775807 then ((scalar_Rate.f (t151 ++ (⟨#[107, 109]⟩ : ByteArray))).bind fun bt158 => (if (bt152.2 != (decide (a0 ≤ 18446744073709551))) = true then (tollbarlaw06_ScalarUnits.j0 k a1 true) else (if bt152.2 = true then (if bt152.1 = (IntKind.u64.wrap (1000 * a0)) then (if (bt154.2 != (decide (a0 ≤ 18446744073709))) = true then (tollbarlaw06_ScalarUnits.j0 k a1 true) else (if bt154.2 = true then (if bt154.1 = (IntKind.u64.wrap (1000000 * a0)) then (if bt156.2 = true then (tollbarlaw06_ScalarUnits.j0 k a1 true) else (tollbarlaw06_ScalarUnits.j0 k a1 bt158.2)) else (tollbarlaw06_ScalarUnits.j0 k a1 true)) else (if bt156.2 = true then (tollbarlaw06_ScalarUnits.j0 k a1 true) else (tollbarlaw06_ScalarUnits.j0 k a1 bt158.2)))) else (tollbarlaw06_ScalarUnits.j0 k a1 true)) else (if (bt154.2 != (decide (a0 ≤ 18446744073709))) = true then (tollbarlaw06_ScalarUnits.j0 k a1 true) else (if bt154.2 = true then (if bt154.1 = (IntKind.u64.wrap (1000000 * a0)) then (if bt156.2 = true then (tollbarlaw06_ScalarUnits.j0 k a1 true) else (tollbarlaw06_ScalarUnits.j0 k a1 bt158.2)) else (tollbarlaw06_ScalarUnits.j0 k a1 true)) else (if bt156.2 = true then (tollbarlaw06_ScalarUnits.j0 k a1 true) else (tollbarlaw06_ScalarUnits.j0 k a1 bt158.2))))))) else (none))))) else (none)))) else (some false))
theorem tollbarlaw06_ScalarUnits.mono_l : ∀ k, (∀ y0 y1, LeO (tollbarlaw06_ScalarUnits.j0 k y0 y1) (tollbarlaw06_ScalarUnits.j0 (k + 1) y0 y1))
  | 0 => fun _ _ r h => by simp [tollbarlaw06_ScalarUnits.j0] at h
  | k + 1 => by
    have ih0 := tollbarlaw06_ScalarUnits.mono_l k
    · intro y0 y1
      unfold tollbarlaw06_ScalarUnits.j0
      repeat' first
      | (with_reducible exact ih0 _ _)
      | (with_reducible exact LeO.refl _)
      | (with_reducible exact LeO.none _)
      | (with_reducible refine LeO.ite ?_ ?_)
      | (with_reducible refine LeO.bind ?_ (fun _ => ?_))
      | exact ih0 _ _
      | exact LeO.none _
      | refine LeO.ite ?_ ?_
      | refine LeO.bind ?_ (fun _ => ?_)
theorem tollbarlaw06_ScalarUnits.mono : ∀ a0 a1 k, LeO (tollbarlaw06_ScalarUnits.f k a0 a1) (tollbarlaw06_ScalarUnits.f (k + 1) a0 a1) := by
  intro a0 a1 k
  have ih0 := tollbarlaw06_ScalarUnits.mono_l k
  unfold tollbarlaw06_ScalarUnits.f
  repeat' first
      | (with_reducible exact ih0 _ _)
      | (with_reducible exact LeO.refl _)
      | (with_reducible exact LeO.none _)
      | (with_reducible refine LeO.ite ?_ ?_)
      | (with_reducible refine LeO.bind ?_ (fun _ => ?_))
      | exact ih0 _ _
      | exact LeO.none _
      | refine LeO.ite ?_ ?_
      | refine LeO.bind ?_ (fun _ => ?_)
set_option maxHeartbeats 8000000 in
set_option maxRecDepth 100000 in
theorem tollbarlaw06_ScalarUnits.calls (k : Nat) (a0 : Int) (a1 : ByteArray) (r : Bool) (w : World) (hG : G w) (h : tollbarlaw06_ScalarUnits.f k a0 a1 = some r) :
    Calls Tryd.prog 5 #[.int .u64 a0, .string a1] w fun e w' => e = .returned (.bool r) ∧ Below w.heap.size w w' := by
  have HG0 := Aside0.mk hG
  clear hG
  have HB := Aside0.mk (Below.refl w.heap.size w)
  have H : ((tollbarlaw06_awake.f).bind fun t150 => (if t150 = true then (if (a1.size : Int) > 300 then (some true) else ((scalar_ShowUint.f a0).bind fun t151 => (if t151.size + 1 ≤ 9223372036854775807 then ((scalar_Rate.f (t151 ++ (⟨#[107]⟩ : ByteArray))).bind fun bt152 => ((scalar_Rate.f (t151 ++ (⟨#[109]⟩ : ByteArray))).bind fun bt154 => ((scalar_Uint.f (t151 ++ (⟨#[107]⟩ : ByteArray))).bind fun bt156 => (if t151.size + 2 ≤ 9223372036854775807 then ((scalar_Rate.f (t151 ++ (⟨#[107, 109]⟩ : ByteArray))).bind fun bt158 => (if (bt152.2 != (decide (a0 ≤ 18446744073709551))) = true then (tollbarlaw06_ScalarUnits.j0 k a1 true) else (if bt152.2 = true then (if bt152.1 = (IntKind.u64.wrap (1000 * a0)) then (if (bt154.2 != (decide (a0 ≤ 18446744073709))) = true then (tollbarlaw06_ScalarUnits.j0 k a1 true) else (if bt154.2 = true then (if bt154.1 = (IntKind.u64.wrap (1000000 * a0)) then (if bt156.2 = true then (tollbarlaw06_ScalarUnits.j0 k a1 true) else (tollbarlaw06_ScalarUnits.j0 k a1 bt158.2)) else (tollbarlaw06_ScalarUnits.j0 k a1 true)) else (if bt156.2 = true then (tollbarlaw06_ScalarUnits.j0 k a1 true) else (tollbarlaw06_ScalarUnits.j0 k a1 bt158.2)))) else (tollbarlaw06_ScalarUnits.j0 k a1 true)) else (if (bt154.2 != (decide (a0 ≤ 18446744073709))) = true then (tollbarlaw06_ScalarUnits.j0 k a1 true) else (if bt154.2 = true then (if bt154.1 = (IntKind.u64.wrap (1000000 * a0)) then (if bt156.2 = true then (tollbarlaw06_ScalarUnits.j0 k a1 true) else (tollbarlaw06_ScalarUnits.j0 k a1 bt158.2)) else (tollbarlaw06_ScalarUnits.j0 k a1 true)) else (if bt156.2 = true then (tollbarlaw06_ScalarUnits.j0 k a1 true) else (tollbarlaw06_ScalarUnits.j0 k a1 bt158.2))))))) else (none))))) else (none)))) else (some false))) = some r := h
  clear h
  replace H := Option.bind_eq_some_iff.mp H
  obtain ⟨t150, A30, H⟩ := H
  replace H : (if t150 = true then (if (a1.size : Int) > 300 then (some true) else ((scalar_ShowUint.f a0).bind fun t151 => (if t151.size + 1 ≤ 9223372036854775807 then ((scalar_Rate.f (t151 ++ (⟨#[107]⟩ : ByteArray))).bind fun bt152 => ((scalar_Rate.f (t151 ++ (⟨#[109]⟩ : ByteArray))).bind fun bt154 => ((scalar_Uint.f (t151 ++ (⟨#[107]⟩ : ByteArray))).bind fun bt156 => (if t151.size + 2 ≤ 9223372036854775807 then ((scalar_Rate.f (t151 ++ (⟨#[107, 109]⟩ : ByteArray))).bind fun bt158 => (if (bt152.2 != (decide (a0 ≤ 18446744073709551))) = true then (tollbarlaw06_ScalarUnits.j0 k a1 true) else (if bt152.2 = true then (if bt152.1 = (IntKind.u64.wrap (1000 * a0)) then (if (bt154.2 != (decide (a0 ≤ 18446744073709))) = true then (tollbarlaw06_ScalarUnits.j0 k a1 true) else (if bt154.2 = true then (if bt154.1 = (IntKind.u64.wrap (1000000 * a0)) then (if bt156.2 = true then (tollbarlaw06_ScalarUnits.j0 k a1 true) else (tollbarlaw06_ScalarUnits.j0 k a1 bt158.2)) else (tollbarlaw06_ScalarUnits.j0 k a1 true)) else (if bt156.2 = true then (tollbarlaw06_ScalarUnits.j0 k a1 true) else (tollbarlaw06_ScalarUnits.j0 k a1 bt158.2)))) else (tollbarlaw06_ScalarUnits.j0 k a1 true)) else (if (bt154.2 != (decide (a0 ≤ 18446744073709))) = true then (tollbarlaw06_ScalarUnits.j0 k a1 true) else (if bt154.2 = true then (if bt154.1 = (IntKind.u64.wrap (1000000 * a0)) then (if bt156.2 = true then (tollbarlaw06_ScalarUnits.j0 k a1 true) else (tollbarlaw06_ScalarUnits.j0 k a1 bt158.2)) else (tollbarlaw06_ScalarUnits.j0 k a1 true)) else (if bt156.2 = true then (tollbarlaw06_ScalarUnits.j0 k a1 true) else (tollbarlaw06_ScalarUnits.j0 k a1 bt158.2))))))) else (none))))) else (none)))) else (some false)) = some r := H
  have A3 := Aside0.mk A30
  clear A30
  by_cases c4 : t150 = true
  · subst c4
    have H1 : (if (a1.size : Int) > 300 then (some true) else ((scalar_ShowUint.f a0).bind fun t151 => (if t151.size + 1 ≤ 9223372036854775807 then ((scalar_Rate.f (t151 ++ (⟨#[107]⟩ : ByteArray))).bind fun bt152 => ((scalar_Rate.f (t151 ++ (⟨#[109]⟩ : ByteArray))).bind fun bt154 => ((scalar_Uint.f (t151 ++ (⟨#[107]⟩ : ByteArray))).bind fun bt156 => (if t151.size + 2 ≤ 9223372036854775807 then ((scalar_Rate.f (t151 ++ (⟨#[107, 109]⟩ : ByteArray))).bind fun bt158 => (if (bt152.2 != (decide (a0 ≤ 18446744073709551))) = true then (tollbarlaw06_ScalarUnits.j0 k a1 true) else (if bt152.2 = true then (if bt152.1 = (IntKind.u64.wrap (1000 * a0)) then (if (bt154.2 != (decide (a0 ≤ 18446744073709))) = true then (tollbarlaw06_ScalarUnits.j0 k a1 true) else (if bt154.2 = true then (if bt154.1 = (IntKind.u64.wrap (1000000 * a0)) then (if bt156.2 = true then (tollbarlaw06_ScalarUnits.j0 k a1 true) else (tollbarlaw06_ScalarUnits.j0 k a1 bt158.2)) else (tollbarlaw06_ScalarUnits.j0 k a1 true)) else (if bt156.2 = true then (tollbarlaw06_ScalarUnits.j0 k a1 true) else (tollbarlaw06_ScalarUnits.j0 k a1 bt158.2)))) else (tollbarlaw06_ScalarUnits.j0 k a1 true)) else (if (bt154.2 != (decide (a0 ≤ 18446744073709))) = true then (tollbarlaw06_ScalarUnits.j0 k a1 true) else (if bt154.2 = true then (if bt154.1 = (IntKind.u64.wrap (1000000 * a0)) then (if bt156.2 = true then (tollbarlaw06_ScalarUnits.j0 k a1 true) else (tollbarlaw06_ScalarUnits.j0 k a1 bt158.2)) else (tollbarlaw06_ScalarUnits.j0 k a1 true)) else (if bt156.2 = true then (tollbarlaw06_ScalarUnits.j0 k a1 true) else (tollbarlaw06_ScalarUnits.j0 k a1 bt158.2))))))) else (none))))) else (none)))) = some r := by rw [if_pos rfl] at H; exact H
    clear H
    have H := H1
    clear H1
    by_cases c5 : (a1.size : Int) > 300
    · rw [if_pos c5] at H
      have c5b0 : decide (300 < (a1.size : Int)) = true := decide_eq_true c5
      have c5b1 : decide (300 < a1.size) = true := decide_eq_true (by omega)
      clear c5
      obtain rfl := Option.some.inj H
      go_enter Tryd.func5, Tryd.ntmps5
      go_wp2_with (first | ((with_reducible refine gate_callee (f := 7) rfl ?_); refine goesL_ (some 17) rfl rfl Tryd.func7 (by kernel_rfl) rfl #[] rfl (by (try simp only [List.map_toArray, List.map_cons, List.map_nil]); first | done | rfl | (simp only [List.length_drop, List.length_take]; rfl)) ?_; (with_reducible refine (tollbarlaw06_awake.calls  true _ (gOf HG0.out (by repeat (first | (with_reducible first | exact HB.out | apply below_alloc | apply pw_below_drewN | apply below_drew1) | exact HB.out))) A3.out).mono ?_); rintro e w6 ⟨rfl, hb⟩; refine ⟨_, rfl, ?_⟩; have n0_ := Aside0.mk (below_step (by repeat (first | (with_reducible first | exact HB.out | apply below_alloc | apply pw_below_drewN | apply below_drew1) | exact HB.out)) hb); clear HB; have HB := n0_; clear n0_; (try clear hb); (try clear hb2); (try clear hk); (try clear hi)))
      go_ret
      exact ⟨by first | rfl | (simp [errW_none, errW_some] <;> rfl) | (simp [*, errW_none, errW_some] <;> rfl), by repeat (first | (with_reducible first | exact HB.out | apply below_alloc | apply pw_below_drewN | apply below_drew1) | exact HB.out)⟩
    · rw [if_neg c5] at H
      have c5b0 : decide (300 < (a1.size : Int)) = false := decide_eq_false c5
      have c5b1 : decide (300 < a1.size) = false := decide_eq_false (by omega)
      clear c5
      replace H := Option.bind_eq_some_iff.mp H
      obtain ⟨t151, A70, H⟩ := H
      replace H : (if t151.size + 1 ≤ 9223372036854775807 then ((scalar_Rate.f (t151 ++ (⟨#[107]⟩ : ByteArray))).bind fun bt152 => ((scalar_Rate.f (t151 ++ (⟨#[109]⟩ : ByteArray))).bind fun bt154 => ((scalar_Uint.f (t151 ++ (⟨#[107]⟩ : ByteArray))).bind fun bt156 => (if t151.size + 2 ≤ 9223372036854775807 then ((scalar_Rate.f (t151 ++ (⟨#[107, 109]⟩ : ByteArray))).bind fun bt158 => (if (bt152.2 != (decide (a0 ≤ 18446744073709551))) = true then (tollbarlaw06_ScalarUnits.j0 k a1 true) else (if bt152.2 = true then (if bt152.1 = (IntKind.u64.wrap (1000 * a0)) then (if (bt154.2 != (decide (a0 ≤ 18446744073709))) = true then (tollbarlaw06_ScalarUnits.j0 k a1 true) else (if bt154.2 = true then (if bt154.1 = (IntKind.u64.wrap (1000000 * a0)) then (if bt156.2 = true then (tollbarlaw06_ScalarUnits.j0 k a1 true) else (tollbarlaw06_ScalarUnits.j0 k a1 bt158.2)) else (tollbarlaw06_ScalarUnits.j0 k a1 true)) else (if bt156.2 = true then (tollbarlaw06_ScalarUnits.j0 k a1 true) else (tollbarlaw06_ScalarUnits.j0 k a1 bt158.2)))) else (tollbarlaw06_ScalarUnits.j0 k a1 true)) else (if (bt154.2 != (decide (a0 ≤ 18446744073709))) = true then (tollbarlaw06_ScalarUnits.j0 k a1 true) else (if bt154.2 = true then (if bt154.1 = (IntKind.u64.wrap (1000000 * a0)) then (if bt156.2 = true then (tollbarlaw06_ScalarUnits.j0 k a1 true) else (tollbarlaw06_ScalarUnits.j0 k a1 bt158.2)) else (tollbarlaw06_ScalarUnits.j0 k a1 true)) else (if bt156.2 = true then (tollbarlaw06_ScalarUnits.j0 k a1 true) else (tollbarlaw06_ScalarUnits.j0 k a1 bt158.2))))))) else (none))))) else (none)) = some r := H
      have A7 := Aside0.mk A70
      clear A70
      by_cases c8 : t151.size + 1 ≤ 9223372036854775807
      · rw [if_pos c8] at H
        have c8b0 := eq_true c8
        have c8b1 : decide (t151.size + 1 ≤ 9223372036854775807) = true := decide_eq_true c8
        try have c8b2 : (9223372036854775807 < t151.size + 1) = False := eq_false (Nat.not_lt.2 c8)
        replace H := Option.bind_eq_some_iff.mp H
        obtain ⟨⟨t152, t153⟩, A90, H⟩ := H
        replace H : ((scalar_Rate.f (t151 ++ (⟨#[109]⟩ : ByteArray))).bind fun bt154 => ((scalar_Uint.f (t151 ++ (⟨#[107]⟩ : ByteArray))).bind fun bt156 => (if t151.size + 2 ≤ 9223372036854775807 then ((scalar_Rate.f (t151 ++ (⟨#[107, 109]⟩ : ByteArray))).bind fun bt158 => (if (t153 != (decide (a0 ≤ 18446744073709551))) = true then (tollbarlaw06_ScalarUnits.j0 k a1 true) else (if t153 = true then (if t152 = (IntKind.u64.wrap (1000 * a0)) then (if (bt154.2 != (decide (a0 ≤ 18446744073709))) = true then (tollbarlaw06_ScalarUnits.j0 k a1 true) else (if bt154.2 = true then (if bt154.1 = (IntKind.u64.wrap (1000000 * a0)) then (if bt156.2 = true then (tollbarlaw06_ScalarUnits.j0 k a1 true) else (tollbarlaw06_ScalarUnits.j0 k a1 bt158.2)) else (tollbarlaw06_ScalarUnits.j0 k a1 true)) else (if bt156.2 = true then (tollbarlaw06_ScalarUnits.j0 k a1 true) else (tollbarlaw06_ScalarUnits.j0 k a1 bt158.2)))) else (tollbarlaw06_ScalarUnits.j0 k a1 true)) else (if (bt154.2 != (decide (a0 ≤ 18446744073709))) = true then (tollbarlaw06_ScalarUnits.j0 k a1 true) else (if bt154.2 = true then (if bt154.1 = (IntKind.u64.wrap (1000000 * a0)) then (if bt156.2 = true then (tollbarlaw06_ScalarUnits.j0 k a1 true) else (tollbarlaw06_ScalarUnits.j0 k a1 bt158.2)) else (tollbarlaw06_ScalarUnits.j0 k a1 true)) else (if bt156.2 = true then (tollbarlaw06_ScalarUnits.j0 k a1 true) else (tollbarlaw06_ScalarUnits.j0 k a1 bt158.2))))))) else (none)))) = some r := H
        have A9 := Aside0.mk A90
        clear A90
        replace H := Option.bind_eq_some_iff.mp H
        obtain ⟨⟨t154, t155⟩, A100, H⟩ := H
        replace H : ((scalar_Uint.f (t151 ++ (⟨#[107]⟩ : ByteArray))).bind fun bt156 => (if t151.size + 2 ≤ 9223372036854775807 then ((scalar_Rate.f (t151 ++ (⟨#[107, 109]⟩ : ByteArray))).bind fun bt158 => (if (t153 != (decide (a0 ≤ 18446744073709551))) = true then (tollbarlaw06_ScalarUnits.j0 k a1 true) else (if t153 = true then (if t152 = (IntKind.u64.wrap (1000 * a0)) then (if (t155 != (decide (a0 ≤ 18446744073709))) = true then (tollbarlaw06_ScalarUnits.j0 k a1 true) else (if t155 = true then (if t154 = (IntKind.u64.wrap (1000000 * a0)) then (if bt156.2 = true then (tollbarlaw06_ScalarUnits.j0 k a1 true) else (tollbarlaw06_ScalarUnits.j0 k a1 bt158.2)) else (tollbarlaw06_ScalarUnits.j0 k a1 true)) else (if bt156.2 = true then (tollbarlaw06_ScalarUnits.j0 k a1 true) else (tollbarlaw06_ScalarUnits.j0 k a1 bt158.2)))) else (tollbarlaw06_ScalarUnits.j0 k a1 true)) else (if (t155 != (decide (a0 ≤ 18446744073709))) = true then (tollbarlaw06_ScalarUnits.j0 k a1 true) else (if t155 = true then (if t154 = (IntKind.u64.wrap (1000000 * a0)) then (if bt156.2 = true then (tollbarlaw06_ScalarUnits.j0 k a1 true) else (tollbarlaw06_ScalarUnits.j0 k a1 bt158.2)) else (tollbarlaw06_ScalarUnits.j0 k a1 true)) else (if bt156.2 = true then (tollbarlaw06_ScalarUnits.j0 k a1 true) else (tollbarlaw06_ScalarUnits.j0 k a1 bt158.2))))))) else (none))) = some r := H
        have A10 := Aside0.mk A100
        clear A100
        replace H := Option.bind_eq_some_iff.mp H
        obtain ⟨⟨t156, t157⟩, A110, H⟩ := H
        replace H : (if t151.size + 2 ≤ 9223372036854775807 then ((scalar_Rate.f (t151 ++ (⟨#[107, 109]⟩ : ByteArray))).bind fun bt158 => (if (t153 != (decide (a0 ≤ 18446744073709551))) = true then (tollbarlaw06_ScalarUnits.j0 k a1 true) else (if t153 = true then (if t152 = (IntKind.u64.wrap (1000 * a0)) then (if (t155 != (decide (a0 ≤ 18446744073709))) = true then (tollbarlaw06_ScalarUnits.j0 k a1 true) else (if t155 = true then (if t154 = (IntKind.u64.wrap (1000000 * a0)) then (if t157 = true then (tollbarlaw06_ScalarUnits.j0 k a1 true) else (tollbarlaw06_ScalarUnits.j0 k a1 bt158.2)) else (tollbarlaw06_ScalarUnits.j0 k a1 true)) else (if t157 = true then (tollbarlaw06_ScalarUnits.j0 k a1 true) else (tollbarlaw06_ScalarUnits.j0 k a1 bt158.2)))) else (tollbarlaw06_ScalarUnits.j0 k a1 true)) else (if (t155 != (decide (a0 ≤ 18446744073709))) = true then (tollbarlaw06_ScalarUnits.j0 k a1 true) else (if t155 = true then (if t154 = (IntKind.u64.wrap (1000000 * a0)) then (if t157 = true then (tollbarlaw06_ScalarUnits.j0 k a1 true) else (tollbarlaw06_ScalarUnits.j0 k a1 bt158.2)) else (tollbarlaw06_ScalarUnits.j0 k a1 true)) else (if t157 = true then (tollbarlaw06_ScalarUnits.j0 k a1 true) else (tollbarlaw06_ScalarUnits.j0 k a1 bt158.2))))))) else (none)) = some r := H
        have A11 := Aside0.mk A110
        clear A110
        by_cases c12 : t151.size + 2 ≤ 9223372036854775807
        · rw [if_pos c12] at H
          have c12b0 := eq_true c12
          have c12b1 : decide (t151.size + 2 ≤ 9223372036854775807) = true := decide_eq_true c12
          try have c12b2 : (9223372036854775807 < t151.size + 2) = False := eq_false (Nat.not_lt.2 c12)
          replace H := Option.bind_eq_some_iff.mp H
          obtain ⟨⟨t158, t159⟩, A130, H⟩ := H
          replace H : (if (t153 != (decide (a0 ≤ 18446744073709551))) = true then (tollbarlaw06_ScalarUnits.j0 k a1 true) else (if t153 = true then (if t152 = (IntKind.u64.wrap (1000 * a0)) then (if (t155 != (decide (a0 ≤ 18446744073709))) = true then (tollbarlaw06_ScalarUnits.j0 k a1 true) else (if t155 = true then (if t154 = (IntKind.u64.wrap (1000000 * a0)) then (if t157 = true then (tollbarlaw06_ScalarUnits.j0 k a1 true) else (tollbarlaw06_ScalarUnits.j0 k a1 t159)) else (tollbarlaw06_ScalarUnits.j0 k a1 true)) else (if t157 = true then (tollbarlaw06_ScalarUnits.j0 k a1 true) else (tollbarlaw06_ScalarUnits.j0 k a1 t159)))) else (tollbarlaw06_ScalarUnits.j0 k a1 true)) else (if (t155 != (decide (a0 ≤ 18446744073709))) = true then (tollbarlaw06_ScalarUnits.j0 k a1 true) else (if t155 = true then (if t154 = (IntKind.u64.wrap (1000000 * a0)) then (if t157 = true then (tollbarlaw06_ScalarUnits.j0 k a1 true) else (tollbarlaw06_ScalarUnits.j0 k a1 t159)) else (tollbarlaw06_ScalarUnits.j0 k a1 true)) else (if t157 = true then (tollbarlaw06_ScalarUnits.j0 k a1 true) else (tollbarlaw06_ScalarUnits.j0 k a1 t159)))))) = some r := H
          have A13 := Aside0.mk A130
          clear A130
          have HC14 := Aside0.mk H
          clear H
          go_enter Tryd.func5, Tryd.ntmps5
          go_upto_region 11 with (first | ((with_reducible refine gate_callee (f := 7) rfl ?_); refine goesL_ (some 17) rfl rfl Tryd.func7 (by kernel_rfl) rfl #[] rfl (by (try simp only [List.map_toArray, List.map_cons, List.map_nil]); first | done | rfl | (simp only [List.length_drop, List.length_take]; rfl)) ?_; (with_reducible refine (tollbarlaw06_awake.calls  true _ (gOf HG0.out (by repeat (first | (with_reducible first | exact HB.out | apply below_alloc | apply pw_below_drewN | apply below_drew1) | exact HB.out))) A3.out).mono ?_); rintro e w15 ⟨rfl, hb⟩; refine ⟨_, rfl, ?_⟩; have n0_ := Aside0.mk (below_step (by repeat (first | (with_reducible first | exact HB.out | apply below_alloc | apply pw_below_drewN | apply below_drew1) | exact HB.out)) hb); clear HB; have HB := n0_; clear n0_; (try clear hb); (try clear hb2); (try clear hk); (try clear hi)) | ((with_reducible refine gate_callee (f := 14) rfl ?_); refine goesL_ (some 24) rfl rfl Tryd.func14 (by kernel_rfl) rfl #[.int .u64 a0] rfl (by (try simp only [List.map_toArray, List.map_cons, List.map_nil]); first | done | rfl | (simp only [List.length_drop, List.length_take]; rfl)) ?_; (with_reducible refine (scalar_ShowUint.calls a0 t151 _ (gOf HG0.out (by repeat (first | (with_reducible first | exact HB.out | apply below_alloc | apply pw_below_drewN | apply below_drew1) | exact HB.out))) A7.out).mono ?_); rintro e w16 ⟨rfl, hb⟩; refine ⟨_, rfl, ?_⟩; have n0_ := Aside0.mk (below_step (by repeat (first | (with_reducible first | exact HB.out | apply below_alloc | apply pw_below_drewN | apply below_drew1) | exact HB.out)) hb); clear HB; have HB := n0_; clear n0_; (try clear hb); (try clear hb2); (try clear hk); (try clear hi)) | ((with_reducible refine gate_callee (f := 10) rfl ?_); refine goesL_ (some 28) rfl rfl Tryd.func10 (by kernel_rfl) rfl #[.string (t151 ++ (⟨#[107]⟩ : ByteArray))] rfl (by (try simp only [List.map_toArray, List.map_cons, List.map_nil]); first | done | rfl | (simp only [List.length_drop, List.length_take]; rfl)) ?_; (with_reducible refine (scalar_Rate.calls (t151 ++ (⟨#[107]⟩ : ByteArray)) t152 t153 _ (gOf HG0.out (by repeat (first | (with_reducible first | exact HB.out | apply below_alloc | apply pw_below_drewN | apply below_drew1) | exact HB.out))) A9.out).mono ?_); rintro e w17 ⟨rfl, hb⟩; refine ⟨_, rfl, ?_⟩; have n0_ := Aside0.mk (below_step (by repeat (first | (with_reducible first | exact HB.out | apply below_alloc | apply pw_below_drewN | apply below_drew1) | exact HB.out)) hb); clear HB; have HB := n0_; clear n0_; (try clear hb); (try clear hb2); (try clear hk); (try clear hi)) | ((with_reducible refine gate_callee (f := 10) rfl ?_); refine goesL_ (some 34) rfl rfl Tryd.func10 (by kernel_rfl) rfl #[.string (t151 ++ (⟨#[109]⟩ : ByteArray))] rfl (by (try simp only [List.map_toArray, List.map_cons, List.map_nil]); first | done | rfl | (simp only [List.length_drop, List.length_take]; rfl)) ?_; (with_reducible refine (scalar_Rate.calls (t151 ++ (⟨#[109]⟩ : ByteArray)) t154 t155 _ (gOf HG0.out (by repeat (first | (with_reducible first | exact HB.out | apply below_alloc | apply pw_below_drewN | apply below_drew1) | exact HB.out))) A10.out).mono ?_); rintro e w18 ⟨rfl, hb⟩; refine ⟨_, rfl, ?_⟩; have n0_ := Aside0.mk (below_step (by repeat (first | (with_reducible first | exact HB.out | apply below_alloc | apply pw_below_drewN | apply below_drew1) | exact HB.out)) hb); clear HB; have HB := n0_; clear n0_; (try clear hb); (try clear hb2); (try clear hk); (try clear hi)) | ((with_reducible refine gate_callee (f := 8) rfl ?_); refine goesL_ (some 40) rfl rfl Tryd.func8 (by kernel_rfl) rfl #[.string (t151 ++ (⟨#[107]⟩ : ByteArray))] rfl (by (try simp only [List.map_toArray, List.map_cons, List.map_nil]); first | done | rfl | (simp only [List.length_drop, List.length_take]; rfl)) ?_; (with_reducible refine (scalar_Uint.calls (t151 ++ (⟨#[107]⟩ : ByteArray)) t156 t157 _ (gOf HG0.out (by repeat (first | (with_reducible first | exact HB.out | apply below_alloc | apply pw_below_drewN | apply below_drew1) | exact HB.out))) A11.out).mono ?_); rintro e w19 ⟨rfl, hb⟩; refine ⟨_, rfl, ?_⟩; have n0_ := Aside0.mk (below_step (by repeat (first | (with_reducible first | exact HB.out | apply below_alloc | apply pw_below_drewN | apply below_drew1) | exact HB.out)) hb); clear HB; have HB := n0_; clear n0_; (try clear hb); (try clear hb2); (try clear hk); (try clear hi)) | ((with_reducible refine gate_callee (f := 10) rfl ?_); refine goesL_ (some 46) rfl rfl Tryd.func10 (by kernel_rfl) rfl #[.string (t151 ++ (⟨#[107, 109]⟩ : ByteArray))] rfl (by (try simp only [List.map_toArray, List.map_cons, List.map_nil]); first | done | rfl | (simp only [List.length_drop, List.length_take]; rfl)) ?_; (with_reducible refine (scalar_Rate.calls (t151 ++ (⟨#[107, 109]⟩ : ByteArray)) t158 t159 _ (gOf HG0.out (by repeat (first | (with_reducible first | exact HB.out | apply below_alloc | apply pw_below_drewN | apply below_drew1) | exact HB.out))) A13.out).mono ?_); rintro e w20 ⟨rfl, hb⟩; refine ⟨_, rfl, ?_⟩; have n0_ := Aside0.mk (below_step (by repeat (first | (with_reducible first | exact HB.out | apply below_alloc | apply pw_below_drewN | apply below_drew1) | exact HB.out)) hb); clear HB; have HB := n0_; clear n0_; (try clear hb); (try clear hb2); (try clear hk); (try clear hi)))
          (try simp only [Act.put, List.setIfInBounds_toArray, List.set_cons_zero, List.set_cons_succ])
          go_cut [82] (fun v82 wc => ∃ (kq : Nat) (x82_13 : Bool), v82 = .bool x82_13 ∧ Aside0 (tollbarlaw06_ScalarUnits.j0 kq a1 x82_13 = some r) ∧ Aside0 (kq ≤ k) ∧ Aside0 (Below w.heap.size w wc))
          case first =>
            have H := HC14.out
            clear HC14
            by_cases c21 : (t153 != (decide (a0 ≤ 18446744073709551))) = true
            · rw [if_pos c21] at H
              have c21b0 : (t153 != (decide (a0 ≤ 18446744073709551))) = true := c21
              (try (have c21b1 : decide (t153 = (decide (a0 ≤ 18446744073709551))) = false := by simpa using c21))
              (try (have c21b2 : (t153 == (decide (a0 ≤ 18446744073709551))) = false := by simpa using c21))
              (try (have c21b3 : ¬ (t153 = (decide (a0 ≤ 18446744073709551))) := by simpa using c21))
              clear c21
              (first | rw [c21b0] | (simp only [i64_w, i32_w]; rw [c21b0]) | skip)
              have H' := Aside0.mk H
              clear H
              go_wp2
              go_meet
              case rel => exact ⟨_, (true), (by first | rfl | (simp; done) | (simp [*]; done) | exact congrArg Value.bool (isEmpty_ne _)), H', ⟨by first | omega | exact Nat.le_refl _⟩, ⟨by repeat (first | (with_reducible first | exact HB.out | apply below_alloc | apply pw_below_drewN | apply below_drew1) | exact HB.out)⟩⟩
            · rw [if_neg c21] at H
              have c21b0 : (t153 != (decide (a0 ≤ 18446744073709551))) = false := by simpa using c21
              (try (have c21b1 : decide (t153 = (decide (a0 ≤ 18446744073709551))) = true := by simpa using c21))
              (try (have c21b2 : (t153 == (decide (a0 ≤ 18446744073709551))) = true := by simpa using c21))
              clear c21
              (first | rw [c21b0] | (simp only [i64_w, i32_w]; rw [c21b0]) | skip)
              by_cases c22 : t153 = true
              · subst c22
                have H1 : (if t152 = (IntKind.u64.wrap (1000 * a0)) then (if (t155 != (decide (a0 ≤ 18446744073709))) = true then (tollbarlaw06_ScalarUnits.j0 k a1 true) else (if t155 = true then (if t154 = (IntKind.u64.wrap (1000000 * a0)) then (if t157 = true then (tollbarlaw06_ScalarUnits.j0 k a1 true) else (tollbarlaw06_ScalarUnits.j0 k a1 t159)) else (tollbarlaw06_ScalarUnits.j0 k a1 true)) else (if t157 = true then (tollbarlaw06_ScalarUnits.j0 k a1 true) else (tollbarlaw06_ScalarUnits.j0 k a1 t159)))) else (tollbarlaw06_ScalarUnits.j0 k a1 true)) = some r := by rw [if_pos rfl] at H; exact H
                clear H
                have H := H1
                clear H1
                by_cases c23 : t152 = (IntKind.u64.wrap (1000 * a0))
                · rw [if_pos c23] at H
                  have c23b0 : (t152 == (IntKind.u64.wrap (1000 * a0))) = true := beq_iff_eq.mpr c23
                  have c23b1 : (t152 != (IntKind.u64.wrap (1000 * a0))) = false := bne_eq_false_iff_eq.mpr c23
                  clear c23
                  by_cases c24 : (t155 != (decide (a0 ≤ 18446744073709))) = true
                  · rw [if_pos c24] at H
                    have c24b0 : (t155 != (decide (a0 ≤ 18446744073709))) = true := c24
                    (try (have c24b1 : decide (t155 = (decide (a0 ≤ 18446744073709))) = false := by simpa using c24))
                    (try (have c24b2 : (t155 == (decide (a0 ≤ 18446744073709))) = false := by simpa using c24))
                    (try (have c24b3 : ¬ (t155 = (decide (a0 ≤ 18446744073709))) := by simpa using c24))
                    clear c24
                    have H' := Aside0.mk H
                    clear H
                    go_wp2
                    go_meet
                    case rel => exact ⟨_, (true), (by first | rfl | (simp; done) | (simp [*]; done) | exact congrArg Value.bool (isEmpty_ne _)), H', ⟨by first | omega | exact Nat.le_refl _⟩, ⟨by repeat (first | (with_reducible first | exact HB.out | apply below_alloc | apply pw_below_drewN | apply below_drew1) | exact HB.out)⟩⟩
                  · rw [if_neg c24] at H
                    have c24b0 : (t155 != (decide (a0 ≤ 18446744073709))) = false := by simpa using c24
                    (try (have c24b1 : decide (t155 = (decide (a0 ≤ 18446744073709))) = true := by simpa using c24))
                    (try (have c24b2 : (t155 == (decide (a0 ≤ 18446744073709))) = true := by simpa using c24))
                    clear c24
                    by_cases c25 : t155 = true
                    · subst c25
                      have H1 : (if t154 = (IntKind.u64.wrap (1000000 * a0)) then (if t157 = true then (tollbarlaw06_ScalarUnits.j0 k a1 true) else (tollbarlaw06_ScalarUnits.j0 k a1 t159)) else (tollbarlaw06_ScalarUnits.j0 k a1 true)) = some r := by rw [if_pos rfl] at H; exact H
                      clear H
                      have H := H1
                      clear H1
                      by_cases c26 : t154 = (IntKind.u64.wrap (1000000 * a0))
                      · rw [if_pos c26] at H
                        have c26b0 : (t154 == (IntKind.u64.wrap (1000000 * a0))) = true := beq_iff_eq.mpr c26
                        have c26b1 : (t154 != (IntKind.u64.wrap (1000000 * a0))) = false := bne_eq_false_iff_eq.mpr c26
                        clear c26
                        by_cases c27 : t157 = true
                        · subst c27
                          have H1 : (tollbarlaw06_ScalarUnits.j0 k a1 true) = some r := by rw [if_pos rfl] at H; exact H
                          clear H
                          have H := H1
                          clear H1
                          have H' := Aside0.mk H
                          clear H
                          go_wp2
                          go_meet
                          case rel => exact ⟨_, (true), (by first | rfl | (simp; done) | (simp [*]; done) | exact congrArg Value.bool (isEmpty_ne _)), H', ⟨by first | omega | exact Nat.le_refl _⟩, ⟨by repeat (first | (with_reducible first | exact HB.out | apply below_alloc | apply pw_below_drewN | apply below_drew1) | exact HB.out)⟩⟩
                        · replace c27 := Bool.eq_false_iff.mpr c27
                          subst c27
                          have H1 : (tollbarlaw06_ScalarUnits.j0 k a1 t159) = some r := by rw [if_neg (show ¬ (false = true) by decide)] at H; exact H
                          clear H
                          have H := H1
                          clear H1
                          have H' := Aside0.mk H
                          clear H
                          go_wp2
                          go_meet
                          case rel => exact ⟨_, (t159), (by first | rfl | (simp; done) | (simp [*]; done) | exact congrArg Value.bool (isEmpty_ne _)), H', ⟨by first | omega | exact Nat.le_refl _⟩, ⟨by repeat (first | (with_reducible first | exact HB.out | apply below_alloc | apply pw_below_drewN | apply below_drew1) | exact HB.out)⟩⟩
                      · rw [if_neg c26] at H
                        have c26b0 : (t154 == (IntKind.u64.wrap (1000000 * a0))) = false := beq_eq_false_iff_ne.mpr c26
                        have c26b1 : (t154 != (IntKind.u64.wrap (1000000 * a0))) = true := bne_iff_ne.mpr c26
                        have H' := Aside0.mk H
                        clear H
                        go_wp2
                        go_meet
                        case rel => exact ⟨_, (true), (by first | rfl | (simp; done) | (simp [*]; done) | exact congrArg Value.bool (isEmpty_ne _)), H', ⟨by first | omega | exact Nat.le_refl _⟩, ⟨by repeat (first | (with_reducible first | exact HB.out | apply below_alloc | apply pw_below_drewN | apply below_drew1) | exact HB.out)⟩⟩
                    · replace c25 := Bool.eq_false_iff.mpr c25
                      subst c25
                      have H1 : (if t157 = true then (tollbarlaw06_ScalarUnits.j0 k a1 true) else (tollbarlaw06_ScalarUnits.j0 k a1 t159)) = some r := by rw [if_neg (show ¬ (false = true) by decide)] at H; exact H
                      clear H
                      have H := H1
                      clear H1
                      by_cases c28 : t157 = true
                      · subst c28
                        have H1 : (tollbarlaw06_ScalarUnits.j0 k a1 true) = some r := by rw [if_pos rfl] at H; exact H
                        clear H
                        have H := H1
                        clear H1
                        have H' := Aside0.mk H
                        clear H
                        go_wp2
                        go_meet
                        case rel => exact ⟨_, (true), (by first | rfl | (simp; done) | (simp [*]; done) | exact congrArg Value.bool (isEmpty_ne _)), H', ⟨by first | omega | exact Nat.le_refl _⟩, ⟨by repeat (first | (with_reducible first | exact HB.out | apply below_alloc | apply pw_below_drewN | apply below_drew1) | exact HB.out)⟩⟩
                      · replace c28 := Bool.eq_false_iff.mpr c28
                        subst c28
                        have H1 : (tollbarlaw06_ScalarUnits.j0 k a1 t159) = some r := by rw [if_neg (show ¬ (false = true) by decide)] at H; exact H
                        clear H
                        have H := H1
                        clear H1
                        have H' := Aside0.mk H
                        clear H
                        go_wp2
                        go_meet
                        case rel => exact ⟨_, (t159), (by first | rfl | (simp; done) | (simp [*]; done) | exact congrArg Value.bool (isEmpty_ne _)), H', ⟨by first | omega | exact Nat.le_refl _⟩, ⟨by repeat (first | (with_reducible first | exact HB.out | apply below_alloc | apply pw_below_drewN | apply below_drew1) | exact HB.out)⟩⟩
                · rw [if_neg c23] at H
                  have c23b0 : (t152 == (IntKind.u64.wrap (1000 * a0))) = false := beq_eq_false_iff_ne.mpr c23
                  have c23b1 : (t152 != (IntKind.u64.wrap (1000 * a0))) = true := bne_iff_ne.mpr c23
                  have H' := Aside0.mk H
                  clear H
                  go_wp2
                  go_meet
                  case rel => exact ⟨_, (true), (by first | rfl | (simp; done) | (simp [*]; done) | exact congrArg Value.bool (isEmpty_ne _)), H', ⟨by first | omega | exact Nat.le_refl _⟩, ⟨by repeat (first | (with_reducible first | exact HB.out | apply below_alloc | apply pw_below_drewN | apply below_drew1) | exact HB.out)⟩⟩
              · replace c22 := Bool.eq_false_iff.mpr c22
                subst c22
                have H1 : (if (t155 != (decide (a0 ≤ 18446744073709))) = true then (tollbarlaw06_ScalarUnits.j0 k a1 true) else (if t155 = true then (if t154 = (IntKind.u64.wrap (1000000 * a0)) then (if t157 = true then (tollbarlaw06_ScalarUnits.j0 k a1 true) else (tollbarlaw06_ScalarUnits.j0 k a1 t159)) else (tollbarlaw06_ScalarUnits.j0 k a1 true)) else (if t157 = true then (tollbarlaw06_ScalarUnits.j0 k a1 true) else (tollbarlaw06_ScalarUnits.j0 k a1 t159)))) = some r := by rw [if_neg (show ¬ (false = true) by decide)] at H; exact H
                clear H
                have H := H1
                clear H1
                by_cases c29 : (t155 != (decide (a0 ≤ 18446744073709))) = true
                · rw [if_pos c29] at H
                  have c29b0 : (t155 != (decide (a0 ≤ 18446744073709))) = true := c29
                  (try (have c29b1 : decide (t155 = (decide (a0 ≤ 18446744073709))) = false := by simpa using c29))
                  (try (have c29b2 : (t155 == (decide (a0 ≤ 18446744073709))) = false := by simpa using c29))
                  (try (have c29b3 : ¬ (t155 = (decide (a0 ≤ 18446744073709))) := by simpa using c29))
                  clear c29
                  have H' := Aside0.mk H
                  clear H
                  go_wp2
                  go_meet
                  case rel => exact ⟨_, (true), (by first | rfl | (simp; done) | (simp [*]; done) | exact congrArg Value.bool (isEmpty_ne _)), H', ⟨by first | omega | exact Nat.le_refl _⟩, ⟨by repeat (first | (with_reducible first | exact HB.out | apply below_alloc | apply pw_below_drewN | apply below_drew1) | exact HB.out)⟩⟩
                · rw [if_neg c29] at H
                  have c29b0 : (t155 != (decide (a0 ≤ 18446744073709))) = false := by simpa using c29
                  (try (have c29b1 : decide (t155 = (decide (a0 ≤ 18446744073709))) = true := by simpa using c29))
                  (try (have c29b2 : (t155 == (decide (a0 ≤ 18446744073709))) = true := by simpa using c29))
                  clear c29
                  by_cases c30 : t155 = true
                  · subst c30
                    have H1 : (if t154 = (IntKind.u64.wrap (1000000 * a0)) then (if t157 = true then (tollbarlaw06_ScalarUnits.j0 k a1 true) else (tollbarlaw06_ScalarUnits.j0 k a1 t159)) else (tollbarlaw06_ScalarUnits.j0 k a1 true)) = some r := by rw [if_pos rfl] at H; exact H
                    clear H
                    have H := H1
                    clear H1
                    by_cases c31 : t154 = (IntKind.u64.wrap (1000000 * a0))
                    · rw [if_pos c31] at H
                      have c31b0 : (t154 == (IntKind.u64.wrap (1000000 * a0))) = true := beq_iff_eq.mpr c31
                      have c31b1 : (t154 != (IntKind.u64.wrap (1000000 * a0))) = false := bne_eq_false_iff_eq.mpr c31
                      clear c31
                      by_cases c32 : t157 = true
                      · subst c32
                        have H1 : (tollbarlaw06_ScalarUnits.j0 k a1 true) = some r := by rw [if_pos rfl] at H; exact H
                        clear H
                        have H := H1
                        clear H1
                        have H' := Aside0.mk H
                        clear H
                        go_wp2
                        go_meet
                        case rel => exact ⟨_, (true), (by first | rfl | (simp; done) | (simp [*]; done) | exact congrArg Value.bool (isEmpty_ne _)), H', ⟨by first | omega | exact Nat.le_refl _⟩, ⟨by repeat (first | (with_reducible first | exact HB.out | apply below_alloc | apply pw_below_drewN | apply below_drew1) | exact HB.out)⟩⟩
                      · replace c32 := Bool.eq_false_iff.mpr c32
                        subst c32
                        have H1 : (tollbarlaw06_ScalarUnits.j0 k a1 t159) = some r := by rw [if_neg (show ¬ (false = true) by decide)] at H; exact H
                        clear H
                        have H := H1
                        clear H1
                        have H' := Aside0.mk H
                        clear H
                        go_wp2
                        go_meet
                        case rel => exact ⟨_, (t159), (by first | rfl | (simp; done) | (simp [*]; done) | exact congrArg Value.bool (isEmpty_ne _)), H', ⟨by first | omega | exact Nat.le_refl _⟩, ⟨by repeat (first | (with_reducible first | exact HB.out | apply below_alloc | apply pw_below_drewN | apply below_drew1) | exact HB.out)⟩⟩
                    · rw [if_neg c31] at H
                      have c31b0 : (t154 == (IntKind.u64.wrap (1000000 * a0))) = false := beq_eq_false_iff_ne.mpr c31
                      have c31b1 : (t154 != (IntKind.u64.wrap (1000000 * a0))) = true := bne_iff_ne.mpr c31
                      have H' := Aside0.mk H
                      clear H
                      go_wp2
                      go_meet
                      case rel => exact ⟨_, (true), (by first | rfl | (simp; done) | (simp [*]; done) | exact congrArg Value.bool (isEmpty_ne _)), H', ⟨by first | omega | exact Nat.le_refl _⟩, ⟨by repeat (first | (with_reducible first | exact HB.out | apply below_alloc | apply pw_below_drewN | apply below_drew1) | exact HB.out)⟩⟩
                  · replace c30 := Bool.eq_false_iff.mpr c30
                    subst c30
                    have H1 : (if t157 = true then (tollbarlaw06_ScalarUnits.j0 k a1 true) else (tollbarlaw06_ScalarUnits.j0 k a1 t159)) = some r := by rw [if_neg (show ¬ (false = true) by decide)] at H; exact H
                    clear H
                    have H := H1
                    clear H1
                    by_cases c33 : t157 = true
                    · subst c33
                      have H1 : (tollbarlaw06_ScalarUnits.j0 k a1 true) = some r := by rw [if_pos rfl] at H; exact H
                      clear H
                      have H := H1
                      clear H1
                      have H' := Aside0.mk H
                      clear H
                      go_wp2
                      go_meet
                      case rel => exact ⟨_, (true), (by first | rfl | (simp; done) | (simp [*]; done) | exact congrArg Value.bool (isEmpty_ne _)), H', ⟨by first | omega | exact Nat.le_refl _⟩, ⟨by repeat (first | (with_reducible first | exact HB.out | apply below_alloc | apply pw_below_drewN | apply below_drew1) | exact HB.out)⟩⟩
                    · replace c33 := Bool.eq_false_iff.mpr c33
                      subst c33
                      have H1 : (tollbarlaw06_ScalarUnits.j0 k a1 t159) = some r := by rw [if_neg (show ¬ (false = true) by decide)] at H; exact H
                      clear H
                      have H := H1
                      clear H1
                      have H' := Aside0.mk H
                      clear H
                      go_wp2
                      go_meet
                      case rel => exact ⟨_, (t159), (by first | rfl | (simp; done) | (simp [*]; done) | exact congrArg Value.bool (isEmpty_ne _)), H', ⟨by first | omega | exact Nat.le_refl _⟩, ⟨by repeat (first | (with_reducible first | exact HB.out | apply below_alloc | apply pw_below_drewN | apply below_drew1) | exact HB.out)⟩⟩
          case rest =>
            clear HC14
            try clear c1
            try clear c2
            try clear p2
            try clear c3
            try clear c4
            try clear c5
            try clear c5b0
            try clear c5b1
            try clear c7
            try clear c8
            try clear c8b0
            try clear c8b1
            try clear c8b2
            try clear c10
            try clear c12
            try clear c12b0
            try clear c12b1
            try clear c12b2
            try clear c14
            try clear c21
            try clear c21b0
            try clear c21b1
            try clear c21b2
            try clear c22
            try clear c23
            try clear c23b0
            try clear c23b1
            try clear c24
            try clear c24b0
            try clear c24b1
            try clear c24b2
            try clear c25
            try clear c26
            try clear c26b0
            try clear c26b1
            try clear c27
            try clear c28
            try clear c29
            try clear c29b0
            try clear c29b1
            try clear c29b2
            try clear c30
            try clear c31
            try clear c31b0
            try clear c31b1
            try clear c32
            try clear c33
            obtain ⟨kq, x82_13, rfl, HA, HJ13, HB⟩ := hcut
            cases kq with
            | zero => exact absurd HA.out (by simp [tollbarlaw06_ScalarUnits.j0])
            | succ kj13 =>
              have H := HA.out
              clear HA
              simp only [tollbarlaw06_ScalarUnits.j0] at H
              by_cases c34 : x82_13 = true
              · subst c34
                have H1 : (some false) = some r := by rw [if_pos rfl] at H; exact H
                clear H
                have H := H1
                clear H1
                obtain rfl := Option.some.inj H
                go_wp2
                go_ret
                exact ⟨by first | rfl | (simp [errW_none, errW_some] <;> rfl) | (simp [*, errW_none, errW_some] <;> rfl), by repeat (first | (with_reducible first | exact HB.out | apply below_alloc | apply pw_below_drewN | apply below_drew1) | exact HB.out)⟩
              · replace c34 := Bool.eq_false_iff.mpr c34
                subst c34
                have H1 : ((scalar_Rate.f a1).bind fun bt160 => (if bt160.2 = true then ((scalar_ShowRate.f bt160.1).bind fun t162 => (some (decide ((t162.size : Int) ≤ (a1.size : Int))))) else (some true))) = some r := by rw [if_neg (show ¬ (false = true) by decide)] at H; exact H
                clear H
                have H := H1
                clear H1
                replace H := Option.bind_eq_some_iff.mp H
                obtain ⟨⟨t160, t161⟩, A350, H⟩ := H
                replace H : (if t161 = true then ((scalar_ShowRate.f t160).bind fun t162 => (some (decide ((t162.size : Int) ≤ (a1.size : Int))))) else (some true)) = some r := H
                have A35 := Aside0.mk A350
                clear A350
                by_cases c36 : t161 = true
                · subst c36
                  have H1 : ((scalar_ShowRate.f t160).bind fun t162 => (some (decide ((t162.size : Int) ≤ (a1.size : Int))))) = some r := by rw [if_pos rfl] at H; exact H
                  clear H
                  have H := H1
                  clear H1
                  replace H := Option.bind_eq_some_iff.mp H
                  obtain ⟨t162, A370, H⟩ := H
                  replace H : (some (decide ((t162.size : Int) ≤ (a1.size : Int)))) = some r := H
                  have A37 := Aside0.mk A370
                  clear A370
                  obtain rfl := Option.some.inj H
                  go_wp2_with (first | ((with_reducible refine gate_callee (f := 10) rfl ?_); refine goesL_ (some 85) rfl rfl Tryd.func10 (by kernel_rfl) rfl #[.string a1] rfl (by (try simp only [List.map_toArray, List.map_cons, List.map_nil]); first | done | rfl | (simp only [List.length_drop, List.length_take]; rfl)) ?_; (with_reducible refine (scalar_Rate.calls a1 t160 true _ (gOf HG0.out (by repeat (first | (with_reducible first | exact HB.out | apply below_alloc | apply pw_below_drewN | apply below_drew1) | exact HB.out))) A35.out).mono ?_); rintro e w38 ⟨rfl, hb⟩; refine ⟨_, rfl, ?_⟩; have n0_ := Aside0.mk (below_step (by repeat (first | (with_reducible first | exact HB.out | apply below_alloc | apply pw_below_drewN | apply below_drew1) | exact HB.out)) hb); clear HB; have HB := n0_; clear n0_; (try clear hb); (try clear hb2); (try clear hk); (try clear hi)) | (go_at_call 15; (with_reducible refine (scalar_ShowRate.calls t160 t162 _ (gOf HG0.out (by repeat (first | (with_reducible first | exact HB.out | apply below_alloc | apply pw_below_drewN | apply below_drew1) | exact HB.out))) A37.out).mono ?_); rintro e w39 ⟨rfl, hb⟩; have n0_ := Aside0.mk (below_step (by repeat (first | (with_reducible first | exact HB.out | apply below_alloc | apply pw_below_drewN | apply below_drew1) | exact HB.out)) hb); clear HB; have HB := n0_; clear n0_; (try clear hb); (try clear hb2); (try clear hk); (try clear hi)))
                  go_ret
                  exact ⟨by first | rfl | (simp [errW_none, errW_some] <;> rfl) | (simp [*, errW_none, errW_some] <;> rfl), by repeat (first | (with_reducible first | exact HB.out | apply below_alloc | apply pw_below_drewN | apply below_drew1) | exact HB.out)⟩
                · replace c36 := Bool.eq_false_iff.mpr c36
                  subst c36
                  have H1 : (some true) = some r := by rw [if_neg (show ¬ (false = true) by decide)] at H; exact H
                  clear H
                  have H := H1
                  clear H1
                  obtain rfl := Option.some.inj H
                  go_wp2_with (first | ((with_reducible refine gate_callee (f := 10) rfl ?_); refine goesL_ (some 85) rfl rfl Tryd.func10 (by kernel_rfl) rfl #[.string a1] rfl (by (try simp only [List.map_toArray, List.map_cons, List.map_nil]); first | done | rfl | (simp only [List.length_drop, List.length_take]; rfl)) ?_; (with_reducible refine (scalar_Rate.calls a1 t160 false _ (gOf HG0.out (by repeat (first | (with_reducible first | exact HB.out | apply below_alloc | apply pw_below_drewN | apply below_drew1) | exact HB.out))) A35.out).mono ?_); rintro e w40 ⟨rfl, hb⟩; refine ⟨_, rfl, ?_⟩; have n0_ := Aside0.mk (below_step (by repeat (first | (with_reducible first | exact HB.out | apply below_alloc | apply pw_below_drewN | apply below_drew1) | exact HB.out)) hb); clear HB; have HB := n0_; clear n0_; (try clear hb); (try clear hb2); (try clear hk); (try clear hi)))
                  go_ret
                  exact ⟨by first | rfl | (simp [errW_none, errW_some] <;> rfl) | (simp [*, errW_none, errW_some] <;> rfl), by repeat (first | (with_reducible first | exact HB.out | apply below_alloc | apply pw_below_drewN | apply below_drew1) | exact HB.out)⟩
        · rw [if_neg c12] at H
          exact absurd H (by simp)
      · rw [if_neg c8] at H
        exact absurd H (by simp)
  · replace c4 := Bool.eq_false_iff.mpr c4
    subst c4
    have H1 : (some false) = some r := by rw [if_neg (show ¬ (false = true) by decide)] at H; exact H
    clear H
    have H := H1
    clear H1
    obtain rfl := Option.some.inj H
    go_enter Tryd.func5, Tryd.ntmps5
    go_wp2_with (first | ((with_reducible refine gate_callee (f := 7) rfl ?_); refine goesL_ (some 17) rfl rfl Tryd.func7 (by kernel_rfl) rfl #[] rfl (by (try simp only [List.map_toArray, List.map_cons, List.map_nil]); first | done | rfl | (simp only [List.length_drop, List.length_take]; rfl)) ?_; (with_reducible refine (tollbarlaw06_awake.calls  false _ (gOf HG0.out (by repeat (first | (with_reducible first | exact HB.out | apply below_alloc | apply pw_below_drewN | apply below_drew1) | exact HB.out))) A3.out).mono ?_); rintro e w41 ⟨rfl, hb⟩; refine ⟨_, rfl, ?_⟩; have n0_ := Aside0.mk (below_step (by repeat (first | (with_reducible first | exact HB.out | apply below_alloc | apply pw_below_drewN | apply below_drew1) | exact HB.out)) hb); clear HB; have HB := n0_; clear n0_; (try clear hb); (try clear hb2); (try clear hk); (try clear hi)))
    go_ret
    exact ⟨by first | rfl | (simp [errW_none, errW_some] <;> rfl) | (simp [*, errW_none, errW_some] <;> rfl), by repeat (first | (with_reducible first | exact HB.out | apply below_alloc | apply pw_below_drewN | apply below_drew1) | exact HB.out)⟩

/-- THE ONE PURE STATEMENT of tollbarlaw06_ScalarUnits: yours. -/
def tollbarlaw06_ScalarUnits.Pure : Prop := ∀ (a0 : Int) (a1 : ByteArray), (Lit.int .u64 a0).wf = true → a1.size ≤ 140737488351232 → ∃ k, tollbarlaw06_ScalarUnits.f k a0 a1 = some true

end Go.Proofs.YtdlkjcginamemaaDoor.QScalar
