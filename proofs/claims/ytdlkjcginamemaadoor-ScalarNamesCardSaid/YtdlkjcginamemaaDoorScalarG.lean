/- What the rows say of the listed package-level variables is what the walks ask of them. -/
import Derived.Test.YtdlkjcginamemaaDoorRows
import Derived.Test.YtdlkjcginamemaaDoorScalarWalk
import Derived.Lib.LaidU8
import Derived.OpenShut
import Derived.MakeChecks
namespace Go.Proofs.YtdlkjcginamemaaDoor.Scalar
open Go.RowKit Go.Lib Go.ChangeShapes
set_option linter.unusedVariables false
set_option linter.unusedSimpArgs false
section
variable {H : Type} {enc : TypeId × Value → H} {W : World} {base : Nat} {sp : Nat → Bool} {held : Bool} {fuel : Nat} {cs : List Value}
theorem iface_cells {t : TypeId} {ms : Array (String × TypeId)} {x : DataW H × List MemPlace} (ht : Tryd.prog.underlying t = some (.interface ms)) (h : DataW.trod enc Tryd.prog W base sp held fuel t cs = some x) : ∃ ev, cs = [ev] ∧ (ev = .nilIface ∨ ∃ te pe, ev = .iface te pe) := by
  cases fuel with
  | zero => simp [DataW.trod] at h
  | succ n =>
    unfold DataW.trod at h
    rw [ht] at h
    split at h <;> simp_all
theorem unit_cells {a : Int} {s : List UInt8} {p : List MemPlace} (h : DataW.trod enc Tryd.prog W base sp held fuel 37 cs = some (.agg [.lit (.int .u64 a), .lit (.string s)], p)) : cs = [.int .u64 a, .string ⟨s.toArray⟩] := by
  obtain ⟨xs, n, _, hx, hl, hlx, hr⟩ := DataW.trod_struct Tryd.underlying37 h
  have hc : Tryd.prog.cellsOf 37 = 2 := by kernel_rfl
  have c1 : Tryd.prog.cellsOf 23 = 1 := by kernel_rfl
  have c2 : Tryd.prog.cellsOf 9 = 1 := by kernel_rfl
  rw [hc] at hl
  have h0 := hr 0 _ rfl
  have h1 := hr 1 _ rfl
  match cs, hl, xs, hlx with
  | [u, v], _, [x0, x1], _ =>
    have e := (Prod.mk.inj hx).1
    simp only [List.map_cons, List.map_nil, DataW.agg.injEq, List.cons.injEq, and_true] at e
    simp only [c1, c2, List.drop_zero, List.drop_succ_cons, List.take_succ_cons, List.take_zero, List.getElem?_cons_zero, List.getElem?_cons_succ] at h0 h1
    obtain ⟨m, hm, rfl, _⟩ := DataW.trod_int Tryd.underlying23 h0
    obtain ⟨z, hz, rfl, _⟩ := DataW.trod_string Tryd.underlying9 h1
    injection hm with hm
    injection hz with hz
    have e0 := e.1
    have e1 := e.2
    simp only [DataW.lit.injEq, Lit.int.injEq, true_and, Lit.string.injEq] at e0 e1
    rw [hm, hz, e0, e1, mk_data]
theorem units_cells {p : List MemPlace} (h : DataW.trod enc Tryd.prog W base sp held fuel 38 cs = some (Rows.laid_tollbar_scalar_units, p)) : cs = [.int .u64 1000000, .string ⟨#[109]⟩, .int .u64 1000, .string ⟨#[107]⟩] := by
  obtain ⟨xs, n, _, hx, hl, hlx, hr⟩ := DataW.trod_array Tryd.underlying38 h
  have hc : Tryd.prog.cellsOf 38 = 4 := by kernel_rfl
  have c1 : Tryd.prog.cellsOf 37 = 2 := by kernel_rfl
  rw [hc] at hl
  have h0 := hr 0 (by omega)
  have h1 := hr 1 (by omega)
  match cs, hl, xs, hlx with
  | [a, b, c, d], _, [x0, x1], _ =>
    have e := (Prod.mk.inj hx).1
    unfold Rows.laid_tollbar_scalar_units at e
    simp only [List.map_cons, List.map_nil, DataW.agg.injEq, List.cons.injEq, and_true] at e
    simp only [c1, Nat.zero_mul, Nat.one_mul, List.drop_zero, List.drop_succ_cons, List.take_succ_cons, List.take_zero, List.getElem?_cons_zero, List.getElem?_cons_succ] at h0 h1
    obtain ⟨y0, q0⟩ := x0
    obtain ⟨y1, q1⟩ := x1
    obtain ⟨rfl, rfl⟩ := e
    have k0 := unit_cells h0
    have k1 := unit_cells h1
    injection k0 with ka kb
    injection kb with kb
    injection k1 with kc kd
    injection kd with kd
    rw [ka, kb, kc, kd]
end
theorem g_of_laid {W : World} {l : List (String × DataW Unit)} (hL : laidMet Tryd.prog l W) (h1 : ("internal/strconv.uint64pow10", Rows.laid_internal_strconv_uint64pow10) ∈ l) (h2 : ("strconv.ErrSyntax", Rows.laid_strconv_ErrSyntax) ∈ l) (h3 : ("strconv.ErrRange", Rows.laid_strconv_ErrRange) ∈ l) (h4 : ("tollbar/scalar.units", Rows.laid_tollbar_scalar_units) ∈ l) : G W := by
  obtain ⟨g1, t1, cs1, f1, p1, n1, ty1, v1, r1⟩ := laidMet.reads hL h1
  obtain ⟨g2, t2, cs2, f2, p2, n2, ty2, v2, r2⟩ := laidMet.reads hL h2
  obtain ⟨g3, t3, cs3, f3, p3, n3, ty3, v3, r3⟩ := laidMet.reads hL h3
  obtain ⟨g4, t4, cs4, f4, p4, n4, ty4, v4, r4⟩ := laidMet.reads hL h4
  obtain rfl := Option.some.inj ((show Tryd.prog.globalNamed "internal/strconv.uint64pow10" = some 4 by kernel_rfl).symm.trans n1)
  obtain rfl := Option.some.inj ((show Tryd.prog.globalNamed "strconv.ErrSyntax" = some 1 by kernel_rfl).symm.trans n2)
  obtain rfl := Option.some.inj ((show Tryd.prog.globalNamed "strconv.ErrRange" = some 2 by kernel_rfl).symm.trans n3)
  obtain rfl := Option.some.inj ((show Tryd.prog.globalNamed "tollbar/scalar.units" = some 0 by kernel_rfl).symm.trans n4)
  obtain rfl := Option.some.inj ((show (Tryd.prog.globals[4]?).map (·.type) = some 77 by kernel_rfl).symm.trans ty1)
  obtain rfl := Option.some.inj ((show (Tryd.prog.globals[1]?).map (·.type) = some 33 by kernel_rfl).symm.trans ty2)
  obtain rfl := Option.some.inj ((show (Tryd.prog.globals[2]?).map (·.type) = some 33 by kernel_rfl).symm.trans ty3)
  obtain rfl := Option.some.inj ((show (Tryd.prog.globals[0]?).map (·.type) = some 38 by kernel_rfl).symm.trans ty4)
  obtain ⟨e2, hc2, hi2⟩ := iface_cells Tryd.underlying33 r2
  obtain ⟨e3, hc3, hi3⟩ := iface_cells Tryd.underlying33 r3
  have hu := units_cells r4
  have hp := cells_of_tab (zs := Lib.pow10Tab) (k := .u64) Tryd.underlying77 Tryd.underlying23 (by kernel_rfl) (by kernel_rfl) r1
  refine ⟨⟨e2, ?_, hi2⟩, ⟨e3, ?_, hi3⟩, ?_, ?_⟩
  · have := World.var?_cell n2 v2 0
    rw [this, ← Array.getElem?_toList, hc2]; rfl
  · have := World.var?_cell n3 v3 0
    rw [this, ← Array.getElem?_toList, hc3]; rfl
  · unfold TabIs
    rw [v1, ← hp]
  · unfold World.var? at v4
    rw [n4] at v4
    simp only [Option.bind_some] at v4
    split at v4
    · rename_i cs t fr hh
      injection v4 with v4
      refine ⟨t, fr, ?_⟩
      rw [hh]
      have : cs = #[.int .u64 1000000, .string ⟨#[109]⟩, .int .u64 1000, .string ⟨#[107]⟩] := by
        rw [v4]; apply Array.toList_inj.1; exact hu
      rw [this]
    · cases v4
end Go.Proofs.YtdlkjcginamemaaDoor.Scalar
