/- What strconv.FormatUint, scalar.Uint, ShowUint, Rate and ShowRate come to, by their walks. -/
import Derived.Test.YtdlkjcginamemaaDoorWMore
import Derived.Test.YtdlkjcginamemaaDoorShelf
import Derived.Shelf.Strconv.Itoa3
import Derived.Lib.Hide
import Derived.Lib.AppendIntMem
import Derived.Outline
import Derived.LoopN
import Derived.Deep.RegionHeld3
import Derived.BigCall
import Derived.BigGuard
namespace Go.Proofs.YtdlkjcginamemaaDoor.Scalar
open Go.RowKit Go.Sort Go.Lib Go.Proofs.YtdlkjcginamemaaDoorW.PrintWords Go.Proofs.YtdlkjcginamemaaDoorW.PrintLast
set_option linter.unusedVariables false
/-- What the package-level variables hold that are read. -/
structure G (w : World) : Prop where
  esyn : ∃ ev, w.cell? ⟨1, 0, none⟩ = some ev ∧ (ev = .nilIface ∨ ∃ te pe, ev = .iface te pe)
  eran : ∃ ev, w.cell? ⟨2, 0, none⟩ = some ev ∧ (ev = .nilIface ∨ ∃ te pe, ev = .iface te pe)
  pow : Lib.TabIs Tryd.prog w "internal/strconv.uint64pow10" .u64 Lib.pow10Tab
  units : ∃ t fr, w.heap[0]? = some (.cells #[.int .u64 1000000, .string ⟨#[109]⟩, .int .u64 1000, .string ⟨#[107]⟩] t fr)
theorem var_below {w w' : World} {n : String} {cs : Array Value} (hb : Below w.heap.size w w') (h : w.var? Tryd.prog n = some cs) : w'.var? Tryd.prog n = some cs := by
  unfold World.var? at *
  cases hg : Tryd.prog.globalNamed n with
  | none => simp [hg] at h
  | some g =>
    simp only [hg, Option.bind_some] at h ⊢
    have hlt : g < w.heap.size := by
      rcases Nat.lt_or_ge g w.heap.size with h' | h'
      · exact h'
      · rw [Array.getElem?_eq_none h'] at h; simp at h
    rw [hb.block g hlt]
    exact h
theorem G.below {w w' : World} (h : G w) (hb : Below w.heap.size w w') : G w' := by
  obtain ⟨⟨e1, h1, k1⟩, ⟨e2, h2, k2⟩, h3, t4, f4, h4⟩ := h
  exact ⟨⟨e1, pw_cell_below hb h1, k1⟩, ⟨e2, pw_cell_below hb h2, k2⟩, var_below hb h3, t4, f4, (hb.block _ (Array.getElem?_eq_some_iff.1 h4).1).trans h4⟩
theorem below_of_grow (w : World) (k : Nat) (os : Array Obj) : Below w.heap.size w (grow (w.drewN k) os) := below_grow _ w (Nat.le_refl _) k os
theorem holds_zero0 (w : World) (T : TypeId) (nd : Nat) (hs : nd ≤ 24) : Holds (fun (b : UInt8) => Value.int .u8 (b.toNat : Int)) (w.alloc (.cells zeros24 T)) w.heap.size 0 (Array.replicate nd (0 : UInt8)) := fun j hj => by
  have hj' : j < nd := by simpa using hj
  refine ⟨?_, World.frozen?_alloc_new _ _ _ _⟩
  rw [World.cell?_alloc_new, zeros24_at _ (by omega), getElem!_pos _ j hj]
  simp
theorem fin0 (w : World) (o : Obj) (dk : Array UInt8) (k : Nat) : Below w.heap.size w ((putRow (fun (b : UInt8) => Value.int .u8 (b.toNat : Int)) (w.alloc o) w.heap.size 0 dk).drewN k) := by
  rw [alloc_eq_grow]
  obtain ⟨os', _, e⟩ := putRow_grow_new (fun (b : UInt8) => Value.int .u8 (b.toNat : Int)) w #[o] w.heap.size 0 dk (Nat.le_refl _)
  rw [e]
  exact below_of_grow w k os'

set_option maxHeartbeats 6400000 in
set_option maxRecDepth 100000 in
/-- internal/strconv.FormatUint at base 10: the decimal numeral. -/
theorem FormatUint_in (u : Nat) (h : u < 18446744073709551616) (w : World) (htab : Lib.TabIs Tryd.prog w "internal/strconv.uint64pow10" .u64 Lib.pow10Tab) :
    Calls Tryd.prog 34 #[.int .u64 u, .int .i64 10] w fun e w' => e = .returned (.string ⟨(Lib.decDigits u).toArray⟩) ∧ Below w.heap.size w w' := by
  by_cases hs : u < 100
  · have d : decide ((u : Int) < 100) = true := by simp; omega
    go_enter Tryd.func34, Tryd.ntmps34
    go_wp2_with (go_at_call 47; refine (Tryd.internal_strconv_small u hs _).mono ?_; rintro e w' ⟨rfl, rfl⟩)
    go_ret
    exact ⟨rfl, Below.refl _ _⟩
  · have hu1 : 1 ≤ u := by omega
    have d : decide ((u : Int) < 100) = false := by simp; omega
    have hnd20 : Lib.nDigits u ≤ 20 := by have := Lib.numDigits_eq u hu1 h; split at this <;> omega
    have hal : Tryd.prog.arrayLen 64 = 24 := by kernel_rfl
    have hsl1 : ∀ W, (Instr.sliceAt 64 (.pointer (some ⟨w.heap.size, 0, none⟩)) none (some (.int .i64 (Lib.nDigits u : Int))) none).run Tryd.prog W = .ok (.slice (some ⟨w.heap.size, 0, none⟩) (Lib.nDigits u) 24) W := fun W => by
      rw [run_sliceAt_array_h W 64 ⟨w.heap.size, 0, none⟩ (by simp [Program.arrayLen, Program.elem, Tryd.underlying64]) .i64 (Lib.nDigits u : Int) (by omega) (by rw [hal]; omega)]
      go_simp
    have hH0 := holds_zero0 w 64 (Lib.nDigits u) (by omega)
    have hfmt := Tryd.internal_strconv_formatBase10 w.heap.size 0 24 u (Array.replicate (Lib.nDigits u) 0) (w.alloc (.cells Lib.zeros24 64)) hH0 (by rw [Array.size_replicate]; exact Lib.lt_pow_nDigits u) h (by rw [Array.size_replicate]; omega)
    rw [Array.size_replicate] at hfmt
    have HH0 := Lib.hid hH0
    clear hH0 hal
    go_enter Tryd.func34, Tryd.ntmps34
    go_wp2_with (first
      | (go_at_call 48; refine (Tryd.internal_strconv_numDigits u hu1 h _ (Lib.tabIs_alloc htab _)).mono ?_; rintro e w' ⟨rfl, rfl⟩))
    go_at_call 49
    refine hfmt.mono ?_
    rintro e w' ⟨rfl, k, v', dk, rfl, hF⟩
    have hcv : (convert 30 9 (.slice (some ⟨w.heap.size, 0, none⟩) (Lib.nDigits u) 24)).run Tryd.prog ((putRow (fun (b : UInt8) => Value.int .u8 (b.toNat : Int)) (w.alloc (.cells Lib.zeros24 64)) w.heap.size 0 dk).drewN k) = .ok (.string ⟨(Lib.decDigits u).toArray⟩) ((putRow (fun (b : UInt8) => Value.int .u8 (b.toNat : Int)) (w.alloc (.cells Lib.zeros24 64)) w.heap.size 0 dk).drewN k) := by
      have h := run_convert_bytes_back (P := Tryd.prog) ((putRow (fun (b : UInt8) => Value.int .u8 (b.toNat : Int)) (w.alloc (.cells Lib.zeros24 64)) w.heap.size 0 dk).drewN k) 30 9 5 ⟨w.heap.size, 0, none⟩ 24 (Lib.decDigits u) Tryd.underlying30 Tryd.underlying5 Tryd.underlying9 (fun j hj => by
        rw [Lib.row_is_numeral hF j hj, Lib.add_plain, World.cell?_drewN]
        exact cell?_putRow (fun (b : UInt8) => Value.int .u8 (b.toNat : Int)) _ w.heap.size 0 _ dk HH0.out (by rw [hF.size, Array.size_replicate]) j (by rw [hF.size]; rw [Lib.decDigits_length] at hj; exact hj))
      rw [Lib.decDigits_length] at h
      exact h
    go_wp2
    go_ret
    exact ⟨rfl, fin0 w (.cells Lib.zeros24 64) dk k⟩
theorem FormatUint_calls (u : Nat) (h : u < 18446744073709551616) (w : World) (hG : G w) :
    Calls Tryd.prog 22 #[.int .u64 u, .int .i64 10] w fun e w' => e = .returned (.string ⟨(Lib.decDigits u).toArray⟩) ∧ Below w.heap.size w w' := by
  have hp := hG.pow
  clear hG
  go_enter Tryd.func22, Tryd.ntmps22
  go_wp2_with (go_at_call 34; refine (FormatUint_in u h _ hp).mono ?_; rintro e w' ⟨rfl, hb⟩)
  go_ret
  exact ⟨rfl, hb⟩
theorem ShowUint_calls (u : Nat) (h : u < 18446744073709551616) (w : World) (hG : G w) :
    Calls Tryd.prog 14 #[.int .u64 u] w fun e w' => e = .returned (.string ⟨(Lib.decDigits u).toArray⟩) ∧ Below w.heap.size w w' := by
  have HG := Lib.hid hG
  clear hG
  go_enter Tryd.func14, Tryd.ntmps14
  go_wp2_with (go_at_call 22; refine (FormatUint_calls u h _ HG.out).mono ?_; rintro e w' ⟨rfl, hb⟩)
  go_ret
  exact ⟨rfl, hb⟩
theorem below_or {w w' : World} {s : ByteArray} {T : TypeId} (h : w' = w ∨ w' = Lib.bytesWorld w T s) : Below w.heap.size w w' := by
  rcases h with rfl | rfl
  · exact Below.refl _ _
  · exact bytes_below (Below.refl _ _) (Nat.le_refl _) T s
/-- ShowUint, its result under a letter. -/
theorem ShowUint_as (u : Nat) (h : u < 18446744073709551616) (d : ByteArray) (hd : d = ⟨(Lib.decDigits u).toArray⟩) (w : World) (hG : G w) :
    Calls Tryd.prog 14 #[.int .u64 u] w fun e w' => e = .returned (.string d) ∧ Below w.heap.size w w' := by
  subst hd; exact ShowUint_calls u h w hG
set_option maxHeartbeats 1000000 in
theorem Uint_ok (s : ByteArray) (hs : s.size ≤ 140737488351232) (u : Nat) (hu : u < 18446744073709551616) (h : Lib.parseUintB 64 s.data.toList = .ok u) (hq : s = ⟨(Lib.decDigits u).toArray⟩) (w : World) (hG : G w) :
    Calls Tryd.prog 8 #[.string s] w fun e w' => e = .returned (.tuple #[.int .u64 u, .bool true]) ∧ Below w.heap.size w w' := by
  have HG := Lib.hid hG
  have HP := Lib.hid h
  have HQ := Lib.hid hq
  clear hG h hq
  go_enter Tryd.func8, Tryd.ntmps8
  go_wp2_with (first
    | (go_at_call 18; refine (Tryd.strconv_ParseUint_10_at64_ok s (by omega) u HP.out _).mono ?_; rintro e w1 ⟨rfl, hb⟩; have HB := Lib.hid (below_or hb); clear hb)
    | (go_at_call 14; refine (ShowUint_as u hu s HQ.out _ (HG.out.below HB.out)).mono ?_; rintro e w2 ⟨rfl, hb2⟩; have HB2 := Lib.hid hb2; clear hb2))
  go_ret2
  exact ⟨rfl, HB.out.trans (HB2.out.mono HB.out.size)⟩
set_option maxHeartbeats 1000000 in
theorem Uint_other (s d : ByteArray) (hs : s.size ≤ 140737488351232) (u : Nat) (hu : u < 18446744073709551616) (h : Lib.parseUintB 64 s.data.toList = .ok u) (hd : d = ⟨(Lib.decDigits u).toArray⟩) (hq : (d.toList == s.toList) = false) (w : World) (hG : G w) :
    Calls Tryd.prog 8 #[.string s] w fun e w' => e = .returned (.tuple #[.int .u64 0, .bool false]) ∧ Below w.heap.size w w' := by
  have HG := Lib.hid hG
  have HP := Lib.hid h
  have HD := Lib.hid hd
  clear hG h hd
  go_enter Tryd.func8, Tryd.ntmps8
  go_wp2_with (first
    | (go_at_call 18; refine (Tryd.strconv_ParseUint_10_at64_ok s (by omega) u HP.out _).mono ?_; rintro e w1 ⟨rfl, hb⟩; have HB := Lib.hid (below_or hb); clear hb)
    | (go_at_call 14; refine (ShowUint_as u hu d HD.out _ (HG.out.below HB.out)).mono ?_; rintro e w2 ⟨rfl, hb2⟩; have HB2 := Lib.hid hb2; clear hb2))
  go_ret2
  exact ⟨rfl, HB.out.trans (HB2.out.mono HB.out.size)⟩
/-- strconv.ParseUint at a text that is no row of digits: the error is not nil. -/
theorem parse_bad (s : ByteArray) (hlim : s.size ≤ 281474976710656) (h : Lib.parseUintB 64 s.data.toList = Lib.parseUintB 64 []) (ev : Value) (w : World) (hv : w.cell? ⟨1, 0, none⟩ = some ev) (hev : ev = .nilIface ∨ ∃ te pe, ev = .iface te pe) :
    Calls Tryd.prog 18 #[.string s, .int .i64 10, .int .i64 64] w fun e w' => ∃ N, e = .returned (.tuple #[.int .u64 0, .iface 56 (.pointer (some ⟨N, 0, none⟩))]) ∧ w.heap.size ≤ N ∧ w'.heap[N]? = some (.cells #[.string ⟨#[80, 97, 114, 115, 101, 85, 105, 110, 116]⟩, .string s, ev] 71 (0, 0)) ∧ Below w.heap.size w w' :=
  Any.strconv_ParseUint_10_at64_syntax Tryd.laysPu14 s hlim (h.trans (by unfold Lib.parseUintB; rw [if_pos rfl])) ev w hv hev
set_option maxHeartbeats 1000000 in
theorem Uint_bad (s : ByteArray) (hs : s.size ≤ 140737488351232) (h : Lib.parseUintB 64 s.data.toList = Lib.parseUintB 64 []) (w : World) (hG : G w) :
    Calls Tryd.prog 8 #[.string s] w fun e w' => e = .returned (.tuple #[.int .u64 0, .bool false]) ∧ Below w.heap.size w w' := by
  have HP := Lib.hid h
  obtain ⟨ev, h1, h2⟩ := hG.esyn
  have H1 := Lib.hid h1
  have H2 := Lib.hid h2
  clear hG h h1 h2
  go_enter Tryd.func8, Tryd.ntmps8
  go_wp2_with (first
    | (go_at_call 18; refine (parse_bad s (by omega) HP.out ev _ H1.out H2.out).mono ?_; rintro e w1 ⟨N, rfl, hn, hc, hb⟩; have HB := Lib.hid hb; clear hb hn hc))
  go_ret2
  exact ⟨rfl, HB.out⟩
set_option maxHeartbeats 1000000 in
theorem Uint_range (s : ByteArray) (hs : s.size ≤ 140737488351232) (h : Lib.parseUintB 64 s.data.toList = .range) (w : World) (hG : G w) :
    Calls Tryd.prog 8 #[.string s] w fun e w' => e = .returned (.tuple #[.int .u64 0, .bool false]) ∧ Below w.heap.size w w' := by
  have HP := Lib.hid h
  obtain ⟨ev, h1, h2⟩ := hG.eran
  have H1 := Lib.hid h1
  have H2 := Lib.hid h2
  clear hG h h1 h2
  go_enter Tryd.func8, Tryd.ntmps8
  go_wp2_with (first
    | (go_at_call 18; refine (Tryd.strconv_ParseUint_10_at64_range s (by omega) HP.out ev _ H1.out H2.out).mono ?_; rintro e w1 ⟨N, rfl, hn, hc, hb⟩; have HB := Lib.hid hb; clear hb hn hc))
  go_ret2
  exact ⟨rfl, HB.out⟩
theorem ShowUint_i (a : Int) (h0 : 0 ≤ a) (h : a ≤ 18446744073709551615) (d : ByteArray) (hd : Hid (d = ⟨(Lib.decDigits a.toNat).toArray⟩)) (w : World) (hG : G w) :
    Calls Tryd.prog 14 #[.int .u64 a] w fun e w' => e = .returned (.string d) ∧ Below w.heap.size w w' := by
  obtain ⟨u, rfl⟩ := Int.eq_ofNat_of_zero_le h0
  exact ShowUint_as u (by omega) d (by have := hd.out; rwa [Int.toNat_natCast] at this) w hG
/-- All that came in stands. -/
def Bel (w w' : World) : Prop := Below w.heap.size w w'
theorem Bel.drew {w w' : World} (h : Bel w w') : Bel w w'.drew := below_drew h
theorem Bel.step {w w' w2 : World} (h : Bel w w') (hb : Below w'.heap.size w' w2) : Bel w w2 := below_step h hb
def unitM : Value := .agg #[.int .u64 1000000, .string ⟨#[109]⟩]
theorem at0 (w : World) : (Instr.index 38 (.agg #[.int .u64 1000000, .string ⟨#[109]⟩, .int .u64 1000, .string ⟨#[107]⟩]) (.int .i64 0)).run Tryd.prog w = .ok (.agg #[.int .u64 1000000, .string ⟨#[109]⟩]) w := by kernel_rfl
theorem at1 (w : World) : (Instr.index 38 (.agg #[.int .u64 1000000, .string ⟨#[109]⟩, .int .u64 1000, .string ⟨#[107]⟩]) (.int .i64 1)).run Tryd.prog w = .ok (.agg #[.int .u64 1000, .string ⟨#[107]⟩]) w := by kernel_rfl
theorem G.bel {w w' : World} (h : G w) (hb : Bel w w') : G w' := h.below hb
theorem dec_size {d : ByteArray} {u : Nat} (hd : d = ⟨(Lib.decDigits u).toArray⟩) (hu : u < 18446744073709551616) : d.size ≤ 20 := by
  subst hd
  show (Lib.decDigits u).toArray.size ≤ 20
  rw [List.size_toArray, Lib.decDigits_length]
  rcases Nat.eq_zero_or_pos u with rfl | h1
  · unfold Lib.nDigits; simp
  · have := Lib.numDigits_eq u h1 hu; split at this <;> omega
set_option maxHeartbeats 1000000 in
theorem ShowRate_m (w : World) (hG : G w) (u : Nat) (hu : u < 18446744073709551616) (hu0 : 0 < u) (hm : u % 1000000 = 0) (d : ByteArray) (hd : d = ⟨(Lib.decDigits (u / 1000000)).toArray⟩) :
    Calls Tryd.prog 15 #[.int .u64 u] w fun e w' => e = .returned (.string (d ++ ⟨#[109]⟩)) ∧ Bel w w' := by
  have HG := Lib.hid hG
  obtain ⟨tu, fu, hv⟩ := hG.units
  have HV := Lib.hid hv
  clear hG hv
  have i0 := at0
  have i1 := at1
  have d0 : decide (0 < (u : Int)) = true := by simp; omega
  have d2 : decide (0 < u) = true := by simp; omega
  have d1 : ((u : Int) % 1000000 == 0) = true := by simp; omega
  have hds0 : d.size ≤ 20 := dec_size hd (by omega)
  have HD : Hid (d = ⟨(Lib.decDigits ((u : Int) / 1000000).toNat).toArray⟩) := Lib.hid (by rw [hd]; congr 4)
  have hu' : (u : Int) ≤ 18446744073709551615 := by omega
  clear hu hm hu0 hd
  go_enter Tryd.func15, Tryd.ntmps15
  go_wp2_with (refine wpList_load_row rfl 38 _ rfl 0 rfl tu _ fu _ HV.out Tryd.underlying38 rfl (by kernel_rfl) ?_)
  refine wp_loop_rounds 1 ?_
  rw [rounds_succ]
  go_wp2_with fail
  have hc0 : (w.alloc (.cells #[.int .u64 1000000, .string ⟨#[109]⟩] 37)).cell? ⟨w.heap.size, 0, none⟩ = some (.int .u64 1000000) := by simp
  have hc1 : (w.alloc (.cells #[.int .u64 1000000, .string ⟨#[109]⟩] 37)).cell? ⟨w.heap.size, 1, none⟩ = some (.string ⟨#[109]⟩) := by simp
  have hB : Bel w (w.alloc (.cells #[.int .u64 1000000, .string ⟨#[109]⟩] 37)) := below_alloc (Below.refl _ _) _
  generalize w.alloc (.cells #[.int .u64 1000000, .string ⟨#[109]⟩] 37) = W at hc0 hc1 hB ⊢
  have hds : (d.size : Int) ≤ 8388608 := by omega
  have hns : ¬ (9223372036854775807 < d.size + 1) := by omega
  have b0 : 0 ≤ (u : Int) / 1000000 := by omega
  have b1 : (u : Int) / 1000000 ≤ 18446744073709551615 := by omega
  have hq : IntKind.u64.wrap ((u : Int) / 1000000) = (u : Int) / 1000000 := by rw [IntKind.wrap_u64]; omega
  go_region_held3 (fun w' => w'.cell? ⟨w.heap.size, 0, none⟩ = some (.int .u64 1000000) ∧ w'.cell? ⟨w.heap.size, 1, none⟩ = some (.string ⟨#[109]⟩) ∧ Bel w w')
    (first | exact ⟨hc0, hc1, hB.drew⟩ | exact ⟨pw_cell_below hb hc0, pw_cell_below hb hc1, Bel.step hB.drew hb⟩)
    (first | (go_at_call 14; ((with_reducible refine (ShowUint_i ((u : Int) / 1000000) b0 b1 d HD _ (G.bel HG.out (Bel.drew hB))).mono ?_); rintro e w1 ⟨rfl, hb⟩)))
  go_wp2
  go_ret
  exact ⟨rfl, Bel.step hB.drew hb⟩
set_option maxHeartbeats 1000000 in
theorem ShowRate_k (w : World) (hG : G w) (u : Nat) (hu : u < 18446744073709551616) (hu0 : 0 < u) (hm : u % 1000 = 0 ∧ u % 1000000 ≠ 0) (d : ByteArray) (hd : d = ⟨(Lib.decDigits (u / 1000)).toArray⟩) :
    Calls Tryd.prog 15 #[.int .u64 u] w fun e w' => e = .returned (.string (d ++ ⟨#[107]⟩)) ∧ Bel w w' := by
  have HG := Lib.hid hG
  obtain ⟨tu, fu, hv⟩ := hG.units
  have HV := Lib.hid hv
  clear hG hv
  have i0 := at0
  have i1 := at1
  have d0 : decide (0 < (u : Int)) = true := by simp; omega
  have d2 : decide (0 < u) = true := by simp; omega
  have d1 : ((u : Int) % 1000000 == 0) = false := by simp; omega
  have d3 : ((u : Int) % 1000 == 0) = true := by simp; omega
  have hds0 : d.size ≤ 20 := dec_size hd (by omega)
  have HD : Hid (d = ⟨(Lib.decDigits ((u : Int) / 1000).toNat).toArray⟩) := Lib.hid (by rw [hd]; congr 4)
  have hu' : (u : Int) ≤ 18446744073709551615 := by omega
  clear hu hm hu0 hd
  go_enter Tryd.func15, Tryd.ntmps15
  go_wp2_with (refine wpList_load_row rfl 38 _ rfl 0 rfl tu _ fu _ HV.out Tryd.underlying38 rfl (by kernel_rfl) ?_)
  refine wp_loop_rounds 2 ?_
  rw [rounds_succ]
  go_wp2_with fail
  rw [rounds_succ]
  go_wp2_with fail
  have hc0 : ((w.alloc (.cells #[.int .u64 1000000, .string ⟨#[109]⟩] 37)).alloc (.cells #[.int .u64 1000, .string ⟨#[107]⟩] 37)).cell? ⟨w.heap.size + 1, 0, none⟩ = some (.int .u64 1000) := by simp
  have hc1 : ((w.alloc (.cells #[.int .u64 1000000, .string ⟨#[109]⟩] 37)).alloc (.cells #[.int .u64 1000, .string ⟨#[107]⟩] 37)).cell? ⟨w.heap.size + 1, 1, none⟩ = some (.string ⟨#[107]⟩) := by simp
  have hB : Bel w ((w.alloc (.cells #[.int .u64 1000000, .string ⟨#[109]⟩] 37)).alloc (.cells #[.int .u64 1000, .string ⟨#[107]⟩] 37)) := below_alloc (below_alloc (Below.refl _ _) _) _
  generalize (w.alloc (.cells #[.int .u64 1000000, .string ⟨#[109]⟩] 37)).alloc (.cells #[.int .u64 1000, .string ⟨#[107]⟩] 37) = W at hc0 hc1 hB ⊢
  have hds : (d.size : Int) ≤ 8388608 := by omega
  have hns : ¬ (9223372036854775807 < d.size + 1) := by omega
  have b0 : 0 ≤ (u : Int) / 1000 := by omega
  have b1 : (u : Int) / 1000 ≤ 18446744073709551615 := by omega
  have hq : IntKind.u64.wrap ((u : Int) / 1000) = (u : Int) / 1000 := by rw [IntKind.wrap_u64]; omega
  go_region_held3 (fun w' => w'.cell? ⟨w.heap.size + 1, 0, none⟩ = some (.int .u64 1000) ∧ w'.cell? ⟨w.heap.size + 1, 1, none⟩ = some (.string ⟨#[107]⟩) ∧ Bel w w')
    (first | exact ⟨hc0, hc1, hB.drew⟩ | exact ⟨pw_cell_below hb hc0, pw_cell_below hb hc1, Bel.step hB.drew hb⟩)
    (first | (go_at_call 14; ((with_reducible refine (ShowUint_i ((u : Int) / 1000) b0 b1 d HD _ (G.bel HG.out (Bel.drew hB))).mono ?_); rintro e w1 ⟨rfl, hb⟩)))
  go_wp2
  go_ret
  exact ⟨rfl, Bel.step hB.drew hb⟩
set_option maxHeartbeats 1000000 in
theorem ShowRate_n (w : World) (hG : G w) (u : Nat) (hu : u < 18446744073709551616) (hm : 0 < u ∧ u % 1000 ≠ 0 ∧ u % 1000000 ≠ 0) (d : ByteArray) (hd : d = ⟨(Lib.decDigits u).toArray⟩) :
    Calls Tryd.prog 15 #[.int .u64 u] w fun e w' => e = .returned (.string d) ∧ Bel w w' := by
  have HG := Lib.hid hG
  obtain ⟨tu, fu, hv⟩ := hG.units
  have HV := Lib.hid hv
  clear hG hv
  have i0 := at0
  have i1 := at1
  have d0 : decide (0 < (u : Int)) = true := by simp; omega
  have d2 : decide (0 < u) = true := by simp; omega
  have d1 : ((u : Int) % 1000000 == 0) = false := by simp; omega
  have d3 : ((u : Int) % 1000 == 0) = false := by simp; omega
  have HD : Hid (d = ⟨(Lib.decDigits (u : Int).toNat).toArray⟩) := Lib.hid (by rw [hd, Int.toNat_natCast])
  have hu' : (u : Int) ≤ 18446744073709551615 := by omega
  clear hu hm hd
  go_enter Tryd.func15, Tryd.ntmps15
  go_wp2_with (refine wpList_load_row rfl 38 _ rfl 0 rfl tu _ fu _ HV.out Tryd.underlying38 rfl (by kernel_rfl) ?_)
  refine wp_loop_rounds 3 ?_
  rw [rounds_succ]
  go_wp2_with fail
  rw [rounds_succ]
  go_wp2_with fail
  rw [rounds_succ]
  have hB : Bel w ((w.alloc (.cells #[.int .u64 1000000, .string ⟨#[109]⟩] 37)).alloc (.cells #[.int .u64 1000, .string ⟨#[107]⟩] 37)) := below_alloc (below_alloc (Below.refl _ _) _) _
  go_wp2_with (first | (go_at_call 14; ((with_reducible refine (ShowUint_i (u : Int) (by omega) (by omega) d HD _ (G.bel HG.out hB)).mono ?_); rintro e w1 ⟨rfl, hb⟩)))
  go_ret
  exact ⟨rfl, Bel.step hB hb⟩
set_option maxHeartbeats 1000000 in
theorem ShowRate_0 (w : World) (hG : G w) (u : Nat) (hu : u < 18446744073709551616) (hm : u = 0) (d : ByteArray) (hd : d = ⟨(Lib.decDigits u).toArray⟩) :
    Calls Tryd.prog 15 #[.int .u64 u] w fun e w' => e = .returned (.string d) ∧ Bel w w' := by
  have HG := Lib.hid hG
  obtain ⟨tu, fu, hv⟩ := hG.units
  have HV := Lib.hid hv
  clear hG hv
  have i0 := at0
  have i1 := at1
  have d0 : decide (0 < (u : Int)) = false := by simp; omega
  have d2 : decide (0 < u) = false := by simp; omega
  have HD : Hid (d = ⟨(Lib.decDigits (u : Int).toNat).toArray⟩) := Lib.hid (by rw [hd, Int.toNat_natCast])
  have hu' : (u : Int) ≤ 18446744073709551615 := by omega
  clear hu hm hd
  go_enter Tryd.func15, Tryd.ntmps15
  go_wp2_with (refine wpList_load_row rfl 38 _ rfl 0 rfl tu _ fu _ HV.out Tryd.underlying38 rfl (by kernel_rfl) ?_)
  refine wp_loop_rounds 3 ?_
  rw [rounds_succ]
  go_wp2_with fail
  rw [rounds_succ]
  go_wp2_with fail
  rw [rounds_succ]
  have hB : Bel w ((w.alloc (.cells #[.int .u64 1000000, .string ⟨#[109]⟩] 37)).alloc (.cells #[.int .u64 1000, .string ⟨#[107]⟩] 37)) := below_alloc (below_alloc (Below.refl _ _) _) _
  go_wp2_with (first | (go_at_call 14; ((with_reducible refine (ShowUint_i (u : Int) (by omega) (by omega) d HD _ (G.bel HG.out hB)).mono ?_); rintro e w1 ⟨rfl, hb⟩)))
  go_ret
  exact ⟨rfl, Bel.step hB hb⟩
end Go.Proofs.YtdlkjcginamemaaDoor.Scalar
