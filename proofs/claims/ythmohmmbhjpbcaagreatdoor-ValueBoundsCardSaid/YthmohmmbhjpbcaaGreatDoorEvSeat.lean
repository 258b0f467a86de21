import Derived.Test.YthmohmmbhjpbcaaGreatDoorEvFour
import Derived.Shelf.Unicode.DecodeAny
import Derived.Lib.ItoaNum
import Derived.Test.YthmohmmbhjpbcaaGreatDoorProg
import Derived.Test.YthmohmmbhjpbcaaGreatDoorShelf
import Derived.Shelf.Strconv.Itoa3
import Derived.Lib.Hide
import Derived.Lib.AppendIntMem
import Derived.Outline
import Derived.BigCall
import Derived.BigGuard
set_option linter.unusedVariables false
set_option linter.unusedSimpArgs false
set_option maxHeartbeats 1000000
namespace Go.Proofs.YthmohmmbhjpbcaaGreatDoor.Ev.Seat
open Go Ev Go.Proofs

structure Tollbarlaw08Place where
  version : Int
  names : List ByteArray
structure ApiVal where
  kind : Int
  num : Int
  text : ByteArray
structure SpecSpec where
  name : ByteArray
  kind : Int
  type_ : Int
  min : Int
  max : Int
  names : List ByteArray
  must : Bool
  most : Int
  kids : List SpecSpec
structure Tollbarref07S where
  name : ByteArray
  kind : Int
  type_ : Int
  min : Int
  max : Int
  names : List ByteArray
  must : Bool
  most : Int
  kids : List Tollbarref07S
def T (t : Nat) : Type := bif Nat.beq t 5 then Int else bif Nat.beq t 9 then ByteArray else bif Nat.beq t 24 then Tollbarlaw08Place else bif Nat.beq t 27 then ApiVal else bif Nat.beq t 31 then SpecSpec else bif Nat.beq t 34 then Tollbarref07S else Unit
def slOf (t : Nat) : V T → Option (List (T t))
  | .sl u l => if h : u = t then some (h ▸ l) else none
  | .nl => some []
  | _ => none
theorem slOf_fin {t : Nat} {x : V T} {l : List (T t)} (h : slOf t x = some l) : Finer x (.sl t l) := by
  unfold slOf at h
  split at h
  · split at h
    · rename_i u l' hu; subst hu; cases h; exact .rfl
    · cases h
  · cases h; exact .inr ⟨rfl, t, rfl⟩
  · cases h
def co5 : Co T Int where
  size := 1
  enc x := [.i .u8 x]
  dec cs := match cs with
    | [.i .u8 a0] => some a0
    | _ => none
  len _ := rfl
  fin cs x h := by
    split at h
    · cases h
      exact ⟨.rfl, trivial⟩
    · cases h
  pos := by decide
def co9 : Co T ByteArray where
  size := 1
  enc x := [.s x]
  dec cs := match cs with
    | [.s a0] => some a0
    | _ => none
  len _ := rfl
  fin cs x h := by
    split at h
    · cases h
      exact ⟨.rfl, trivial⟩
    · cases h
  pos := by decide
def co24 : Co T Tollbarlaw08Place where
  size := 2
  enc x := [.i .i64 x.version, .sl 9 x.names]
  dec cs := match cs with
    | [.i .i64 a0, a1] => (slOf 9 a1).bind fun b1 => some ⟨a0, b1⟩
    | _ => none
  len _ := rfl
  fin cs x h := by
    split at h
    · obtain ⟨b1, h1, h⟩ := Option.bind_eq_some_iff.1 h
      cases h
      exact ⟨.rfl, slOf_fin h1, trivial⟩
    · cases h
  pos := by decide
def co27 : Co T ApiVal where
  size := 3
  enc x := [.i .i64 x.kind, .i .u64 x.num, .s x.text]
  dec cs := match cs with
    | [.i .i64 a0, .i .u64 a1, .s a2] => some ⟨a0, a1, a2⟩
    | _ => none
  len _ := rfl
  fin cs x h := by
    split at h
    · cases h
      exact ⟨.rfl, .rfl, .rfl, trivial⟩
    · cases h
  pos := by decide
def co31 : Co T SpecSpec where
  size := 9
  enc x := [.s x.name, .i .i64 x.kind, .i .i64 x.type_, .i .u64 x.min, .i .u64 x.max, .sl 9 x.names, .b x.must, .i .i64 x.most, .sl 31 x.kids]
  dec cs := match cs with
    | [.s a0, .i .i64 a1, .i .i64 a2, .i .u64 a3, .i .u64 a4, a5, .b a6, .i .i64 a7, a8] => (slOf 9 a5).bind fun b5 => (slOf 31 a8).bind fun b8 => some ⟨a0, a1, a2, a3, a4, b5, a6, a7, b8⟩
    | _ => none
  len _ := rfl
  fin cs x h := by
    split at h
    · obtain ⟨b5, h5, h⟩ := Option.bind_eq_some_iff.1 h
      obtain ⟨b8, h8, h⟩ := Option.bind_eq_some_iff.1 h
      cases h
      exact ⟨.rfl, .rfl, .rfl, .rfl, .rfl, slOf_fin h5, .rfl, .rfl, slOf_fin h8, trivial⟩
    · cases h
  pos := by decide
def co34 : Co T Tollbarref07S where
  size := 9
  enc x := [.s x.name, .i .i64 x.kind, .i .i64 x.type_, .i .u64 x.min, .i .u64 x.max, .sl 9 x.names, .b x.must, .i .i64 x.most, .sl 34 x.kids]
  dec cs := match cs with
    | [.s a0, .i .i64 a1, .i .i64 a2, .i .u64 a3, .i .u64 a4, a5, .b a6, .i .i64 a7, a8] => (slOf 9 a5).bind fun b5 => (slOf 34 a8).bind fun b8 => some ⟨a0, a1, a2, a3, a4, b5, a6, a7, b8⟩
    | _ => none
  len _ := rfl
  fin cs x h := by
    split at h
    · obtain ⟨b5, h5, h⟩ := Option.bind_eq_some_iff.1 h
      obtain ⟨b8, h8, h⟩ := Option.bind_eq_some_iff.1 h
      cases h
      exact ⟨.rfl, .rfl, .rfl, .rfl, .rfl, slOf_fin h5, .rfl, .rfl, slOf_fin h8, trivial⟩
    · cases h
  pos := by decide
def co (t : Nat) : Co T (T t) := if h : t = 5 then h ▸ co5 else if h : t = 9 then h ▸ co9 else if h : t = 24 then h ▸ co24 else if h : t = 27 then h ▸ co27 else if h : t = 31 then h ▸ co31 else if h : t = 34 then h ▸ co34 else coNone T (T t)
def C : Cdc T := mkC co (fun t => Nat.beq t 5 || Nat.beq t 9 || Nat.beq t 24 || Nat.beq t 27 || Nat.beq t 34) 5 (fun n => (n : Int)) (fun (n : Int) => n)
theorem C_ok : CdcOk C := mkC_ok (fun _ => rfl) (fun _ => rfl)
def pow10V : List (V T) := Lib.pow10Tab.map fun z => .i .u64 z
def unitsV : List (V T) := [.i .u64 1000000, .s (⟨#[109]⟩ : ByteArray), .i .u64 1000, .s (⟨#[107]⟩ : ByteArray)]
def G (m : Int) : Nat → Option (List (V T)) := fun g => bif Nat.beq g 1 then some pow10V else bif Nat.beq g 2 then some [.ifx] else bif Nat.beq g 3 then some [.ifx] else bif Nat.beq g 0 then some unitsV else bif Nat.beq g 6 then some [.i .i64 m] else none
theorem mixed : Tryz.prog.follows .mixedOrders = true := by kernel_rfl
end Go.Proofs.YthmohmmbhjpbcaaGreatDoor.Ev.Seat


namespace Go.Proofs.YthmohmmbhjpbcaaGreatDoor.Ev
open Go Go.RowKit
variable {T : Nat → Type} {C : Cdc T} {σ : Lk} {H : List (AObj T)} {w : World}
theorem rep_str {x : ByteArray} {v : Value} (h : RepA C σ H w (.v (.s x)) v) : v = .string x := by
  have h' : RepV C (Cell C σ H w) (.s x) v := h
  cases h'; rfl
theorem rep_int {k : IntKind} {n : Int} {v : Value} (h : RepA C σ H w (.v (.i k n)) v) : v = .int k n := by
  have h' : RepV C (Cell C σ H w) (.i k n) v := h
  cases h'; rfl
theorem rep_tup2 {a b : V T} {x y : Value} (h1 : RepV C (Cell C σ H w) a x) (h2 : RepV C (Cell C σ H w) b y) : RepA C σ H w (.tup [.v a, .v b]) (.tuple #[x, y]) :=
  ⟨#[x, y], rfl, x, [y], rfl, h1, y, [], rfl, h2, rfl⟩
theorem repL_ss {x y : ByteArray} {vs : List Value} (h : RepL C σ H w [.v (.s x), .v (.s y)] vs) : vs = [.string x, .string y] := by
  obtain ⟨a, l, h1, h2, b, m, h3, h4, h5⟩ := h
  have h5' : m = [] := h5
  rw [h1, h3, h5', rep_str h2, rep_str h4]
theorem repL_s {x : ByteArray} {vs : List Value} (h : RepL C σ H w [.v (.s x)] vs) : vs = [.string x] := by
  obtain ⟨a, l, h1, h2, h5⟩ := h
  have h5' : l = [] := h5
  rw [h1, h5', rep_str h2]
theorem repL_si {x : ByteArray} {k : IntKind} {y : Int} {vs : List Value} (h : RepL C σ H w [.v (.s x), .v (.i k y)] vs) : vs = [.string x, .int k y] := by
  obtain ⟨a, l, h1, h2, b, m, h3, h4, h5⟩ := h
  have h5' : m = [] := h5
  rw [h1, h3, h5', rep_str h2, rep_int h4]
end Go.Proofs.YthmohmmbhjpbcaaGreatDoor.Ev
namespace Go.Proofs.YthmohmmbhjpbcaaGreatDoor.Ev.Seat
open Go Ev Go.Proofs Go.RowKit
def spSSS : Spec T (ByteArray × ByteArray) ByteArray where
  dcI a H := match a, H with
    | [.v (.s x), .v (.s y)], [] => some (x, y)
    | _, _ => none
  ecA := fun (x, y) => [.v (.s x), .v (.s y)]
  ecH := fun _ => []
  dcO o := match o with
    | .ret (.v (.s a)) [] => some a
    | _ => none
  ecO := fun a => .ret (.v (.s a)) []
  goO := fun _ a k => k (.ret (.v (.s a)) [])
theorem spSSS_ok : SpecOk spSSS := by
  refine ⟨fun a H i h => ?_, fun o x h => ?_, fun R e k => by kernel_rfl⟩
  · simp only [spSSS] at h ⊢; split at h <;> first | (cases h; exact ⟨rfl, rfl⟩) | (cases h; done)
  · simp only [spSSS] at h ⊢; split at h <;> first | (cases h; rfl) | (cases h; done)
def spSSB : Spec T (ByteArray × ByteArray) Bool where
  dcI a H := match a, H with
    | [.v (.s x), .v (.s y)], [] => some (x, y)
    | _, _ => none
  ecA := fun (x, y) => [.v (.s x), .v (.s y)]
  ecH := fun _ => []
  dcO o := match o with
    | .ret (.v (.b a)) [] => some a
    | _ => none
  ecO := fun a => .ret (.v (.b a)) []
  goO := fun _ a k => k (.ret (.v (.b a)) [])
theorem spSSB_ok : SpecOk spSSB := by
  refine ⟨fun a H i h => ?_, fun o x h => ?_, fun R e k => by kernel_rfl⟩
  · simp only [spSSB] at h ⊢; split at h <;> first | (cases h; exact ⟨rfl, rfl⟩) | (cases h; done)
  · simp only [spSSB] at h ⊢; split at h <;> first | (cases h; rfl) | (cases h; done)
def spSSI : Spec T (ByteArray × ByteArray) Int where
  dcI a H := match a, H with
    | [.v (.s x), .v (.s y)], [] => some (x, y)
    | _, _ => none
  ecA := fun (x, y) => [.v (.s x), .v (.s y)]
  ecH := fun _ => []
  dcO o := match o with
    | .ret (.v (.i .i64 a)) [] => some a
    | _ => none
  ecO := fun a => .ret (.v (.i .i64 a)) []
  goO := fun _ a k => k (.ret (.v (.i .i64 a)) [])
theorem spSSI_ok : SpecOk spSSI := by
  refine ⟨fun a H i h => ?_, fun o x h => ?_, fun R e k => by kernel_rfl⟩
  · simp only [spSSI] at h ⊢; split at h <;> first | (cases h; exact ⟨rfl, rfl⟩) | (cases h; done)
  · simp only [spSSI] at h ⊢; split at h <;> first | (cases h; rfl) | (cases h; done)
def spSUI : Spec T (ByteArray × Int) Int where
  dcI a H := match a, H with
    | [.v (.s x), .v (.i .u8 y)], [] => some (x, y)
    | _, _ => none
  ecA := fun (x, y) => [.v (.s x), .v (.i .u8 y)]
  ecH := fun _ => []
  dcO o := match o with
    | .ret (.v (.i .i64 a)) [] => some a
    | _ => none
  ecO := fun a => .ret (.v (.i .i64 a)) []
  goO := fun _ a k => k (.ret (.v (.i .i64 a)) [])
theorem spSUI_ok : SpecOk spSUI := by
  refine ⟨fun a H i h => ?_, fun o x h => ?_, fun R e k => by kernel_rfl⟩
  · simp only [spSUI] at h ⊢; split at h <;> first | (cases h; exact ⟨rfl, rfl⟩) | (cases h; done)
  · simp only [spSUI] at h ⊢; split at h <;> first | (cases h; rfl) | (cases h; done)
def asciiB (c : ByteArray) : Bool := c.data.toList.all fun b => decide (b.toNat < 128)
theorem asciiB_ok {c : ByteArray} (h : asciiB c = true) : ∀ (j : Nat) b, c.data.toList[j]? = some b → b.toNat < 128 := by
  intro j b hb
  have := List.all_eq_true.1 h b (List.mem_of_getElem? hb)
  simpa using this
def strings_Trim (κ : Nat) (x : ByteArray) (y : ByteArray) : Option ByteArray := bif (asciiB y) && (Nat.blt y.size 4294967281) && (Nat.ble x.size maxI) then some ⟨(Lib.trimS x.data.toList y.data.toList).toArray⟩ else none
theorem ok_strings_Trim (κ : Nat) (m : Int) : EOk Tryz.prog C (G m) 133 (spSSS.entry fun (x, y) => strings_Trim κ x y) := by
  refine Spec.lib spSSS_ok (callable Tryz.func133 (c := getBody Tryz.f133) (by kernel_rfl) (by kernel_rfl)) (fun _ => rfl) fun i q hx σ w vs hR ha => ?_
  obtain ⟨x, y⟩ := i
  have hvs := repL_ss ha
  subst hvs
  simp only [strings_Trim] at hx
  cases hb : (asciiB y) && (Nat.blt y.size 4294967281) && (Nat.ble x.size maxI)
  · rw [hb] at hx; cases hx
  · rw [hb] at hx
    cases hx
    simp only [Bool.and_eq_true] at hb
    obtain ⟨⟨h0, h1⟩, h2⟩ := hb
    refine ⟨_, rfl, (Any.strings_Trim_laid Tryz.lays160 (by kernel_rfl) x y w (Nat.le_of_ble_eq_true h2) (Nat.le_of_ble_eq_true h1) (asciiB_ok h0)).mono fun e w' ⟨h1, h2⟩ => ⟨h2, _, h1, .s _⟩⟩
def strings_Contains (κ : Nat) (x : ByteArray) (y : ByteArray) : Option Bool := bif (Nat.blt x.size 4294967281) then some (Lib.contains x.data.toList y.data.toList) else none
theorem ok_strings_Contains (κ : Nat) (m : Int) : EOk Tryz.prog C (G m) 132 (spSSB.entry fun (x, y) => strings_Contains κ x y) := by
  refine Spec.lib spSSB_ok (callable Tryz.func132 (c := getBody Tryz.f132) (by kernel_rfl) (by kernel_rfl)) (fun _ => rfl) fun i q hx σ w vs hR ha => ?_
  obtain ⟨x, y⟩ := i
  have hvs := repL_ss ha
  subst hvs
  have hm : w.cell? ⟨6, 0, none⟩ = some (.int .i64 m) := by
    obtain ⟨y, h1, h2⟩ := hR.glob 6 [.i .i64 m] rfl 0 (.i .i64 m) rfl
    cases h2
    exact h1.2
  simp only [strings_Contains] at hx
  cases hb : (Nat.blt x.size 4294967281)
  · rw [hb] at hx; cases hx
  · rw [hb] at hx
    cases hx
    have h0 := hb
    refine ⟨_, rfl, (Tryz.strings_Contains x y m w (Nat.le_of_ble_eq_true h0) hm).mono fun e w' ⟨h1, h2⟩ => ⟨by rw [h2]; exact Below.refl _ _, _, h1, .b _⟩⟩
def strings_Index (κ : Nat) (x : ByteArray) (y : ByteArray) : Option Int := bif (Nat.blt x.size 4294967281) then some (Lib.index x.data.toList y.data.toList) else none
theorem ok_strings_Index (κ : Nat) (m : Int) : EOk Tryz.prog C (G m) 134 (spSSI.entry fun (x, y) => strings_Index κ x y) := by
  refine Spec.lib spSSI_ok (callable Tryz.func134 (c := getBody Tryz.f134) (by kernel_rfl) (by kernel_rfl)) (fun _ => rfl) fun i q hx σ w vs hR ha => ?_
  obtain ⟨x, y⟩ := i
  have hvs := repL_ss ha
  subst hvs
  have hm : w.cell? ⟨6, 0, none⟩ = some (.int .i64 m) := by
    obtain ⟨y, h1, h2⟩ := hR.glob 6 [.i .i64 m] rfl 0 (.i .i64 m) rfl
    cases h2
    exact h1.2
  simp only [strings_Index] at hx
  cases hb : (Nat.blt x.size 4294967281)
  · rw [hb] at hx; cases hx
  · rw [hb] at hx
    cases hx
    have h0 := hb
    refine ⟨_, rfl, (Tryz.strings_Index x y m w (Nat.le_of_ble_eq_true h0) hm).mono fun e w' ⟨h1, h2⟩ => ⟨by rw [h2]; exact Below.refl _ _, _, h1, .i _ _⟩⟩
def strings_IndexByte (κ : Nat) (x : ByteArray) (y : Int) : Option Int := some (Lib.indexByte x.data.toList y.toNat.toUInt8)
theorem ok_strings_IndexByte (κ : Nat) (m : Int) : EOk Tryz.prog C (G m) 156 (spSUI.entry fun (x, y) => strings_IndexByte κ x y) := by
  refine Spec.lib spSUI_ok (callable Tryz.func156 (c := getBody Tryz.f156) (by kernel_rfl) (by kernel_rfl)) (fun _ => rfl) fun i q hx σ w vs hR ha => ?_
  obtain ⟨x, y⟩ := i
  have hvs := repL_si ha
  subst hvs
  simp only [strings_IndexByte] at hx
  cases hx
  refine ⟨_, rfl, (Tryz.strings_IndexByte x y w).mono fun e w' ⟨h1, h2⟩ => ⟨by rw [h2]; exact Below.refl _ _, _, h1, .i _ _⟩⟩
noncomputable def gamLib (b : Gam T) (κ : Nat) : Gam T := ((((b.addS 133 spSSS (fun (x, y) => strings_Trim κ x y)).addS 132 spSSB (fun (x, y) => strings_Contains κ x y)).addS 134 spSSI (fun (x, y) => strings_Index κ x y)).addS 156 spSUI (fun (x, y) => strings_IndexByte κ x y))
theorem gamLib_ok {b : Gam T} (κ : Nat) (m : Int) (hb : GOk Tryz.prog C (G m) b) : GOk Tryz.prog C (G m) (gamLib b κ) := ((((hb.addS (ok_strings_Trim κ m)).addS (ok_strings_Contains κ m)).addS (ok_strings_Index κ m)).addS (ok_strings_IndexByte κ m))
end Go.Proofs.YthmohmmbhjpbcaaGreatDoor.Ev.Seat


namespace Go.Proofs.YthmohmmbhjpbcaaGreatDoor.Ev.Seat
open Go Ev Go.Proofs Go.RowKit Go.Sort Go.Lib
structure GS (w : World) : Prop where
  esyn : ∃ ev, w.cell? ⟨2, 0, none⟩ = some ev ∧ (ev = .nilIface ∨ ∃ te pe, ev = .iface te pe)
  eran : ∃ ev, w.cell? ⟨3, 0, none⟩ = some ev ∧ (ev = .nilIface ∨ ∃ te pe, ev = .iface te pe)
  pow : ∀ j z, Lib.pow10Tab[j]? = some z → w.cell? ⟨1, j, none⟩ = some (.int .u64 z)
theorem cell_lt {w : World} {b off : Nat} {v : Value} (h : w.cell? ⟨b, off, none⟩ = some v) : b < w.heap.size := by
  rcases Nat.lt_or_ge b w.heap.size with h' | h'
  · exact h'
  · unfold World.cell? at h; rw [Array.getElem?_eq_none h'] at h; simp at h
theorem cell_below {w w' : World} {b off : Nat} {v : Value} (hb : Below w.heap.size w w') (h : w.cell? ⟨b, off, none⟩ = some v) : w'.cell? ⟨b, off, none⟩ = some v := by
  have hk := hb.block b (cell_lt h)
  unfold World.cell? at *
  rw [hk]; exact h
theorem GS.below {w w' : World} (h : GS w) (hb : Below w.heap.size w w') : GS w' := by
  obtain ⟨⟨e1, h1, k1⟩, ⟨e2, h2, k2⟩, h3⟩ := h
  exact ⟨⟨e1, cell_below hb h1, k1⟩, ⟨e2, cell_below hb h2, k2⟩, fun j z hz => cell_below hb (h3 j z hz)⟩
theorem gs_of {C0 : Cdc T} {σ : Lk} {H : List (AObj T)} {w : World} {m : Int} (hR : Rp C0 σ H w (G m)) : GS w := by
  refine ⟨?_, ?_, fun j z hz => ?_⟩
  · obtain ⟨y, h1, h2⟩ := hR.glob 2 [.ifx] rfl 0 .ifx rfl
    cases h2 with
    | ifx _ h => exact ⟨y, h1.2, h⟩
  · obtain ⟨y, h1, h2⟩ := hR.glob 3 [.ifx] rfl 0 .ifx rfl
    cases h2 with
    | ifx _ h => exact ⟨y, h1.2, h⟩
  · obtain ⟨y, h1, h2⟩ := hR.glob 1 pow10V rfl j (.i .u64 z) (by simp [pow10V, hz])
    cases h2
    simpa using h1.2
set_option maxHeartbeats 2000000 in
set_option maxRecDepth 100000 in
theorem numDigits_c (u : Nat) (h1 : 1 ≤ u) (h2 : u < 18446744073709551616) (w : World) (hp : ∀ j z, Lib.pow10Tab[j]? = some z → w.cell? ⟨1, j, none⟩ = some (.int .u64 z)) :
    Calls Tryz.prog 67 #[.int .u64 u] w fun e w' => e = .returned (.int .i64 (Lib.nDigits u)) ∧ w' = w := by
  obtain ⟨hnd, h19⟩ := Lib.numDigits_eq u h1 h2
  have hL : Lib.bitLen u ≤ 64 := Lib.bitLen_le u 64 (Nat.le_refl _) h2
  have hcell : w.cell? ⟨1, Lib.l10 (Lib.bitLen u), none⟩ = some (.int .u64 ((10 ^ Lib.l10 (Lib.bitLen u) : Nat) : Int)) := hp _ _ (by
    unfold Lib.pow10Tab
    rw [List.getElem?_map, List.getElem?_range (by omega)]; rfl)
  have hto : ((u : Int)).toNat = u := by omega
  generalize hq : Lib.l10 (Lib.bitLen u) = q at hnd h19 hcell
  generalize hT : 10 ^ q = T at hnd hcell
  have h20 : q < 20 := by omega
  have Hnd := Lib.hid hnd
  clear hnd hp
  go_enter Tryz.func67, Tryz.ntmps67
  go_wp2_with (first
    | (go_at_call 78; refine (Tryz.bits_Len64 _ _ (by omega) (by omega)).mono ?_; rintro e w' ⟨rfl, rfl⟩)
    | (go_at_call 77; refine (Tryz.internal_strconv_log10Pow2 _ (by first | exact hL | (rw [hto]; exact hL)) _).mono ?_; rintro e w' ⟨rfl, rfl⟩)
    | (go_at_call 79; refine (Tryz.internal_strconv_bool2_int _ _).mono ?_; rintro e w' ⟨rfl, rfl⟩))
  all_goals go_ret
  all_goals (
    refine ⟨?_, rfl⟩
    have hnd := Hnd.out
    congr 2
    split at hnd <;> simp_all <;> omega)
theorem below_alloc {w W : World} (h : Below w.heap.size w W) (o : Obj) : Below w.heap.size w (W.alloc o) := h.alloc h.size o
theorem bytes_below {B : Nat} {w W : World} (h : Below B w W) (hB : B ≤ W.heap.size) (e : TypeId) (s : ByteArray) : Below B w (Lib.bytesWorld W e s) :=
  h.trans ⟨rfl, rfl, rfl, by rw [Lib.bytesWorld_size]; omega, fun i hi => Lib.bytesWorld_at_old W e s i (by omega)⟩
theorem holds_zero0 (w : World) (T : TypeId) (nd : Nat) (hs : nd ≤ 24) : Holds (fun (b : UInt8) => Value.int .u8 (b.toNat : Int)) (w.alloc (.cells zeros24 T)) w.heap.size 0 (Array.replicate nd (0 : UInt8)) := fun j hj => by
  have hj' : j < nd := by simpa using hj
  refine ⟨?_, World.frozen?_alloc_new _ _ _ _⟩
  rw [World.cell?_alloc_new, zeros24_at _ (by omega), getElem!_pos _ j hj]
  simp
theorem fin0 (w : World) (o : Obj) (dk : Array UInt8) (k : Nat) : Below w.heap.size w ((putRow (fun (b : UInt8) => Value.int .u8 (b.toNat : Int)) (w.alloc o) w.heap.size 0 dk).drewN k) := by
  rw [alloc_eq_grow]
  obtain ⟨os', _, e⟩ := putRow_grow_new (fun (b : UInt8) => Value.int .u8 (b.toNat : Int)) w #[o] w.heap.size 0 dk (Nat.le_refl _)
  rw [e]
  exact below_grow _ w (Nat.le_refl _) k os'

set_option maxHeartbeats 6400000 in
set_option maxRecDepth 100000 in
theorem FormatUint_in (u : Nat) (h : u < 18446744073709551616) (w : World) (hG : GS w) :
    Calls Tryz.prog 60 #[.int .u64 u, .int .i64 10] w fun e w' => e = .returned (.string ⟨(Lib.decDigits u).toArray⟩) ∧ Below w.heap.size w w' := by
  by_cases hs : u < 100
  · have d : decide ((u : Int) < 100) = true := by simp; omega
    go_enter Tryz.func60, Tryz.ntmps60
    go_wp2_with (go_at_call 66; refine (Tryz.internal_strconv_small u hs _).mono ?_; rintro e w' ⟨rfl, rfl⟩)
    go_ret
    exact ⟨rfl, Below.refl _ _⟩
  · have hu1 : 1 ≤ u := by omega
    have hg1 : GS (w.alloc (.cells Lib.zeros24 109)) := hG.below (below_alloc (Below.refl _ _) _)
    have HG := Lib.hid hg1
    clear hG hg1
    have d : decide ((u : Int) < 100) = false := by simp; omega
    have hnd20 : Lib.nDigits u ≤ 20 := by have := Lib.numDigits_eq u hu1 h; split at this <;> omega
    have hal : Tryz.prog.arrayLen 109 = 24 := by kernel_rfl
    have hsl1 : ∀ W, (Instr.sliceAt 109 (.pointer (some ⟨w.heap.size, 0, none⟩)) none (some (.int .i64 (Lib.nDigits u : Int))) none).run Tryz.prog W = .ok (.slice (some ⟨w.heap.size, 0, none⟩) (Lib.nDigits u) 24) W := fun W => by
      rw [run_sliceAt_array_h W 109 ⟨w.heap.size, 0, none⟩ (by simp [Program.arrayLen, Program.elem, Tryz.underlying109]) .i64 (Lib.nDigits u : Int) (by omega) (by rw [hal]; omega)]
      go_simp
    have hH0 := holds_zero0 w 109 (Lib.nDigits u) (by omega)
    have hfmt := Tryz.internal_strconv_formatBase10 w.heap.size 0 24 u (Array.replicate (Lib.nDigits u) 0) (w.alloc (.cells Lib.zeros24 109)) hH0 (by rw [Array.size_replicate]; exact Lib.lt_pow_nDigits u) h (by rw [Array.size_replicate]; omega)
    rw [Array.size_replicate] at hfmt
    have HH0 := Lib.hid hH0
    clear hH0 hal
    go_enter Tryz.func60, Tryz.ntmps60
    go_wp2_with (first
      | (go_at_call 67; refine (numDigits_c u hu1 h _ HG.out.pow).mono ?_; rintro e w' ⟨rfl, rfl⟩))
    go_at_call 68
    refine hfmt.mono ?_
    rintro e w' ⟨rfl, k, v', dk, rfl, hF⟩
    have hcv : (convert 38 9 (.slice (some ⟨w.heap.size, 0, none⟩) (Lib.nDigits u) 24)).run Tryz.prog ((putRow (fun (b : UInt8) => Value.int .u8 (b.toNat : Int)) (w.alloc (.cells Lib.zeros24 109)) w.heap.size 0 dk).drewN k) = .ok (.string ⟨(Lib.decDigits u).toArray⟩) ((putRow (fun (b : UInt8) => Value.int .u8 (b.toNat : Int)) (w.alloc (.cells Lib.zeros24 109)) w.heap.size 0 dk).drewN k) := by
      have h := run_convert_bytes_back (P := Tryz.prog) ((putRow (fun (b : UInt8) => Value.int .u8 (b.toNat : Int)) (w.alloc (.cells Lib.zeros24 109)) w.heap.size 0 dk).drewN k) 38 9 5 ⟨w.heap.size, 0, none⟩ 24 (Lib.decDigits u) Tryz.underlying38 Tryz.underlying5 Tryz.underlying9 (fun j hj => by
        rw [Lib.row_is_numeral hF j hj, Lib.add_plain, World.cell?_drewN]
        exact cell?_putRow (fun (b : UInt8) => Value.int .u8 (b.toNat : Int)) _ w.heap.size 0 _ dk HH0.out (by rw [hF.size, Array.size_replicate]) j (by rw [hF.size]; rw [Lib.decDigits_length] at hj; exact hj))
      rw [Lib.decDigits_length] at h
      exact h
    go_wp2
    go_ret
    exact ⟨rfl, fin0 w (.cells Lib.zeros24 109) dk k⟩
theorem FormatUint_calls (u : Nat) (h : u < 18446744073709551616) (w : World) (hG : GS w) :
    Calls Tryz.prog 48 #[.int .u64 u, .int .i64 10] w fun e w' => e = .returned (.string ⟨(Lib.decDigits u).toArray⟩) ∧ Below w.heap.size w w' := by
  have hp := Lib.hid hG
  clear hG
  go_enter Tryz.func48, Tryz.ntmps48
  go_wp2_with (go_at_call 60; refine (FormatUint_in u h _ hp.out).mono ?_; rintro e w' ⟨rfl, hb⟩)
  go_ret
  exact ⟨rfl, hb⟩
theorem ShowUint_calls (u : Nat) (h : u < 18446744073709551616) (w : World) (hG : GS w) :
    Calls Tryz.prog 37 #[.int .u64 u] w fun e w' => e = .returned (.string ⟨(Lib.decDigits u).toArray⟩) ∧ Below w.heap.size w w' := by
  have HG := Lib.hid hG
  clear hG
  go_enter Tryz.func37, Tryz.ntmps37
  go_wp2_with (go_at_call 48; refine (FormatUint_calls u h _ HG.out).mono ?_; rintro e w' ⟨rfl, hb⟩)
  go_ret
  exact ⟨rfl, hb⟩
theorem below_or {w w' : World} {s : ByteArray} {T : TypeId} (h : w' = w ∨ w' = Lib.bytesWorld w T s) : Below w.heap.size w w' := by
  rcases h with rfl | rfl
  · exact Below.refl _ _
  · exact bytes_below (Below.refl _ _) (Nat.le_refl _) T s
theorem ShowUint_as (u : Nat) (h : u < 18446744073709551616) (d : ByteArray) (hd : d = ⟨(Lib.decDigits u).toArray⟩) (w : World) (hG : GS w) :
    Calls Tryz.prog 37 #[.int .u64 u] w fun e w' => e = .returned (.string d) ∧ Below w.heap.size w w' := by
  subst hd; exact ShowUint_calls u h w hG
set_option maxHeartbeats 1000000 in
theorem Uint_ok (s : ByteArray) (hs : s.size ≤ 140737488351232) (u : Nat) (hu : u < 18446744073709551616) (h : Lib.parseUintB 64 s.data.toList = .ok u) (hq : s = ⟨(Lib.decDigits u).toArray⟩) (w : World) (hG : GS w) :
    Calls Tryz.prog 38 #[.string s] w fun e w' => e = .returned (.tuple #[.int .u64 u, .bool true]) ∧ Below w.heap.size w w' := by
  have HG := Lib.hid hG
  have HP := Lib.hid h
  have HQ := Lib.hid hq
  clear hG h hq
  go_enter Tryz.func38, Tryz.ntmps38
  go_wp2_with (first
    | (go_at_call 49; refine (Tryz.strconv_ParseUint_10_at64_ok s (by omega) u HP.out _).mono ?_; rintro e w1 ⟨rfl, hb⟩; have HB := Lib.hid (below_or hb); clear hb)
    | (go_at_call 37; refine (ShowUint_as u hu s HQ.out _ (HG.out.below HB.out)).mono ?_; rintro e w2 ⟨rfl, hb2⟩; have HB2 := Lib.hid hb2; clear hb2))
  go_ret2
  exact ⟨rfl, HB.out.trans (HB2.out.mono HB.out.size)⟩
set_option maxHeartbeats 1000000 in
theorem Uint_other (s d : ByteArray) (hs : s.size ≤ 140737488351232) (u : Nat) (hu : u < 18446744073709551616) (h : Lib.parseUintB 64 s.data.toList = .ok u) (hd : d = ⟨(Lib.decDigits u).toArray⟩) (hq : (d.toList == s.toList) = false) (w : World) (hG : GS w) :
    Calls Tryz.prog 38 #[.string s] w fun e w' => e = .returned (.tuple #[.int .u64 0, .bool false]) ∧ Below w.heap.size w w' := by
  have HG := Lib.hid hG
  have HP := Lib.hid h
  have HD := Lib.hid hd
  clear hG h hd
  go_enter Tryz.func38, Tryz.ntmps38
  go_wp2_with (first
    | (go_at_call 49; refine (Tryz.strconv_ParseUint_10_at64_ok s (by omega) u HP.out _).mono ?_; rintro e w1 ⟨rfl, hb⟩; have HB := Lib.hid (below_or hb); clear hb)
    | (go_at_call 37; refine (ShowUint_as u hu d HD.out _ (HG.out.below HB.out)).mono ?_; rintro e w2 ⟨rfl, hb2⟩; have HB2 := Lib.hid hb2; clear hb2))
  go_ret2
  exact ⟨rfl, HB.out.trans (HB2.out.mono HB.out.size)⟩
theorem parse_bad (s : ByteArray) (hlim : s.size ≤ 281474976710656) (h : Lib.parseUintB 64 s.data.toList = Lib.parseUintB 64 []) (ev : Value) (w : World) (hv : w.cell? ⟨2, 0, none⟩ = some ev) (hev : ev = .nilIface ∨ ∃ te pe, ev = .iface te pe) :
    Calls Tryz.prog 49 #[.string s, .int .i64 10, .int .i64 64] w fun e w' => ∃ N, e = .returned (.tuple #[.int .u64 0, .iface 117 (.pointer (some ⟨N, 0, none⟩))]) ∧ Below w.heap.size w w' :=
  (Any.strconv_ParseUint_10_at64_syntax Tryz.laysPu14 s hlim (h.trans (by unfold Lib.parseUintB; rw [if_pos rfl])) ev w hv hev).mono fun _ _ ⟨N, h1, _, _, h2⟩ => ⟨N, h1, h2⟩
theorem parse_big (s : ByteArray) (hlim : s.size ≤ 281474976710656) (h : Lib.parseUintB 64 s.data.toList = .range) (ev : Value) (w : World) (hv : w.cell? ⟨3, 0, none⟩ = some ev) (hev : ev = .nilIface ∨ ∃ te pe, ev = .iface te pe) :
    Calls Tryz.prog 49 #[.string s, .int .i64 10, .int .i64 64] w fun e w' => ∃ N n, e = .returned (.tuple #[.int .u64 n, .iface 117 (.pointer (some ⟨N, 0, none⟩))]) ∧ Below w.heap.size w w' :=
  (Tryz.strconv_ParseUint_10_at64_range s hlim h ev w hv hev).mono fun _ _ ⟨N, h1, _, _, h2⟩ => ⟨N, _, h1, h2⟩
set_option maxHeartbeats 1000000 in
theorem Uint_bad (s : ByteArray) (hs : s.size ≤ 140737488351232) (h : Lib.parseUintB 64 s.data.toList = Lib.parseUintB 64 []) (w : World) (hG : GS w) :
    Calls Tryz.prog 38 #[.string s] w fun e w' => e = .returned (.tuple #[.int .u64 0, .bool false]) ∧ Below w.heap.size w w' := by
  have HP := Lib.hid h
  obtain ⟨ev, h1, h2⟩ := hG.esyn
  have H1 := Lib.hid h1
  have H2 := Lib.hid h2
  clear hG h h1 h2
  go_enter Tryz.func38, Tryz.ntmps38
  go_wp2_with (first
    | (go_at_call 49; refine (parse_bad s (by omega) HP.out ev _ H1.out H2.out).mono ?_; rintro e w1 ⟨N, rfl, hb⟩; have HB := Lib.hid hb; clear hb))
  go_ret2
  exact ⟨rfl, HB.out⟩
set_option maxHeartbeats 1000000 in
theorem Uint_range (s : ByteArray) (hs : s.size ≤ 140737488351232) (h : Lib.parseUintB 64 s.data.toList = .range) (w : World) (hG : GS w) :
    Calls Tryz.prog 38 #[.string s] w fun e w' => e = .returned (.tuple #[.int .u64 0, .bool false]) ∧ Below w.heap.size w w' := by
  have HP := Lib.hid h
  obtain ⟨ev, h1, h2⟩ := hG.eran
  have H1 := Lib.hid h1
  have H2 := Lib.hid h2
  clear hG h h1 h2
  go_enter Tryz.func38, Tryz.ntmps38
  go_wp2_with (first
    | (go_at_call 49; refine (parse_big s (by omega) HP.out ev _ H1.out H2.out).mono ?_; rintro e w1 ⟨N, n, rfl, hb⟩; have HB := Lib.hid hb; clear hb))
  go_ret2
  exact ⟨rfl, HB.out⟩
def uintOf (s : ByteArray) : Int × Bool :=
  match Lib.parseUintB 64 s.data.toList with
  | .ok u => bif Nat.blt u 18446744073709551616 && sameBy (Lib.decDigits u) s.data.toList then ((u : Int), true) else (0, false)
  | _ => (0, false)
def showOf (x : Int) : ByteArray := ⟨(Lib.decDigits x.toNat).toArray⟩
def scalUint (κ : Nat) (s : ByteArray) : Option (Int × Bool) := bif Nat.ble s.size 140737488351232 then some (uintOf s) else none
def scalShow (κ : Nat) (x : Int) : Option ByteArray := bif decide (0 ≤ x) && decide (x < 18446744073709551616) then some (showOf x) else none
theorem sameBy_self : ∀ l : List UInt8, sameBy l l = true
  | [] => rfl
  | a :: l => by
    unfold sameBy
    rw [sameBy_self l, Bool.and_true]
    exact Nat.beq_refl _
theorem parse_lt {s : List UInt8} {u : Nat} (h : Lib.parseUintB 64 s = .ok u) : u < 18446744073709551616 := by
  have := Lib.parseUintB_le h
  omega
theorem Uint_calls (s : ByteArray) (hs : s.size ≤ 140737488351232) (w : World) (hG : GS w) :
    Calls Tryz.prog 38 #[.string s] w fun e w' => e = .returned (.tuple #[.int .u64 (uintOf s).1, .bool (uintOf s).2]) ∧ Below w.heap.size w w' := by
  unfold uintOf
  rcases hp : Lib.parseUintB 64 s.data.toList with u | _ | _
  rotate_left
  · exact Uint_bad s hs (hp.trans (by unfold Lib.parseUintB; rw [if_pos rfl])) w hG
  · exact Uint_range s hs hp w hG
  · have hu := parse_lt hp
    have h1 : Nat.blt u 18446744073709551616 = true := by simpa [Nat.blt_eq] using hu
    show Calls Tryz.prog _ _ w fun e w' => e = .returned (.tuple #[.int .u64 (bif Nat.blt u 18446744073709551616 && sameBy (Lib.decDigits u) s.data.toList then ((u : Int), true) else (0, false)).1, .bool (bif Nat.blt u 18446744073709551616 && sameBy (Lib.decDigits u) s.data.toList then ((u : Int), true) else (0, false)).2]) ∧ _
    rw [h1, Bool.true_and]
    cases hq : sameBy (Lib.decDigits u) s.data.toList
    · refine Uint_other s ⟨(Lib.decDigits u).toArray⟩ hs u hu hp rfl ?_ w hG
      refine Bool.eq_false_iff.2 fun he => ?_
      have he' := eq_of_beq he
      have : (Lib.decDigits u) = s.data.toList := by
        have e : (⟨(Lib.decDigits u).toArray⟩ : ByteArray).toList = s.toList := he'
        rwa [toList_data, toList_data] at e
      rw [this, sameBy_self] at hq
      cases hq
    · refine Uint_ok s hs u hu hp ?_ w hG
      have := sameBy_eq hq
      cases s with
      | mk d => simp only at this ⊢; rw [this]
def spSUB : Spec T ByteArray (Int × Bool) where
  dcI a H := match a, H with
    | [.v (.s x)], [] => some x
    | _, _ => none
  ecA := fun x => [.v (.s x)]
  ecH := fun _ => []
  dcO o := match o with
    | .ret (.tup [.v (.i .u64 a), .v (.b b)]) [] => some (a, b)
    | _ => none
  ecO := fun (a, b) => .ret (.tup [.v (.i .u64 a), .v (.b b)]) []
  goO := fun _ (a, b) k => k (.ret (.tup [.v (.i .u64 a), .v (.b b)]) [])
theorem spSUB_ok : SpecOk spSUB := by
  refine ⟨fun a H i h => ?_, fun o x h => ?_, fun R e k => by kernel_rfl⟩
  · simp only [spSUB] at h ⊢; split at h <;> first | (cases h; exact ⟨rfl, rfl⟩) | (cases h; done)
  · simp only [spSUB] at h ⊢; split at h <;> first | (cases h; rfl) | (cases h; done)
def spUS : Spec T Int ByteArray where
  dcI a H := match a, H with
    | [.v (.i .u64 x)], [] => some x
    | _, _ => none
  ecA := fun x => [.v (.i .u64 x)]
  ecH := fun _ => []
  dcO o := match o with
    | .ret (.v (.s a)) [] => some a
    | _ => none
  ecO := fun a => .ret (.v (.s a)) []
  goO := fun _ a k => k (.ret (.v (.s a)) [])
theorem spUS_ok : SpecOk spUS := by
  refine ⟨fun a H i h => ?_, fun o x h => ?_, fun R e k => by kernel_rfl⟩
  · simp only [spUS] at h ⊢; split at h <;> first | (cases h; exact ⟨rfl, rfl⟩) | (cases h; done)
  · simp only [spUS] at h ⊢; split at h <;> first | (cases h; rfl) | (cases h; done)
theorem repL_i1 {C : Cdc T} {σ : Lk} {H : List (AObj T)} {w : World} {k : IntKind} {x : Int} {vs : List Value} (h : RepL C σ H w [.v (.i k x)] vs) : vs = [.int k x] := by
  obtain ⟨a, l, h1, h2, h5⟩ := h
  have h5' : l = [] := h5
  rw [h1, h5', rep_int h2]
theorem ok_scalUint (κ : Nat) (m : Int) : EOk Tryz.prog C (G m) 38 (spSUB.entry fun x => scalUint κ x) := by
  refine Spec.lib spSUB_ok (callable Tryz.func38 (c := getBody Tryz.f38) (by kernel_rfl) (by kernel_rfl)) (fun _ => rfl) fun x q hx σ w vs hR ha => ?_
  have hvs := repL_s ha
  subst hvs
  simp only [scalUint] at hx
  cases hb : Nat.ble x.size 140737488351232
  · rw [hb] at hx; cases hx
  · rw [hb] at hx
    cases hx
    exact ⟨_, rfl, (Uint_calls x (Nat.le_of_ble_eq_true hb) w (gs_of hR)).mono fun e w' ⟨h1, h2⟩ => ⟨h2, _, h1, rep_tup2 (.i _ _) (.b _)⟩⟩
theorem ok_scalShow (κ : Nat) (m : Int) : EOk Tryz.prog C (G m) 37 (spUS.entry fun x => scalShow κ x) := by
  refine Spec.lib spUS_ok (callable Tryz.func37 (c := getBody Tryz.f37) (by kernel_rfl) (by kernel_rfl)) (fun _ => rfl) fun x q hx σ w vs hR ha => ?_
  have hvs := repL_i1 ha
  subst hvs
  simp only [scalShow] at hx
  cases hb : decide (0 ≤ x) && decide (x < 18446744073709551616)
  · rw [hb] at hx; cases hx
  · rw [hb] at hx
    cases hx
    simp only [Bool.and_eq_true, decide_eq_true_eq] at hb
    obtain ⟨u, rfl⟩ := Int.eq_ofNat_of_zero_le hb.1
    exact ⟨_, rfl, (ShowUint_calls u (by omega) w (gs_of hR)).mono fun e w' ⟨h1, h2⟩ => ⟨h2, _, h1, .s _⟩⟩
noncomputable def gamScal (b : Gam T) (κ : Nat) : Gam T := ((b.addS 38 spSUB fun x => scalUint κ x).addS 37 spUS fun x => scalShow κ x)
theorem gamScal_ok {b : Gam T} (κ : Nat) (m : Int) (hb : GOk Tryz.prog C (G m) b) : GOk Tryz.prog C (G m) (gamScal b κ) := (hb.addS (ok_scalUint κ m)).addS (ok_scalShow κ m)
end Go.Proofs.YthmohmmbhjpbcaaGreatDoor.Ev.Seat


set_option maxRecDepth 8000
namespace Go.Proofs.YthmohmmbhjpbcaaGreatDoor.Ev.Seat
open Go Ev Go.Proofs
def eqT (t : Nat) (x y : T t) : Bool := if h : t = 9 then sameBy (h ▸ x : T 9).data.toList (h ▸ y : T 9).data.toList else false
instance : EqT T := ⟨eqT, fun t x y h => by
  unfold eqT at h
  split at h
  · rename_i ht; subst ht
    have := sameBy_eq h
    change ByteArray at x y
    cases x; cases y
    rename_i a b
    cases a; cases b
    exact congrArg (fun l => (⟨⟨l⟩⟩ : ByteArray)) this
  · cases h⟩
def giveR : List Nat := [51, 52, 53, 54, 55, 56, 57, 58, 59, 34, 44, 45, 64, 65, 42, 43]
noncomputable def inlR (m : Int) (Γ : Gam T) (cut : Key → Option (Cut T)) (fn : Func) : Entry T := inlE C Tryz.prog (G m) Γ cut fn
noncomputable def luR (m : Int) (Γ : Gam T) (fn : Func) (b k : Nat) : Cut T := fun R env H ds K => loopU C Tryz.prog (G m) Γ fn.ntmps noCut b (bodyOf (pieceOf (.blk b) (getBody fn))) k env H ds K
noncomputable def gR0 (m : Int) : Gam T := ((((((((gam0.give giveR).addE 53 (inlR m gam0 noCut Tryz.f53)).addE 54 (inlR m gam0 noCut Tryz.f54)).addE 64 (inlR m gam0 noCut Tryz.f64)).addE 65 (inlR m gam0 noCut Tryz.f65)).addE 58 (inlR m gam0 noCut Tryz.f58)).addE 45 (inlR m gam0 noCut Tryz.f45)).addE 51 (inlR m gam0 noCut Tryz.f51)).addE 43 (inlR m gam0 noCut Tryz.f43)
noncomputable def cR52 (m : Int) : Key → Option (Cut T) := addCut noCut (.blk 0) (luR m (gR0 m) Tryz.f52 0 3)
noncomputable def cR44 (m : Int) : Key → Option (Cut T) := addCut noCut (.blk 0) (luR m (gR0 m) Tryz.f44 0 7)
noncomputable def gR1 (m : Int) : Gam T := (((gR0 m).addE 52 (inlN C Tryz.prog (G m) (gR0 m) (cR52 m) (andN (slS 0 [5] 9) (rdS C 0 [5] 9)) Tryz.f52)).addE 44 (inlR m (gR0 m) (cR44 m) Tryz.f44)).addE 57 (inlR m (gR0 m) noCut Tryz.f57)
noncomputable def gR2 (m : Int) : Gam T := (gR1 m).addE 34 (inlR m (gR1 m) noCut Tryz.f34)
noncomputable def cR56 (m : Int) : Key → Option (Cut T) := addCut noCut (.blk 0) (luR m (gR2 m) Tryz.f56 0 4)
noncomputable def gR3 (m : Int) : Gam T := (gR2 m).addE 56 (inlR m (gR2 m) (cR56 m) Tryz.f56)
noncomputable def opsR (c : Code) : Array Oper := match c with | .region _ ops _ => ops | _ => #[]
noncomputable def cR42 (m : Int) : Key → Option (Cut T) := addCut noCut (.reg 3) (regAll C Tryz.prog (G m) (gR3 m) Tryz.f42.ntmps (opsR (pieceOf (.reg 3) (getBody Tryz.f42))) (gcN 0 [0, 3]) [0, 3])
def rdAll (l : List (Nat × Nat)) : NormT T := l.foldr (fun p N => andN (rdC C p.1 p.2 [] 31) N) (andN (rdS C 0 [0, 8] 31) (andN (slS 0 [0, 5] 9) (slS 0 [0, 8] 31)))
noncomputable def cRR (m : Int) (Γ : Gam T) : Key → Option (Cut T) := addCut noCut (.blk 0) (luR m Γ Tryz.f33 0 3)
variable (m : Int)
theorem gR0_ok : GOk Tryz.prog C (G m) (gR0 m) := ((((((((gam0_ok.give).addE (inlE_ok C_ok mixed gam0_ok Tryz.func53 (c := (getBody Tryz.f53)) (by kernel_rfl) (by kernel_rfl) (fun n => cuts_by (l := []) (by kernel_rfl) all_nil))).addE (inlE_ok C_ok mixed gam0_ok Tryz.func54 (c := (getBody Tryz.f54)) (by kernel_rfl) (by kernel_rfl) (fun n => cuts_by (l := []) (by kernel_rfl) all_nil))).addE (inlE_ok C_ok mixed gam0_ok Tryz.func64 (c := (getBody Tryz.f64)) (by kernel_rfl) (by kernel_rfl) (fun n => cuts_by (l := []) (by kernel_rfl) all_nil))).addE (inlE_ok C_ok mixed gam0_ok Tryz.func65 (c := (getBody Tryz.f65)) (by kernel_rfl) (by kernel_rfl) (fun n => cuts_by (l := []) (by kernel_rfl) all_nil))).addE (inlE_ok C_ok mixed gam0_ok Tryz.func58 (c := (getBody Tryz.f58)) (by kernel_rfl) (by kernel_rfl) (fun n => cuts_by (l := []) (by kernel_rfl) all_nil))).addE (inlE_ok C_ok mixed gam0_ok Tryz.func45 (c := (getBody Tryz.f45)) (by kernel_rfl) (by kernel_rfl) (fun n => cuts_by (l := []) (by kernel_rfl) all_nil))).addE (inlE_ok C_ok mixed gam0_ok Tryz.func51 (c := (getBody Tryz.f51)) (by kernel_rfl) (by kernel_rfl) (fun n => cuts_by (l := []) (by kernel_rfl) all_nil))).addE (inlE_ok C_ok mixed gam0_ok Tryz.func43 (c := (getBody Tryz.f43)) (by kernel_rfl) (by kernel_rfl) (fun n => cuts_by (l := []) (by kernel_rfl) all_nil))
theorem cR52_ok (n : Nat) : CutOk Tryz.prog C (G m) Tryz.f52.ntmps n (pieceOf (.blk 0) (getBody Tryz.f52)) (luR m (gR0 m) Tryz.f52 0 3) := loopU_ok C_ok (gR0_ok m) mixed (cuts_by (l := []) (by kernel_rfl) all_nil) 3
theorem cR44_ok (n : Nat) : CutOk Tryz.prog C (G m) Tryz.f44.ntmps n (pieceOf (.blk 0) (getBody Tryz.f44)) (luR m (gR0 m) Tryz.f44 0 7) := loopU_ok C_ok (gR0_ok m) mixed (cuts_by (l := []) (by kernel_rfl) all_nil) 7
theorem gR1_ok : GOk Tryz.prog C (G m) (gR1 m) := (((gR0_ok m).addE (inlN_ok C_ok mixed (gR0_ok m) (fun n => andN_ok (slS_ok C_ok) (rdS_ok C_ok)) Tryz.func52 (c := (getBody Tryz.f52)) (by kernel_rfl) (by kernel_rfl) (fun n => cuts_by (l := [(pieceOf (.blk 0) (getBody Tryz.f52), luR m (gR0 m) Tryz.f52 0 3)]) (by kernel_rfl) (all_cons (cR52_ok m n) all_nil)))).addE (inlE_ok C_ok mixed (gR0_ok m) Tryz.func44 (c := (getBody Tryz.f44)) (by kernel_rfl) (by kernel_rfl) (fun n => cuts_by (l := [(pieceOf (.blk 0) (getBody Tryz.f44), luR m (gR0 m) Tryz.f44 0 7)]) (by kernel_rfl) (all_cons (cR44_ok m n) all_nil)))).addE (inlE_ok C_ok mixed (gR0_ok m) Tryz.func57 (c := (getBody Tryz.f57)) (by kernel_rfl) (by kernel_rfl) (fun n => cuts_by (l := []) (by kernel_rfl) all_nil))
theorem gR2_ok : GOk Tryz.prog C (G m) (gR2 m) := (gR1_ok m).addE (inlE_ok C_ok mixed (gR1_ok m) Tryz.func34 (c := (getBody Tryz.f34)) (by kernel_rfl) (by kernel_rfl) (fun n => cuts_by (l := []) (by kernel_rfl) all_nil))
theorem cR56_ok (n : Nat) : CutOk Tryz.prog C (G m) Tryz.f56.ntmps n (pieceOf (.blk 0) (getBody Tryz.f56)) (luR m (gR2 m) Tryz.f56 0 4) := loopU_ok C_ok (gR2_ok m) mixed (cuts_by (l := []) (by kernel_rfl) all_nil) 4
theorem gR3_ok : GOk Tryz.prog C (G m) (gR3 m) := (gR2_ok m).addE (inlE_ok C_ok mixed (gR2_ok m) Tryz.func56 (c := (getBody Tryz.f56)) (by kernel_rfl) (by kernel_rfl) (fun n => cuts_by (l := [(pieceOf (.blk 0) (getBody Tryz.f56), luR m (gR2 m) Tryz.f56 0 4)]) (by kernel_rfl) (all_cons (cR56_ok m n) all_nil)))
noncomputable def first_a : AV T := (.agg [(.v (.s ⟨⟨[]⟩⟩)), (.v (.i .i64 2)), (.v (.i .i64 0)), (.v (.i .u64 0)), (.v (.i .u64 0)), .cap0, (.v (.b false)), (.v (.i .i64 0)), (.slc 0 0 2 2)])
noncomputable def first_h : List (AObj T) := [(.cells 31 none [(.v (.s ⟨⟨[115, 121, 115, 116, 101, 109]⟩⟩)), (.v (.i .i64 1)), (.v (.i .i64 5)), (.v (.i .u64 0)), (.v (.i .u64 0)), (.v (.sl 9 [])), (.v (.b false)), (.v (.i .i64 0)), .cap0, (.v (.s ⟨⟨[112, 111, 114, 116]⟩⟩)), (.v (.i .i64 3)), (.v (.i .i64 0)), (.v (.i .u64 0)), (.v (.i .u64 0)), .cap0, (.v (.b false)), (.v (.i .i64 4)), (.slc 1 0 4 4)]), (.cells 31 none [(.v (.s ⟨⟨[117, 112]⟩⟩)), (.v (.i .i64 1)), (.v (.i .i64 3)), (.v (.i .u64 0)), (.v (.i .u64 0)), (.v (.sl 9 [])), (.v (.b false)), (.v (.i .i64 0)), .cap0, (.v (.s ⟨⟨[99, 108, 97, 115, 115]⟩⟩)), (.v (.i .i64 3)), (.v (.i .i64 0)), (.v (.i .u64 0)), (.v (.i .u64 0)), .cap0, (.v (.b false)), (.v (.i .i64 8)), (.slc 2 0 4 4), (.v (.s ⟨⟨[114, 117, 108, 101]⟩⟩)), (.v (.i .i64 3)), (.v (.i .i64 0)), (.v (.i .u64 0)), (.v (.i .u64 0)), .cap0, (.v (.b false)), (.v (.i .i64 16)), (.slc 3 0 3 3), (.v (.s ⟨⟨[100, 101, 102, 97, 117, 108, 116]⟩⟩)), (.v (.i .i64 1)), (.v (.i .i64 6)), (.v (.i .u64 0)), (.v (.i .u64 0)), (.v (.sl 9 [])), (.v (.b true)), (.v (.i .i64 0)), .cap0]), (.cells 31 none [(.v (.s ⟨⟨[113, 117, 97, 110, 116, 117, 109]⟩⟩)), (.v (.i .i64 1)), (.v (.i .i64 1)), (.v (.i .u64 1500)), (.v (.i .u64 100000)), (.v (.sl 9 [])), (.v (.b true)), (.v (.i .i64 0)), .cap0, (.v (.s ⟨⟨[114, 97, 116, 101]⟩⟩)), (.v (.i .i64 1)), (.v (.i .i64 2)), (.v (.i .u64 0)), (.v (.i .u64 1000000)), (.v (.sl 9 [])), (.v (.b true)), (.v (.i .i64 0)), .cap0, (.v (.s ⟨⟨[98, 117, 114, 115, 116]⟩⟩)), (.v (.i .i64 1)), (.v (.i .i64 1)), (.v (.i .u64 1500)), (.v (.i .u64 1000000)), (.v (.sl 9 [])), (.v (.b true)), (.v (.i .i64 0)), .cap0, (.v (.s ⟨⟨[108, 105, 109, 105, 116]⟩⟩)), (.v (.i .i64 1)), (.v (.i .i64 1)), (.v (.i .u64 1)), (.v (.i .u64 64)), (.v (.sl 9 [])), (.v (.b true)), (.v (.i .i64 0)), .cap0]), (.cells 31 none [(.v (.s ⟨⟨[108, 111, 119]⟩⟩)), (.v (.i .i64 1)), (.v (.i .i64 1)), (.v (.i .u64 0)), (.v (.i .u64 65535)), (.v (.sl 9 [])), (.v (.b true)), (.v (.i .i64 0)), .cap0, (.v (.s ⟨⟨[104, 105, 103, 104]⟩⟩)), (.v (.i .i64 1)), (.v (.i .i64 1)), (.v (.i .u64 0)), (.v (.i .u64 65535)), (.v (.sl 9 [])), (.v (.b true)), (.v (.i .i64 0)), .cap0, (.v (.s ⟨⟨[99, 108, 97, 115, 115]⟩⟩)), (.v (.i .i64 1)), (.v (.i .i64 6)), (.v (.i .u64 0)), (.v (.i .u64 0)), (.v (.sl 9 [])), (.v (.b true)), (.v (.i .i64 0)), .cap0])]
theorem cR42_ok : CutOk Tryz.prog C (G m) Tryz.f42.ntmps 0 (pieceOf (.reg 3) (getBody Tryz.f42)) (regAll C Tryz.prog (G m) (gR3 m) Tryz.f42.ntmps (opsR (pieceOf (.reg 3) (getBody Tryz.f42))) (gcN 0 [0, 3]) [0, 3]) := regAll_ok C_ok mixed (gR3_ok m) gcN_ok (id := 3) (ops := opsR (pieceOf (.reg 3) (getBody Tryz.f42)))
theorem first_cuts : CutsOk Tryz.prog C (G m) Tryz.f42.ntmps 0 (cR42 m) (getBody Tryz.f42) := cuts_by (l := [((pieceOf (.reg 3) (getBody Tryz.f42)), (regAll C Tryz.prog (G m) (gR3 m) Tryz.f42.ntmps (opsR (pieceOf (.reg 3) (getBody Tryz.f42))) (gcN 0 [0, 3]) [0, 3]))]) (by kernel_rfl) (all_cons (cR42_ok m) all_nil)
theorem first_ev : funA C Tryz.prog (G m) (gR3 m) (cR42 m) (gcN 0 [0]) (gcN 0 [0]) Tryz.f42 [] [] (isOut first_a first_h) = some () := by kernel_rfl
theorem first_ok : EOk Tryz.prog C (G m) 42 (pointE [] [] first_a first_h noneE) := pointE_ok C_ok mixed (gR3_ok m) Tryz.func42 (c := (getBody Tryz.f42)) (by kernel_rfl) (by kernel_rfl) (NR := gcN 0 [0]) (NP := gcN 0 [0]) gcN_ok gcN_ok (first_cuts m) (first_ev m) noneE_ok
noncomputable def gR4 (m : Int) : Gam T := (gR3 m).addE 42 (pointE [] [] first_a first_h noneE)
theorem gR4_ok : GOk Tryz.prog C (G m) (gR4 m) := (gR3_ok m).addE (first_ok m)
noncomputable def l1in_h : List (AObj T) := [(.cells 31 none [(.v (.s ⟨⟨[]⟩⟩)), (.v (.i .i64 2)), (.v (.i .i64 0)), (.v (.i .u64 0)), (.v (.i .u64 0)), .cap0, (.v (.b false)), (.v (.i .i64 0)), (.slc 1 0 2 2)]), (.cells 31 none [(.v (.s ⟨⟨[115, 121, 115, 116, 101, 109]⟩⟩)), (.v (.i .i64 1)), (.v (.i .i64 5)), (.v (.i .u64 0)), (.v (.i .u64 0)), (.v (.sl 9 [])), (.v (.b false)), (.v (.i .i64 0)), .cap0, (.v (.s ⟨⟨[112, 111, 114, 116]⟩⟩)), (.v (.i .i64 3)), (.v (.i .i64 0)), (.v (.i .u64 0)), (.v (.i .u64 0)), .cap0, (.v (.b false)), (.v (.i .i64 4)), (.slc 2 0 4 4)]), (.cells 31 none [(.v (.s ⟨⟨[117, 112]⟩⟩)), (.v (.i .i64 1)), (.v (.i .i64 3)), (.v (.i .u64 0)), (.v (.i .u64 0)), (.v (.sl 9 [])), (.v (.b false)), (.v (.i .i64 0)), .cap0, (.v (.s ⟨⟨[99, 108, 97, 115, 115]⟩⟩)), (.v (.i .i64 3)), (.v (.i .i64 0)), (.v (.i .u64 0)), (.v (.i .u64 0)), .cap0, (.v (.b false)), (.v (.i .i64 8)), (.slc 3 0 4 4), (.v (.s ⟨⟨[114, 117, 108, 101]⟩⟩)), (.v (.i .i64 3)), (.v (.i .i64 0)), (.v (.i .u64 0)), (.v (.i .u64 0)), .cap0, (.v (.b false)), (.v (.i .i64 16)), (.slc 4 0 3 3), (.v (.s ⟨⟨[100, 101, 102, 97, 117, 108, 116]⟩⟩)), (.v (.i .i64 1)), (.v (.i .i64 6)), (.v (.i .u64 0)), (.v (.i .u64 0)), (.v (.sl 9 [])), (.v (.b true)), (.v (.i .i64 0)), .cap0]), (.cells 31 none [(.v (.s ⟨⟨[113, 117, 97, 110, 116, 117, 109]⟩⟩)), (.v (.i .i64 1)), (.v (.i .i64 1)), (.v (.i .u64 1500)), (.v (.i .u64 100000)), (.v (.sl 9 [])), (.v (.b true)), (.v (.i .i64 0)), .cap0, (.v (.s ⟨⟨[114, 97, 116, 101]⟩⟩)), (.v (.i .i64 1)), (.v (.i .i64 2)), (.v (.i .u64 0)), (.v (.i .u64 1000000)), (.v (.sl 9 [])), (.v (.b true)), (.v (.i .i64 0)), .cap0, (.v (.s ⟨⟨[98, 117, 114, 115, 116]⟩⟩)), (.v (.i .i64 1)), (.v (.i .i64 1)), (.v (.i .u64 1500)), (.v (.i .u64 1000000)), (.v (.sl 9 [])), (.v (.b true)), (.v (.i .i64 0)), .cap0, (.v (.s ⟨⟨[108, 105, 109, 105, 116]⟩⟩)), (.v (.i .i64 1)), (.v (.i .i64 1)), (.v (.i .u64 1)), (.v (.i .u64 64)), (.v (.sl 9 [])), (.v (.b true)), (.v (.i .i64 0)), .cap0]), (.cells 31 none [(.v (.s ⟨⟨[108, 111, 119]⟩⟩)), (.v (.i .i64 1)), (.v (.i .i64 1)), (.v (.i .u64 0)), (.v (.i .u64 65535)), (.v (.sl 9 [])), (.v (.b true)), (.v (.i .i64 0)), .cap0, (.v (.s ⟨⟨[104, 105, 103, 104]⟩⟩)), (.v (.i .i64 1)), (.v (.i .i64 1)), (.v (.i .u64 0)), (.v (.i .u64 65535)), (.v (.sl 9 [])), (.v (.b true)), (.v (.i .i64 0)), .cap0, (.v (.s ⟨⟨[99, 108, 97, 115, 115]⟩⟩)), (.v (.i .i64 1)), (.v (.i .i64 6)), (.v (.i .u64 0)), (.v (.i .u64 0)), (.v (.sl 9 [])), (.v (.b true)), (.v (.i .i64 0)), .cap0])]
noncomputable def l1_a : AV T := (.tup [])
noncomputable def l1_h : List (AObj T) := [(.cells 31 none [(.v (.s ⟨⟨[]⟩⟩)), (.v (.i .i64 2)), (.v (.i .i64 0)), (.v (.i .u64 0)), (.v (.i .u64 0)), .cap0, (.v (.b false)), (.v (.i .i64 0)), (.slc 1 0 2 2)]), (.cells 31 none [(.v (.s ⟨⟨[115, 121, 115, 116, 101, 109]⟩⟩)), (.v (.i .i64 1)), (.v (.i .i64 5)), (.v (.i .u64 0)), (.v (.i .u64 0)), (.v (.sl 9 [])), (.v (.b false)), (.v (.i .i64 0)), .cap0, (.v (.s ⟨⟨[112, 111, 114, 116]⟩⟩)), (.v (.i .i64 3)), (.v (.i .i64 0)), (.v (.i .u64 0)), (.v (.i .u64 0)), .cap0, (.v (.b false)), (.v (.i .i64 4)), (.slc 5 0 5 0)]), (.cells 31 none [(.v (.s ⟨⟨[117, 112]⟩⟩)), (.v (.i .i64 1)), (.v (.i .i64 3)), (.v (.i .u64 0)), (.v (.i .u64 0)), (.v (.sl 9 [])), (.v (.b false)), (.v (.i .i64 0)), .cap0, (.v (.s ⟨⟨[99, 108, 97, 115, 115]⟩⟩)), (.v (.i .i64 3)), (.v (.i .i64 0)), (.v (.i .u64 0)), (.v (.i .u64 0)), .cap0, (.v (.b false)), (.v (.i .i64 8)), (.slc 6 0 5 0), (.v (.s ⟨⟨[114, 117, 108, 101]⟩⟩)), (.v (.i .i64 3)), (.v (.i .i64 0)), (.v (.i .u64 0)), (.v (.i .u64 0)), .cap0, (.v (.b false)), (.v (.i .i64 16)), (.slc 4 0 3 3), (.v (.s ⟨⟨[100, 101, 102, 97, 117, 108, 116]⟩⟩)), (.v (.i .i64 1)), (.v (.i .i64 6)), (.v (.i .u64 0)), (.v (.i .u64 0)), (.v (.sl 9 [])), (.v (.b true)), (.v (.i .i64 0)), .cap0]), (.cells 31 none [(.v (.s ⟨⟨[113, 117, 97, 110, 116, 117, 109]⟩⟩)), (.v (.i .i64 1)), (.v (.i .i64 1)), (.v (.i .u64 1500)), (.v (.i .u64 100000)), (.v (.sl 9 [])), (.v (.b true)), (.v (.i .i64 0)), .cap0, (.v (.s ⟨⟨[114, 97, 116, 101]⟩⟩)), (.v (.i .i64 1)), (.v (.i .i64 2)), (.v (.i .u64 0)), (.v (.i .u64 1000000)), (.v (.sl 9 [])), (.v (.b true)), (.v (.i .i64 0)), .cap0, (.v (.s ⟨⟨[98, 117, 114, 115, 116]⟩⟩)), (.v (.i .i64 1)), (.v (.i .i64 1)), (.v (.i .u64 1500)), (.v (.i .u64 1000000)), (.v (.sl 9 [])), (.v (.b true)), (.v (.i .i64 0)), .cap0, (.v (.s ⟨⟨[108, 105, 109, 105, 116]⟩⟩)), (.v (.i .i64 1)), (.v (.i .i64 1)), (.v (.i .u64 1)), (.v (.i .u64 64)), (.v (.sl 9 [])), (.v (.b true)), (.v (.i .i64 0)), .cap0]), (.cells 31 none [(.v (.s ⟨⟨[108, 111, 119]⟩⟩)), (.v (.i .i64 1)), (.v (.i .i64 1)), (.v (.i .u64 0)), (.v (.i .u64 65535)), (.v (.sl 9 [])), (.v (.b true)), (.v (.i .i64 0)), .cap0, (.v (.s ⟨⟨[104, 105, 103, 104]⟩⟩)), (.v (.i .i64 1)), (.v (.i .i64 1)), (.v (.i .u64 0)), (.v (.i .u64 65535)), (.v (.sl 9 [])), (.v (.b true)), (.v (.i .i64 0)), .cap0, (.v (.s ⟨⟨[99, 108, 97, 115, 115]⟩⟩)), (.v (.i .i64 1)), (.v (.i .i64 6)), (.v (.i .u64 0)), (.v (.i .u64 0)), (.v (.sl 9 [])), (.v (.b true)), (.v (.i .i64 0)), .cap0]), (.cells 31 (some 0) [(.v (.s ⟨⟨[117, 112]⟩⟩)), (.v (.i .i64 1)), (.v (.i .i64 3)), (.v (.i .u64 0)), (.v (.i .u64 0)), (.v (.sl 9 [])), (.v (.b false)), (.v (.i .i64 0)), .cap0, (.v (.s ⟨⟨[99, 108, 97, 115, 115]⟩⟩)), (.v (.i .i64 3)), (.v (.i .i64 0)), (.v (.i .u64 0)), (.v (.i .u64 0)), .cap0, (.v (.b false)), (.v (.i .i64 8)), (.slc 6 0 5 0), (.v (.s ⟨⟨[114, 117, 108, 101]⟩⟩)), (.v (.i .i64 3)), (.v (.i .i64 0)), (.v (.i .u64 0)), (.v (.i .u64 0)), .cap0, (.v (.b false)), (.v (.i .i64 16)), (.slc 4 0 3 3), (.v (.s ⟨⟨[100, 101, 102, 97, 117, 108, 116]⟩⟩)), (.v (.i .i64 1)), (.v (.i .i64 6)), (.v (.i .u64 0)), (.v (.i .u64 0)), (.v (.sl 9 [])), (.v (.b true)), (.v (.i .i64 0)), .cap0, (.v (.s ⟨⟨[107, 105, 110, 100]⟩⟩)), (.v (.i .i64 1)), (.v (.i .i64 4)), (.v (.i .u64 0)), (.v (.i .u64 0)), (.v (.sl 9 [⟨⟨[101, 100, 103, 101]⟩⟩, ⟨⟨[99, 111, 114, 101]⟩⟩, ⟨⟨[108, 97, 98]⟩⟩])), (.v (.b false)), (.v (.i .i64 0)), .cap0]), (.cells 31 (some 0) [(.v (.s ⟨⟨[113, 117, 97, 110, 116, 117, 109]⟩⟩)), (.v (.i .i64 1)), (.v (.i .i64 1)), (.v (.i .u64 1500)), (.v (.i .u64 100000)), (.v (.sl 9 [])), (.v (.b true)), (.v (.i .i64 0)), .cap0, (.v (.s ⟨⟨[114, 97, 116, 101]⟩⟩)), (.v (.i .i64 1)), (.v (.i .i64 2)), (.v (.i .u64 0)), (.v (.i .u64 1000000)), (.v (.sl 9 [])), (.v (.b true)), (.v (.i .i64 0)), .cap0, (.v (.s ⟨⟨[98, 117, 114, 115, 116]⟩⟩)), (.v (.i .i64 1)), (.v (.i .i64 1)), (.v (.i .u64 1500)), (.v (.i .u64 1000000)), (.v (.sl 9 [])), (.v (.b true)), (.v (.i .i64 0)), .cap0, (.v (.s ⟨⟨[108, 105, 109, 105, 116]⟩⟩)), (.v (.i .i64 1)), (.v (.i .i64 1)), (.v (.i .u64 1)), (.v (.i .u64 64)), (.v (.sl 9 [])), (.v (.b true)), (.v (.i .i64 0)), .cap0, (.v (.s ⟨⟨[115, 104, 97, 112, 101, 100]⟩⟩)), (.v (.i .i64 1)), (.v (.i .i64 3)), (.v (.i .u64 0)), (.v (.i .u64 0)), (.v (.sl 9 [])), (.v (.b true)), (.v (.i .i64 0)), .cap0])]
theorem l1_cuts : CutsOk Tryz.prog C (G m) Tryz.f55.ntmps 5 noCut (getBody Tryz.f55) := cuts_by (l := []) (by kernel_rfl) all_nil
theorem l1_ev : funA C Tryz.prog (G m) (gR4 m) noCut (gcN 5 [0]) (gcN 5 [0]) Tryz.f55 [.ptr 0 0] l1in_h (isOut l1_a l1_h) = some () := by kernel_rfl
theorem l1_ok : EOk Tryz.prog C (G m) 55 (pointE [.ptr 0 0] l1in_h l1_a l1_h noneE) := pointE_ok C_ok mixed (gR4_ok m) Tryz.func55 (c := (getBody Tryz.f55)) (by kernel_rfl) (by kernel_rfl) (NR := gcN 5 [0]) (NP := gcN 5 [0]) gcN_ok gcN_ok (l1_cuts m) (l1_ev m) noneE_ok
noncomputable def gR5 (m : Int) : Gam T := (gR4 m).addE 55 (pointE [.ptr 0 0] l1in_h l1_a l1_h noneE)
theorem gR5_ok : GOk Tryz.prog C (G m) (gR5 m) := (gR4_ok m).addE (l1_ok m)
noncomputable def l2in_h : List (AObj T) := [(.cells 31 none [(.v (.s ⟨⟨[]⟩⟩)), (.v (.i .i64 2)), (.v (.i .i64 0)), (.v (.i .u64 0)), (.v (.i .u64 0)), .cap0, (.v (.b false)), (.v (.i .i64 0)), (.slc 1 0 2 2)]), (.cells 31 none [(.v (.s ⟨⟨[115, 121, 115, 116, 101, 109]⟩⟩)), (.v (.i .i64 1)), (.v (.i .i64 5)), (.v (.i .u64 0)), (.v (.i .u64 0)), (.v (.sl 9 [])), (.v (.b false)), (.v (.i .i64 0)), .cap0, (.v (.s ⟨⟨[112, 111, 114, 116]⟩⟩)), (.v (.i .i64 3)), (.v (.i .i64 0)), (.v (.i .u64 0)), (.v (.i .u64 0)), .cap0, (.v (.b false)), (.v (.i .i64 4)), (.slc 2 0 5 0)]), (.cells 31 (some 0) [(.v (.s ⟨⟨[117, 112]⟩⟩)), (.v (.i .i64 1)), (.v (.i .i64 3)), (.v (.i .u64 0)), (.v (.i .u64 0)), (.v (.sl 9 [])), (.v (.b false)), (.v (.i .i64 0)), .cap0, (.v (.s ⟨⟨[99, 108, 97, 115, 115]⟩⟩)), (.v (.i .i64 3)), (.v (.i .i64 0)), (.v (.i .u64 0)), (.v (.i .u64 0)), .cap0, (.v (.b false)), (.v (.i .i64 8)), (.slc 3 0 5 0), (.v (.s ⟨⟨[114, 117, 108, 101]⟩⟩)), (.v (.i .i64 3)), (.v (.i .i64 0)), (.v (.i .u64 0)), (.v (.i .u64 0)), .cap0, (.v (.b false)), (.v (.i .i64 16)), (.slc 4 0 3 3), (.v (.s ⟨⟨[100, 101, 102, 97, 117, 108, 116]⟩⟩)), (.v (.i .i64 1)), (.v (.i .i64 6)), (.v (.i .u64 0)), (.v (.i .u64 0)), (.v (.sl 9 [])), (.v (.b true)), (.v (.i .i64 0)), .cap0, (.v (.s ⟨⟨[107, 105, 110, 100]⟩⟩)), (.v (.i .i64 1)), (.v (.i .i64 4)), (.v (.i .u64 0)), (.v (.i .u64 0)), (.v (.sl 9 [⟨⟨[101, 100, 103, 101]⟩⟩, ⟨⟨[99, 111, 114, 101]⟩⟩, ⟨⟨[108, 97, 98]⟩⟩])), (.v (.b false)), (.v (.i .i64 0)), .cap0]), (.cells 31 (some 0) [(.v (.s ⟨⟨[113, 117, 97, 110, 116, 117, 109]⟩⟩)), (.v (.i .i64 1)), (.v (.i .i64 1)), (.v (.i .u64 1500)), (.v (.i .u64 100000)), (.v (.sl 9 [])), (.v (.b true)), (.v (.i .i64 0)), .cap0, (.v (.s ⟨⟨[114, 97, 116, 101]⟩⟩)), (.v (.i .i64 1)), (.v (.i .i64 2)), (.v (.i .u64 0)), (.v (.i .u64 1000000)), (.v (.sl 9 [])), (.v (.b true)), (.v (.i .i64 0)), .cap0, (.v (.s ⟨⟨[98, 117, 114, 115, 116]⟩⟩)), (.v (.i .i64 1)), (.v (.i .i64 1)), (.v (.i .u64 1500)), (.v (.i .u64 1000000)), (.v (.sl 9 [])), (.v (.b true)), (.v (.i .i64 0)), .cap0, (.v (.s ⟨⟨[108, 105, 109, 105, 116]⟩⟩)), (.v (.i .i64 1)), (.v (.i .i64 1)), (.v (.i .u64 1)), (.v (.i .u64 64)), (.v (.sl 9 [])), (.v (.b true)), (.v (.i .i64 0)), .cap0, (.v (.s ⟨⟨[115, 104, 97, 112, 101, 100]⟩⟩)), (.v (.i .i64 1)), (.v (.i .i64 3)), (.v (.i .u64 0)), (.v (.i .u64 0)), (.v (.sl 9 [])), (.v (.b true)), (.v (.i .i64 0)), .cap0]), (.cells 31 none [(.v (.s ⟨⟨[108, 111, 119]⟩⟩)), (.v (.i .i64 1)), (.v (.i .i64 1)), (.v (.i .u64 0)), (.v (.i .u64 65535)), (.v (.sl 9 [])), (.v (.b true)), (.v (.i .i64 0)), .cap0, (.v (.s ⟨⟨[104, 105, 103, 104]⟩⟩)), (.v (.i .i64 1)), (.v (.i .i64 1)), (.v (.i .u64 0)), (.v (.i .u64 65535)), (.v (.sl 9 [])), (.v (.b true)), (.v (.i .i64 0)), .cap0, (.v (.s ⟨⟨[99, 108, 97, 115, 115]⟩⟩)), (.v (.i .i64 1)), (.v (.i .i64 6)), (.v (.i .u64 0)), (.v (.i .u64 0)), (.v (.sl 9 [])), (.v (.b true)), (.v (.i .i64 0)), .cap0])]
noncomputable def l2_a : AV T := (.tup [])
noncomputable def l2_h : List (AObj T) := [(.cells 31 none [(.v (.s ⟨⟨[]⟩⟩)), (.v (.i .i64 2)), (.v (.i .i64 0)), (.v (.i .u64 0)), (.v (.i .u64 0)), .cap0, (.v (.b false)), (.v (.i .i64 0)), (.slc 5 0 3 0)]), (.cells 31 none [(.v (.s ⟨⟨[115, 121, 115, 116, 101, 109]⟩⟩)), (.v (.i .i64 1)), (.v (.i .i64 5)), (.v (.i .u64 0)), (.v (.i .u64 0)), (.v (.sl 9 [])), (.v (.b false)), (.v (.i .i64 0)), .cap0, (.v (.s ⟨⟨[112, 111, 114, 116]⟩⟩)), (.v (.i .i64 3)), (.v (.i .i64 0)), (.v (.i .u64 0)), (.v (.i .u64 0)), .cap0, (.v (.b false)), (.v (.i .i64 4)), (.slc 2 0 5 0)]), (.cells 31 (some 0) [(.v (.s ⟨⟨[117, 112]⟩⟩)), (.v (.i .i64 1)), (.v (.i .i64 3)), (.v (.i .u64 0)), (.v (.i .u64 0)), (.v (.sl 9 [])), (.v (.b false)), (.v (.i .i64 0)), .cap0, (.v (.s ⟨⟨[99, 108, 97, 115, 115]⟩⟩)), (.v (.i .i64 3)), (.v (.i .i64 0)), (.v (.i .u64 0)), (.v (.i .u64 0)), .cap0, (.v (.b false)), (.v (.i .i64 8)), (.slc 3 0 5 0), (.v (.s ⟨⟨[114, 117, 108, 101]⟩⟩)), (.v (.i .i64 3)), (.v (.i .i64 0)), (.v (.i .u64 0)), (.v (.i .u64 0)), .cap0, (.v (.b false)), (.v (.i .i64 16)), (.slc 4 0 3 3), (.v (.s ⟨⟨[100, 101, 102, 97, 117, 108, 116]⟩⟩)), (.v (.i .i64 1)), (.v (.i .i64 6)), (.v (.i .u64 0)), (.v (.i .u64 0)), (.v (.sl 9 [])), (.v (.b true)), (.v (.i .i64 0)), .cap0, (.v (.s ⟨⟨[107, 105, 110, 100]⟩⟩)), (.v (.i .i64 1)), (.v (.i .i64 4)), (.v (.i .u64 0)), (.v (.i .u64 0)), (.v (.sl 9 [⟨⟨[101, 100, 103, 101]⟩⟩, ⟨⟨[99, 111, 114, 101]⟩⟩, ⟨⟨[108, 97, 98]⟩⟩])), (.v (.b false)), (.v (.i .i64 0)), .cap0]), (.cells 31 (some 0) [(.v (.s ⟨⟨[113, 117, 97, 110, 116, 117, 109]⟩⟩)), (.v (.i .i64 1)), (.v (.i .i64 1)), (.v (.i .u64 1500)), (.v (.i .u64 100000)), (.v (.sl 9 [])), (.v (.b true)), (.v (.i .i64 0)), .cap0, (.v (.s ⟨⟨[114, 97, 116, 101]⟩⟩)), (.v (.i .i64 1)), (.v (.i .i64 2)), (.v (.i .u64 0)), (.v (.i .u64 1000000)), (.v (.sl 9 [])), (.v (.b true)), (.v (.i .i64 0)), .cap0, (.v (.s ⟨⟨[98, 117, 114, 115, 116]⟩⟩)), (.v (.i .i64 1)), (.v (.i .i64 1)), (.v (.i .u64 1500)), (.v (.i .u64 1000000)), (.v (.sl 9 [])), (.v (.b true)), (.v (.i .i64 0)), .cap0, (.v (.s ⟨⟨[100, 101, 112, 116, 104]⟩⟩)), (.v (.i .i64 1)), (.v (.i .i64 1)), (.v (.i .u64 1)), (.v (.i .u64 64)), (.v (.sl 9 [])), (.v (.b true)), (.v (.i .i64 0)), .cap0, (.v (.s ⟨⟨[115, 104, 97, 112, 101, 100]⟩⟩)), (.v (.i .i64 1)), (.v (.i .i64 3)), (.v (.i .u64 0)), (.v (.i .u64 0)), (.v (.sl 9 [])), (.v (.b true)), (.v (.i .i64 0)), .cap0]), (.cells 31 none [(.v (.s ⟨⟨[108, 111, 119]⟩⟩)), (.v (.i .i64 1)), (.v (.i .i64 1)), (.v (.i .u64 0)), (.v (.i .u64 65535)), (.v (.sl 9 [])), (.v (.b true)), (.v (.i .i64 0)), .cap0, (.v (.s ⟨⟨[104, 105, 103, 104]⟩⟩)), (.v (.i .i64 1)), (.v (.i .i64 1)), (.v (.i .u64 0)), (.v (.i .u64 65535)), (.v (.sl 9 [])), (.v (.b true)), (.v (.i .i64 0)), .cap0, (.v (.s ⟨⟨[99, 108, 97, 115, 115]⟩⟩)), (.v (.i .i64 1)), (.v (.i .i64 6)), (.v (.i .u64 0)), (.v (.i .u64 0)), (.v (.sl 9 [])), (.v (.b true)), (.v (.i .i64 0)), .cap0]), (.cells 31 (some 0) [(.v (.s ⟨⟨[115, 121, 115, 116, 101, 109]⟩⟩)), (.v (.i .i64 1)), (.v (.i .i64 5)), (.v (.i .u64 0)), (.v (.i .u64 0)), (.v (.sl 9 [])), (.v (.b false)), (.v (.i .i64 0)), .cap0, (.v (.s ⟨⟨[112, 111, 114, 116]⟩⟩)), (.v (.i .i64 3)), (.v (.i .i64 0)), (.v (.i .u64 0)), (.v (.i .u64 0)), .cap0, (.v (.b false)), (.v (.i .i64 4)), (.slc 2 0 5 0), (.v (.s ⟨⟨[119, 97, 105, 116]⟩⟩)), (.v (.i .i64 1)), (.v (.i .i64 1)), (.v (.i .u64 1)), (.v (.i .u64 1000)), (.v (.sl 9 [])), (.v (.b false)), (.v (.i .i64 0)), .cap0])]
theorem l2_cuts : CutsOk Tryz.prog C (G m) Tryz.f59.ntmps 5 noCut (getBody Tryz.f59) := cuts_by (l := []) (by kernel_rfl) all_nil
theorem l2_ev : funA C Tryz.prog (G m) (gR4 m) noCut (gcN 5 [0]) (gcN 5 [0]) Tryz.f59 [.ptr 0 0] l2in_h (isOut l2_a l2_h) = some () := by kernel_rfl
theorem l2_ok : EOk Tryz.prog C (G m) 59 (pointE [.ptr 0 0] l2in_h l2_a l2_h noneE) := pointE_ok C_ok mixed (gR4_ok m) Tryz.func59 (c := (getBody Tryz.f59)) (by kernel_rfl) (by kernel_rfl) (NR := gcN 5 [0]) (NP := gcN 5 [0]) gcN_ok gcN_ok (l2_cuts m) (l2_ev m) noneE_ok
noncomputable def gR6 (m : Int) : Gam T := (gR5 m).addE 59 (pointE [.ptr 0 0] l2in_h l2_a l2_h noneE)
theorem gR6_ok : GOk Tryz.prog C (G m) (gR6 m) := (gR5_ok m).addE (l2_ok m)
def specRoot1 : SpecSpec := ⟨⟨⟨[]⟩⟩, 2, 0, 0, 0, [], false, 0, [⟨⟨⟨[115, 121, 115, 116, 101, 109]⟩⟩, 1, 5, 0, 0, [], false, 0, []⟩, ⟨⟨⟨[112, 111, 114, 116]⟩⟩, 3, 0, 0, 0, [], false, 4, [⟨⟨⟨[117, 112]⟩⟩, 1, 3, 0, 0, [], false, 0, []⟩, ⟨⟨⟨[99, 108, 97, 115, 115]⟩⟩, 3, 0, 0, 0, [], false, 8, [⟨⟨⟨[113, 117, 97, 110, 116, 117, 109]⟩⟩, 1, 1, 1500, 100000, [], true, 0, []⟩, ⟨⟨⟨[114, 97, 116, 101]⟩⟩, 1, 2, 0, 1000000, [], true, 0, []⟩, ⟨⟨⟨[98, 117, 114, 115, 116]⟩⟩, 1, 1, 1500, 1000000, [], true, 0, []⟩, ⟨⟨⟨[108, 105, 109, 105, 116]⟩⟩, 1, 1, 1, 64, [], true, 0, []⟩]⟩, ⟨⟨⟨[114, 117, 108, 101]⟩⟩, 3, 0, 0, 0, [], false, 16, [⟨⟨⟨[108, 111, 119]⟩⟩, 1, 1, 0, 65535, [], true, 0, []⟩, ⟨⟨⟨[104, 105, 103, 104]⟩⟩, 1, 1, 0, 65535, [], true, 0, []⟩, ⟨⟨⟨[99, 108, 97, 115, 115]⟩⟩, 1, 6, 0, 0, [], true, 0, []⟩]⟩, ⟨⟨⟨[100, 101, 102, 97, 117, 108, 116]⟩⟩, 1, 6, 0, 0, [], true, 0, []⟩]⟩]⟩
def specRoot2 : SpecSpec := ⟨⟨⟨[]⟩⟩, 2, 0, 0, 0, [], false, 0, [⟨⟨⟨[115, 121, 115, 116, 101, 109]⟩⟩, 1, 5, 0, 0, [], false, 0, []⟩, ⟨⟨⟨[112, 111, 114, 116]⟩⟩, 3, 0, 0, 0, [], false, 4, [⟨⟨⟨[117, 112]⟩⟩, 1, 3, 0, 0, [], false, 0, []⟩, ⟨⟨⟨[99, 108, 97, 115, 115]⟩⟩, 3, 0, 0, 0, [], false, 8, [⟨⟨⟨[113, 117, 97, 110, 116, 117, 109]⟩⟩, 1, 1, 1500, 100000, [], true, 0, []⟩, ⟨⟨⟨[114, 97, 116, 101]⟩⟩, 1, 2, 0, 1000000, [], true, 0, []⟩, ⟨⟨⟨[98, 117, 114, 115, 116]⟩⟩, 1, 1, 1500, 1000000, [], true, 0, []⟩, ⟨⟨⟨[108, 105, 109, 105, 116]⟩⟩, 1, 1, 1, 64, [], true, 0, []⟩, ⟨⟨⟨[115, 104, 97, 112, 101, 100]⟩⟩, 1, 3, 0, 0, [], true, 0, []⟩]⟩, ⟨⟨⟨[114, 117, 108, 101]⟩⟩, 3, 0, 0, 0, [], false, 16, [⟨⟨⟨[108, 111, 119]⟩⟩, 1, 1, 0, 65535, [], true, 0, []⟩, ⟨⟨⟨[104, 105, 103, 104]⟩⟩, 1, 1, 0, 65535, [], true, 0, []⟩, ⟨⟨⟨[99, 108, 97, 115, 115]⟩⟩, 1, 6, 0, 0, [], true, 0, []⟩]⟩, ⟨⟨⟨[100, 101, 102, 97, 117, 108, 116]⟩⟩, 1, 6, 0, 0, [], true, 0, []⟩, ⟨⟨⟨[107, 105, 110, 100]⟩⟩, 1, 4, 0, 0, [⟨⟨[101, 100, 103, 101]⟩⟩, ⟨⟨[99, 111, 114, 101]⟩⟩, ⟨⟨[108, 97, 98]⟩⟩], false, 0, []⟩]⟩]⟩
def specRoot3 : SpecSpec := ⟨⟨⟨[]⟩⟩, 2, 0, 0, 0, [], false, 0, [⟨⟨⟨[115, 121, 115, 116, 101, 109]⟩⟩, 1, 5, 0, 0, [], false, 0, []⟩, ⟨⟨⟨[112, 111, 114, 116]⟩⟩, 3, 0, 0, 0, [], false, 4, [⟨⟨⟨[117, 112]⟩⟩, 1, 3, 0, 0, [], false, 0, []⟩, ⟨⟨⟨[99, 108, 97, 115, 115]⟩⟩, 3, 0, 0, 0, [], false, 8, [⟨⟨⟨[113, 117, 97, 110, 116, 117, 109]⟩⟩, 1, 1, 1500, 100000, [], true, 0, []⟩, ⟨⟨⟨[114, 97, 116, 101]⟩⟩, 1, 2, 0, 1000000, [], true, 0, []⟩, ⟨⟨⟨[98, 117, 114, 115, 116]⟩⟩, 1, 1, 1500, 1000000, [], true, 0, []⟩, ⟨⟨⟨[100, 101, 112, 116, 104]⟩⟩, 1, 1, 1, 64, [], true, 0, []⟩, ⟨⟨⟨[115, 104, 97, 112, 101, 100]⟩⟩, 1, 3, 0, 0, [], true, 0, []⟩]⟩, ⟨⟨⟨[114, 117, 108, 101]⟩⟩, 3, 0, 0, 0, [], false, 16, [⟨⟨⟨[108, 111, 119]⟩⟩, 1, 1, 0, 65535, [], true, 0, []⟩, ⟨⟨⟨[104, 105, 103, 104]⟩⟩, 1, 1, 0, 65535, [], true, 0, []⟩, ⟨⟨⟨[99, 108, 97, 115, 115]⟩⟩, 1, 6, 0, 0, [], true, 0, []⟩]⟩, ⟨⟨⟨[100, 101, 102, 97, 117, 108, 116]⟩⟩, 1, 6, 0, 0, [], true, 0, []⟩, ⟨⟨⟨[107, 105, 110, 100]⟩⟩, 1, 4, 0, 0, [⟨⟨[101, 100, 103, 101]⟩⟩, ⟨⟨[99, 111, 114, 101]⟩⟩, ⟨⟨[108, 97, 98]⟩⟩], false, 0, []⟩]⟩, ⟨⟨⟨[119, 97, 105, 116]⟩⟩, 1, 1, 1, 1000, [], false, 0, []⟩]⟩
def specZero : SpecSpec := ⟨⟨⟨[]⟩⟩, 0, 0, 0, 0, [], false, 0, []⟩
def sp_spec_Root : Spec T Int (SpecSpec × Int) where
  dcI a H := match a, H with
    | [.v (.i .i64 v)], [] => some v
    | _, _ => none
  ecA := fun v => [.v (.i .i64 v)]
  ecH := fun _ => []
  dcO o := match o with
    | .ret (.tup [.agg [.v (.s a0), .v (.i .i64 a1), .v (.i .i64 a2), .v (.i .u64 a3), .v (.i .u64 a4), .v (.sl 9 a5), .v (.b a6), .v (.i .i64 a7), .v (.sl 31 a8)], .v (.i .i64 e)]) [] => some (⟨a0, a1, a2, a3, a4, a5, a6, a7, a8⟩, e)
    | _ => none
  ecO := fun x => .ret (.tup [.agg [.v (.s x.1.name), .v (.i .i64 x.1.kind), .v (.i .i64 x.1.type_), .v (.i .u64 x.1.min), .v (.i .u64 x.1.max), .v (.sl 9 x.1.names), .v (.b x.1.must), .v (.i .i64 x.1.most), .v (.sl 31 x.1.kids)], .v (.i .i64 x.2)]) []
  goO := fun _ x k => k (.ret (.tup [.agg [.v (.s x.1.name), .v (.i .i64 x.1.kind), .v (.i .i64 x.1.type_), .v (.i .u64 x.1.min), .v (.i .u64 x.1.max), .v (.sl 9 x.1.names), .v (.b x.1.must), .v (.i .i64 x.1.most), .v (.sl 31 x.1.kids)], .v (.i .i64 x.2)]) [])
theorem sp_spec_Root_ok : SpecOk sp_spec_Root := by
  refine ⟨fun a H i h => ?_, fun o x h => ?_, fun R e k => by kernel_rfl⟩
  · simp only [sp_spec_Root] at h ⊢; split at h <;> first | (cases h; exact ⟨rfl, rfl⟩) | (cases h; done)
  · simp only [sp_spec_Root] at h ⊢; split at h <;> first | (cases h; rfl) | (cases h; done)
theorem rdAll_ok {nB : Nat} : ∀ (l : List (Nat × Nat)), NormOk C (G m) nB (rdAll l)
  | [] => andN_ok (rdS_ok C_ok) (andN_ok (slS_ok C_ok) (slS_ok C_ok))
  | p :: l => andN_ok (rdC_ok C_ok) (rdAll_ok l)
def oneRoot (v : Int) (s : SpecSpec) (i : Int) : Option (SpecSpec × Int) := if i = v then some (s, 0) else none
theorem cRR1_ok : CutOk Tryz.prog C (G m) Tryz.f33.ntmps 0 (pieceOf (.blk 0) (getBody Tryz.f33)) (luR m (gR4 m) Tryz.f33 0 3) := loopU_ok C_ok (gR4_ok m) mixed (cuts_by (l := []) (by kernel_rfl) all_nil) 3
theorem root1_ev : funA C Tryz.prog (G m) (gR4 m) (cRR m (gR4 m)) (andN (rdAll [(2, 17), (2, 26), (1, 17)]) (gcN 0 [0])) (gcN 0 [0]) Tryz.f33 [.v (.i .i64 1)] [] sp_spec_Root.dcO = some (specRoot1, 0) := by kernel_rfl
theorem root1_cuts : CutsOk Tryz.prog C (G m) Tryz.f33.ntmps 0 (cRR m (gR4 m)) (getBody Tryz.f33) := cuts_by (l := [(pieceOf (.blk 0) (getBody Tryz.f33), luR m (gR4 m) Tryz.f33 0 3)]) (by kernel_rfl) (all_cons (cRR1_ok m) all_nil)
theorem root1_ok : EOk Tryz.prog C (G m) 33 (sp_spec_Root.entry (oneRoot 1 specRoot1)) :=
  Spec.okW sp_spec_Root_ok C_ok mixed (gR4_ok m) (cut := cRR m (gR4 m)) (NR := (andN (rdAll [(2, 17), (2, 26), (1, 17)]) (gcN 0 [0]))) (NP := (gcN 0 [0])) (nB := 0) Tryz.func33 (c := (getBody Tryz.f33)) (by kernel_rfl) (by kernel_rfl) (fun i => by kernel_rfl) (andN_ok (rdAll_ok m _) gcN_ok) gcN_ok (root1_cuts m) fun i x h => by
    unfold oneRoot at h
    split at h
    · rename_i e; subst e; rw [← h]; exact root1_ev m
    · cases h
theorem cRR2_ok : CutOk Tryz.prog C (G m) Tryz.f33.ntmps 0 (pieceOf (.blk 0) (getBody Tryz.f33)) (luR m (gR5 m) Tryz.f33 0 3) := loopU_ok C_ok (gR5_ok m) mixed (cuts_by (l := []) (by kernel_rfl) all_nil) 3
theorem root2_ev : funA C Tryz.prog (G m) (gR5 m) (cRR m (gR5 m)) (andN (rdAll [(7, 17), (7, 26), (1, 17)]) (gcN 0 [0])) (gcN 0 [0]) Tryz.f33 [.v (.i .i64 2)] [] sp_spec_Root.dcO = some (specRoot2, 0) := by kernel_rfl
theorem root2_cuts : CutsOk Tryz.prog C (G m) Tryz.f33.ntmps 0 (cRR m (gR5 m)) (getBody Tryz.f33) := cuts_by (l := [(pieceOf (.blk 0) (getBody Tryz.f33), luR m (gR5 m) Tryz.f33 0 3)]) (by kernel_rfl) (all_cons (cRR2_ok m) all_nil)
theorem root2_ok : EOk Tryz.prog C (G m) 33 (sp_spec_Root.entry (oneRoot 2 specRoot2)) :=
  Spec.okW sp_spec_Root_ok C_ok mixed (gR5_ok m) (cut := cRR m (gR5 m)) (NR := (andN (rdAll [(7, 17), (7, 26), (1, 17)]) (gcN 0 [0]))) (NP := (gcN 0 [0])) (nB := 0) Tryz.func33 (c := (getBody Tryz.f33)) (by kernel_rfl) (by kernel_rfl) (fun i => by kernel_rfl) (andN_ok (rdAll_ok m _) gcN_ok) gcN_ok (root2_cuts m) fun i x h => by
    unfold oneRoot at h
    split at h
    · rename_i e; subst e; rw [← h]; exact root2_ev m
    · cases h
theorem cRR3_ok : CutOk Tryz.prog C (G m) Tryz.f33.ntmps 0 (pieceOf (.blk 0) (getBody Tryz.f33)) (luR m (gR6 m) Tryz.f33 0 3) := loopU_ok C_ok (gR6_ok m) mixed (cuts_by (l := []) (by kernel_rfl) all_nil) 3
theorem root3_ev : funA C Tryz.prog (G m) (gR6 m) (cRR m (gR6 m)) (andN (rdAll [(7, 17), (7, 26), (9, 17)]) (gcN 0 [0])) (gcN 0 [0]) Tryz.f33 [.v (.i .i64 3)] [] sp_spec_Root.dcO = some (specRoot3, 0) := by kernel_rfl
theorem root3_cuts : CutsOk Tryz.prog C (G m) Tryz.f33.ntmps 0 (cRR m (gR6 m)) (getBody Tryz.f33) := cuts_by (l := [(pieceOf (.blk 0) (getBody Tryz.f33), luR m (gR6 m) Tryz.f33 0 3)]) (by kernel_rfl) (all_cons (cRR3_ok m) all_nil)
theorem root3_ok : EOk Tryz.prog C (G m) 33 (sp_spec_Root.entry (oneRoot 3 specRoot3)) :=
  Spec.okW sp_spec_Root_ok C_ok mixed (gR6_ok m) (cut := cRR m (gR6 m)) (NR := (andN (rdAll [(7, 17), (7, 26), (9, 17)]) (gcN 0 [0]))) (NP := (gcN 0 [0])) (nB := 0) Tryz.func33 (c := (getBody Tryz.f33)) (by kernel_rfl) (by kernel_rfl) (fun i => by kernel_rfl) (andN_ok (rdAll_ok m _) gcN_ok) gcN_ok (root3_cuts m) fun i x h => by
    unfold oneRoot at h
    split at h
    · rename_i e; subst e; rw [← h]; exact root3_ev m
    · cases h
def errRoot (v : Int) : Option (SpecSpec × Int) := bif decide (v < 1) then some (specZero, 28) else bif decide (v > 3) then some (specZero, 28) else none
theorem rootE_cuts : CutsOk Tryz.prog C (G m) Tryz.f33.ntmps 0 (addCut noCut (.reg 3) cutNone) (getBody Tryz.f33) := cuts_by (l := [(pieceOf (.reg 3) (getBody Tryz.f33), cutNone)]) (by kernel_rfl) (all_cons cutNone_ok all_nil)
theorem rootE_ev (i : Int) : funA C Tryz.prog (G m) (gR4 m) (addCut noCut (.reg 3) cutNone) (andN (rdAll [(2, 17), (2, 26), (1, 17)]) (gcN 0 [0])) (gcN 0 [0]) Tryz.f33 [.v (.i .i64 i)] [] sp_spec_Root.dcO = errRoot i := by kernel_rfl
theorem rootE_ok : EOk Tryz.prog C (G m) 33 (sp_spec_Root.entry errRoot) :=
  Spec.ok sp_spec_Root_ok C_ok mixed (gR4_ok m) (cut := addCut noCut (.reg 3) cutNone) (NR := (andN (rdAll [(2, 17), (2, 26), (1, 17)]) (gcN 0 [0]))) (NP := (gcN 0 [0])) (nB := 0) Tryz.func33 (c := (getBody Tryz.f33)) (by kernel_rfl) (by kernel_rfl) (fun i => by kernel_rfl) (andN_ok (rdAll_ok m _) gcN_ok) gcN_ok (rootE_cuts m) (rootE_ev m)
def spec_Root (v : Int) : Option (SpecSpec × Int) := if v = 1 then some (specRoot1, 0) else if v = 2 then some (specRoot2, 0) else if v = 3 then some (specRoot3, 0) else some (specZero, 28)
theorem ok_spec_Root : EOk Tryz.prog C (G m) 33 (sp_spec_Root.entry spec_Root) := by
  refine Spec.ok_or (root1_ok m) (f2 := fun v => if v = 1 then none else spec_Root v) ?_ fun i x h => ?_
  · refine Spec.ok_or (root2_ok m) (f2 := fun v => if v = 1 then none else if v = 2 then none else spec_Root v) ?_ fun i x h => ?_
    · refine Spec.ok_or (root3_ok m) (rootE_ok m) fun i x h => ?_
      split at h
      · cases h
      · split at h
        · cases h
        · rename_i h1 h2
          unfold spec_Root at h
          rw [if_neg h1, if_neg h2] at h
          split at h
          · rename_i h3; exact .inl (by unfold oneRoot; rw [if_pos h3]; exact h)
          · rename_i h3
            refine .inr ?_
            unfold errRoot
            by_cases h4 : i < 1
            · simp only [h4, decide_true, cond_true]; exact h
            · have : i > 3 := by omega
              simp only [h4, this, decide_true, decide_false, cond_true, cond_false]; exact h
    · split at h
      · cases h
      · rename_i h1
        by_cases h2 : i = 2
        · refine .inl ?_
          unfold oneRoot; rw [if_pos h2]
          unfold spec_Root at h; rw [if_neg h1, if_pos h2] at h; exact h
        · exact .inr (by simp only [if_neg h1, if_neg h2]; exact h)
  · by_cases h1 : i = 1
    · refine .inl ?_
      unfold oneRoot; rw [if_pos h1]
      unfold spec_Root at h; rw [if_pos h1] at h; exact h
    · exact .inr (by simp only [if_neg h1]; exact h)
end Go.Proofs.YthmohmmbhjpbcaaGreatDoor.Ev.Seat

