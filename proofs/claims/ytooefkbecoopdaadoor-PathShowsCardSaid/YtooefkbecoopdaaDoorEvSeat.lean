import Derived.Test.YtooefkbecoopdaaDoorEvFour
import Derived.Shelf.Unicode.DecodeAny
import Derived.Test.YtooefkbecoopdaaDoorProg
import Derived.Test.YtooefkbecoopdaaDoorShelf
set_option linter.unusedVariables false
set_option linter.unusedSimpArgs false
namespace Go.Proofs.YtooefkbecoopdaaDoor.Ev.Seat
open Go Ev Go.Proofs

structure SpecSpec where
  name : ByteArray
  kind : Int
  type_ : Int
  min : Int
  max : Int
  names : List ByteArray
  must : Bool
  most : Int
  kids : List SpecSpec
structure Tollbarref07S where
  name : ByteArray
  kind : Int
  type_ : Int
  min : Int
  max : Int
  names : List ByteArray
  must : Bool
  most : Int
  kids : List Tollbarref07S
structure ApiStep where
  name : ByteArray
  key : ByteArray
def T (t : Nat) : Type := bif Nat.beq t 5 then Int else bif Nat.beq t 9 then ByteArray else bif Nat.beq t 29 then SpecSpec else bif Nat.beq t 35 then Tollbarref07S else bif Nat.beq t 46 then ApiStep else Unit
def slOf (t : Nat) : V T → Option (List (T t))
  | .sl u l => if h : u = t then some (h ▸ l) else none
  | .nl => some []
  | _ => none
theorem slOf_fin {t : Nat} {x : V T} {l : List (T t)} (h : slOf t x = some l) : Finer x (.sl t l) := by
  unfold slOf at h
  split at h
  · split at h
    · rename_i u l' hu; subst hu; cases h; exact .rfl
    · cases h
  · cases h; exact .inr ⟨rfl, t, rfl⟩
  · cases h
def co5 : Co T Int where
  size := 1
  enc x := [.i .u8 x]
  dec cs := match cs with
    | [.i .u8 a0] => some a0
    | _ => none
  len _ := rfl
  fin cs x h := by
    split at h
    · cases h
      exact ⟨.rfl, trivial⟩
    · cases h
  pos := by decide
def co9 : Co T ByteArray where
  size := 1
  enc x := [.s x]
  dec cs := match cs with
    | [.s a0] => some a0
    | _ => none
  len _ := rfl
  fin cs x h := by
    split at h
    · cases h
      exact ⟨.rfl, trivial⟩
    · cases h
  pos := by decide
def co29 : Co T SpecSpec where
  size := 9
  enc x := [.s x.name, .i .i64 x.kind, .i .i64 x.type_, .i .u64 x.min, .i .u64 x.max, .sl 9 x.names, .b x.must, .i .i64 x.most, .sl 29 x.kids]
  dec cs := match cs with
    | [.s a0, .i .i64 a1, .i .i64 a2, .i .u64 a3, .i .u64 a4, a5, .b a6, .i .i64 a7, a8] => (slOf 9 a5).bind fun b5 => (slOf 29 a8).bind fun b8 => some ⟨a0, a1, a2, a3, a4, b5, a6, a7, b8⟩
    | _ => none
  len _ := rfl
  fin cs x h := by
    split at h
    · obtain ⟨b5, h5, h⟩ := Option.bind_eq_some_iff.1 h
      obtain ⟨b8, h8, h⟩ := Option.bind_eq_some_iff.1 h
      cases h
      exact ⟨.rfl, .rfl, .rfl, .rfl, .rfl, slOf_fin h5, .rfl, .rfl, slOf_fin h8, trivial⟩
    · cases h
  pos := by decide
def co35 : Co T Tollbarref07S where
  size := 9
  enc x := [.s x.name, .i .i64 x.kind, .i .i64 x.type_, .i .u64 x.min, .i .u64 x.max, .sl 9 x.names, .b x.must, .i .i64 x.most, .sl 35 x.kids]
  dec cs := match cs with
    | [.s a0, .i .i64 a1, .i .i64 a2, .i .u64 a3, .i .u64 a4, a5, .b a6, .i .i64 a7, a8] => (slOf 9 a5).bind fun b5 => (slOf 35 a8).bind fun b8 => some ⟨a0, a1, a2, a3, a4, b5, a6, a7, b8⟩
    | _ => none
  len _ := rfl
  fin cs x h := by
    split at h
    · obtain ⟨b5, h5, h⟩ := Option.bind_eq_some_iff.1 h
      obtain ⟨b8, h8, h⟩ := Option.bind_eq_some_iff.1 h
      cases h
      exact ⟨.rfl, .rfl, .rfl, .rfl, .rfl, slOf_fin h5, .rfl, .rfl, slOf_fin h8, trivial⟩
    · cases h
  pos := by decide
def co46 : Co T ApiStep where
  size := 2
  enc x := [.s x.name, .s x.key]
  dec cs := match cs with
    | [.s a0, .s a1] => some ⟨a0, a1⟩
    | _ => none
  len _ := rfl
  fin cs x h := by
    split at h
    · cases h
      exact ⟨.rfl, .rfl, trivial⟩
    · cases h
  pos := by decide
def co (t : Nat) : Co T (T t) := if h : t = 5 then h ▸ co5 else if h : t = 9 then h ▸ co9 else if h : t = 29 then h ▸ co29 else if h : t = 35 then h ▸ co35 else if h : t = 46 then h ▸ co46 else coNone T (T t)
def C : Cdc T := mkC co (fun t => Nat.beq t 5 || Nat.beq t 9 || Nat.beq t 35 || Nat.beq t 46) 5 (fun n => (n : Int)) (fun (n : Int) => n)
theorem C_ok : CdcOk C := mkC_ok (fun _ => rfl) (fun _ => rfl)
def firstTab : List (V T) := (List.range 256).map fun c => .i .u8 (Lib.firstT c)
def accTab : List (V T) := (List.range 32).map fun c => bif Nat.beq (c % 2) 0 then .i .u8 (Lib.accLo (c / 2)) else .i .u8 (Lib.accHi (c / 2))
def G (m : Int) : Nat → Option (List (V T)) := fun g => bif Nat.beq g 1 then some firstTab else bif Nat.beq g 2 then some accTab else bif Nat.beq g 0 then some [.i .i64 m] else none
theorem mixed : Tryd.prog.follows .mixedOrders = true := by kernel_rfl
end Go.Proofs.YtooefkbecoopdaaDoor.Ev.Seat


namespace Go.Proofs.YtooefkbecoopdaaDoor.Ev
open Go Go.RowKit
variable {T : Nat → Type} {C : Cdc T} {σ : Lk} {H : List (AObj T)} {w : World}
theorem rep_str {x : ByteArray} {v : Value} (h : RepA C σ H w (.v (.s x)) v) : v = .string x := by
  have h' : RepV C (Cell C σ H w) (.s x) v := h
  cases h'; rfl
theorem rep_int {k : IntKind} {n : Int} {v : Value} (h : RepA C σ H w (.v (.i k n)) v) : v = .int k n := by
  have h' : RepV C (Cell C σ H w) (.i k n) v := h
  cases h'; rfl
theorem rep_tup2 {a b : V T} {x y : Value} (h1 : RepV C (Cell C σ H w) a x) (h2 : RepV C (Cell C σ H w) b y) : RepA C σ H w (.tup [.v a, .v b]) (.tuple #[x, y]) :=
  ⟨#[x, y], rfl, x, [y], rfl, h1, y, [], rfl, h2, rfl⟩
theorem repL_ss {x y : ByteArray} {vs : List Value} (h : RepL C σ H w [.v (.s x), .v (.s y)] vs) : vs = [.string x, .string y] := by
  obtain ⟨a, l, h1, h2, b, m, h3, h4, h5⟩ := h
  have h5' : m = [] := h5
  rw [h1, h3, h5', rep_str h2, rep_str h4]
theorem repL_s {x : ByteArray} {vs : List Value} (h : RepL C σ H w [.v (.s x)] vs) : vs = [.string x] := by
  obtain ⟨a, l, h1, h2, h5⟩ := h
  have h5' : l = [] := h5
  rw [h1, h5', rep_str h2]
theorem repL_si {x : ByteArray} {k : IntKind} {y : Int} {vs : List Value} (h : RepL C σ H w [.v (.s x), .v (.i k y)] vs) : vs = [.string x, .int k y] := by
  obtain ⟨a, l, h1, h2, b, m, h3, h4, h5⟩ := h
  have h5' : m = [] := h5
  rw [h1, h3, h5', rep_str h2, rep_int h4]
end Go.Proofs.YtooefkbecoopdaaDoor.Ev
namespace Go.Proofs.YtooefkbecoopdaaDoor.Ev.Seat
open Go Ev Go.Proofs Go.RowKit
def spSSS : Spec T (ByteArray × ByteArray) ByteArray where
  dcI a H := match a, H with
    | [.v (.s x), .v (.s y)], [] => some (x, y)
    | _, _ => none
  ecA := fun (x, y) => [.v (.s x), .v (.s y)]
  ecH := fun _ => []
  dcO o := match o with
    | .ret (.v (.s a)) [] => some a
    | _ => none
  ecO := fun a => .ret (.v (.s a)) []
  goO := fun _ a k => k (.ret (.v (.s a)) [])
theorem spSSS_ok : SpecOk spSSS := by
  refine ⟨fun a H i h => ?_, fun o x h => ?_, fun R e k => by kernel_rfl⟩
  · simp only [spSSS] at h ⊢; split at h <;> first | (cases h; exact ⟨rfl, rfl⟩) | (cases h; done)
  · simp only [spSSS] at h ⊢; split at h <;> first | (cases h; rfl) | (cases h; done)
def spSSB : Spec T (ByteArray × ByteArray) Bool where
  dcI a H := match a, H with
    | [.v (.s x), .v (.s y)], [] => some (x, y)
    | _, _ => none
  ecA := fun (x, y) => [.v (.s x), .v (.s y)]
  ecH := fun _ => []
  dcO o := match o with
    | .ret (.v (.b a)) [] => some a
    | _ => none
  ecO := fun a => .ret (.v (.b a)) []
  goO := fun _ a k => k (.ret (.v (.b a)) [])
theorem spSSB_ok : SpecOk spSSB := by
  refine ⟨fun a H i h => ?_, fun o x h => ?_, fun R e k => by kernel_rfl⟩
  · simp only [spSSB] at h ⊢; split at h <;> first | (cases h; exact ⟨rfl, rfl⟩) | (cases h; done)
  · simp only [spSSB] at h ⊢; split at h <;> first | (cases h; rfl) | (cases h; done)
def spSSI : Spec T (ByteArray × ByteArray) Int where
  dcI a H := match a, H with
    | [.v (.s x), .v (.s y)], [] => some (x, y)
    | _, _ => none
  ecA := fun (x, y) => [.v (.s x), .v (.s y)]
  ecH := fun _ => []
  dcO o := match o with
    | .ret (.v (.i .i64 a)) [] => some a
    | _ => none
  ecO := fun a => .ret (.v (.i .i64 a)) []
  goO := fun _ a k => k (.ret (.v (.i .i64 a)) [])
theorem spSSI_ok : SpecOk spSSI := by
  refine ⟨fun a H i h => ?_, fun o x h => ?_, fun R e k => by kernel_rfl⟩
  · simp only [spSSI] at h ⊢; split at h <;> first | (cases h; exact ⟨rfl, rfl⟩) | (cases h; done)
  · simp only [spSSI] at h ⊢; split at h <;> first | (cases h; rfl) | (cases h; done)
def spSII : Spec T (ByteArray) (Int × Int) where
  dcI a H := match a, H with
    | [.v (.s x)], [] => some x
    | _, _ => none
  ecA := fun x => [.v (.s x)]
  ecH := fun _ => []
  dcO o := match o with
    | .ret (.tup [.v (.i .i32 a0), .v (.i .i64 a1)]) [] => some (a0, a1)
    | _ => none
  ecO := fun (a0, a1) => .ret (.tup [.v (.i .i32 a0), .v (.i .i64 a1)]) []
  goO := fun _ (a0, a1) k => k (.ret (.tup [.v (.i .i32 a0), .v (.i .i64 a1)]) [])
theorem spSII_ok : SpecOk spSII := by
  refine ⟨fun a H i h => ?_, fun o x h => ?_, fun R e k => by kernel_rfl⟩
  · simp only [spSII] at h ⊢; split at h <;> first | (cases h; exact ⟨rfl, rfl⟩) | (cases h; done)
  · simp only [spSII] at h ⊢; split at h <;> first | (cases h; rfl) | (cases h; done)
def spSUI : Spec T (ByteArray × Int) Int where
  dcI a H := match a, H with
    | [.v (.s x), .v (.i .u8 y)], [] => some (x, y)
    | _, _ => none
  ecA := fun (x, y) => [.v (.s x), .v (.i .u8 y)]
  ecH := fun _ => []
  dcO o := match o with
    | .ret (.v (.i .i64 a)) [] => some a
    | _ => none
  ecO := fun a => .ret (.v (.i .i64 a)) []
  goO := fun _ a k => k (.ret (.v (.i .i64 a)) [])
theorem spSUI_ok : SpecOk spSUI := by
  refine ⟨fun a H i h => ?_, fun o x h => ?_, fun R e k => by kernel_rfl⟩
  · simp only [spSUI] at h ⊢; split at h <;> first | (cases h; exact ⟨rfl, rfl⟩) | (cases h; done)
  · simp only [spSUI] at h ⊢; split at h <;> first | (cases h; rfl) | (cases h; done)
def asciiB (c : ByteArray) : Bool := c.data.toList.all fun b => decide (b.toNat < 128)
theorem asciiB_ok {c : ByteArray} (h : asciiB c = true) : ∀ (j : Nat) b, c.data.toList[j]? = some b → b.toNat < 128 := by
  intro j b hb
  have := List.all_eq_true.1 h b (List.mem_of_getElem? hb)
  simpa using this
theorem utf8Tabs {C0 : Cdc T} {σ : Lk} {H : List (AObj T)} {w : World} {m : Int} (hR : Rp C0 σ H w (G m)) : Lib.Utf8Tabs 1 2 w := by
  refine ⟨fun c hc => ?_, fun i hi => ⟨?_, ?_⟩⟩
  · obtain ⟨y, h1, h2⟩ := hR.glob 1 firstTab rfl c (.i .u8 (Lib.firstT c)) (by simp [firstTab, hc])
    cases h2
    simpa using h1.2
  · obtain ⟨y, h1, h2⟩ := hR.glob 2 accTab rfl (2 * i) (.i .u8 (Lib.accLo i)) (by simp [accTab, show 2 * i < 32 by omega])
    cases h2
    simpa using h1.2
  · obtain ⟨y, h1, h2⟩ := hR.glob 2 accTab rfl (2 * i + 1) (.i .u8 (Lib.accHi i)) (by simp [accTab, show 2 * i + 1 < 32 by omega, show (2 * i + 1) / 2 = i by omega]; rfl)
    cases h2
    simpa using h1.2
def strings_TrimLeft (κ : Nat) (x : ByteArray) (y : ByteArray) : Option ByteArray := bif (asciiB y) && (Nat.blt y.size 4294967281) then some ⟨(Lib.trimLeftS x.data.toList y.data.toList).toArray⟩ else none
theorem ok_strings_TrimLeft (κ : Nat) (m : Int) : EOk Tryd.prog C (G m) 58 (spSSS.entry fun (x, y) => strings_TrimLeft κ x y) := by
  refine Spec.lib spSSS_ok (callable Tryd.func58 (c := getBody Tryd.f58) (by kernel_rfl) (by kernel_rfl)) (fun _ => rfl) fun i q hx σ w vs hR ha => ?_
  obtain ⟨x, y⟩ := i
  have hvs := repL_ss ha
  subst hvs
  simp only [strings_TrimLeft] at hx
  cases hb : (asciiB y) && (Nat.blt y.size 4294967281)
  · rw [hb] at hx; cases hx
  · rw [hb] at hx
    cases hx
    simp only [Bool.and_eq_true] at hb
    obtain ⟨h0, h1⟩ := hb
    refine ⟨_, rfl, (Any.strings_TrimLeft_laid Tryd.lays161 (by kernel_rfl) x y w (Nat.le_of_ble_eq_true h1) (asciiB_ok h0)).mono fun e w' ⟨h1, h2⟩ => ⟨h2, _, h1, .s _⟩⟩
def strings_Trim (κ : Nat) (x : ByteArray) (y : ByteArray) : Option ByteArray := bif (asciiB y) && (Nat.blt y.size 4294967281) && (Nat.ble x.size maxI) then some ⟨(Lib.trimS x.data.toList y.data.toList).toArray⟩ else none
theorem ok_strings_Trim (κ : Nat) (m : Int) : EOk Tryd.prog C (G m) 28 (spSSS.entry fun (x, y) => strings_Trim κ x y) := by
  refine Spec.lib spSSS_ok (callable Tryd.func28 (c := getBody Tryd.f28) (by kernel_rfl) (by kernel_rfl)) (fun _ => rfl) fun i q hx σ w vs hR ha => ?_
  obtain ⟨x, y⟩ := i
  have hvs := repL_ss ha
  subst hvs
  simp only [strings_Trim] at hx
  cases hb : (asciiB y) && (Nat.blt y.size 4294967281) && (Nat.ble x.size maxI)
  · rw [hb] at hx; cases hx
  · rw [hb] at hx
    cases hx
    simp only [Bool.and_eq_true] at hb
    obtain ⟨⟨h0, h1⟩, h2⟩ := hb
    refine ⟨_, rfl, (Any.strings_Trim_laid Tryd.lays160 (by kernel_rfl) x y w (Nat.le_of_ble_eq_true h2) (Nat.le_of_ble_eq_true h1) (asciiB_ok h0)).mono fun e w' ⟨h1, h2⟩ => ⟨h2, _, h1, .s _⟩⟩
def strings_Contains (κ : Nat) (x : ByteArray) (y : ByteArray) : Option Bool := bif (Nat.blt x.size 4294967281) then some (Lib.contains x.data.toList y.data.toList) else none
theorem ok_strings_Contains (κ : Nat) (m : Int) : EOk Tryd.prog C (G m) 27 (spSSB.entry fun (x, y) => strings_Contains κ x y) := by
  refine Spec.lib spSSB_ok (callable Tryd.func27 (c := getBody Tryd.f27) (by kernel_rfl) (by kernel_rfl)) (fun _ => rfl) fun i q hx σ w vs hR ha => ?_
  obtain ⟨x, y⟩ := i
  have hvs := repL_ss ha
  subst hvs
  have hm : w.cell? ⟨0, 0, none⟩ = some (.int .i64 m) := by
    obtain ⟨y, h1, h2⟩ := hR.glob 0 [.i .i64 m] rfl 0 (.i .i64 m) rfl
    cases h2
    exact h1.2
  simp only [strings_Contains] at hx
  cases hb : (Nat.blt x.size 4294967281)
  · rw [hb] at hx; cases hx
  · rw [hb] at hx
    cases hx
    have h0 := hb
    refine ⟨_, rfl, (Tryd.strings_Contains x y m w (Nat.le_of_ble_eq_true h0) hm).mono fun e w' ⟨h1, h2⟩ => ⟨by rw [h2]; exact Below.refl _ _, _, h1, .b _⟩⟩
def strings_Index (κ : Nat) (x : ByteArray) (y : ByteArray) : Option Int := bif (Nat.blt x.size 4294967281) then some (Lib.index x.data.toList y.data.toList) else none
theorem ok_strings_Index (κ : Nat) (m : Int) : EOk Tryd.prog C (G m) 38 (spSSI.entry fun (x, y) => strings_Index κ x y) := by
  refine Spec.lib spSSI_ok (callable Tryd.func38 (c := getBody Tryd.f38) (by kernel_rfl) (by kernel_rfl)) (fun _ => rfl) fun i q hx σ w vs hR ha => ?_
  obtain ⟨x, y⟩ := i
  have hvs := repL_ss ha
  subst hvs
  have hm : w.cell? ⟨0, 0, none⟩ = some (.int .i64 m) := by
    obtain ⟨y, h1, h2⟩ := hR.glob 0 [.i .i64 m] rfl 0 (.i .i64 m) rfl
    cases h2
    exact h1.2
  simp only [strings_Index] at hx
  cases hb : (Nat.blt x.size 4294967281)
  · rw [hb] at hx; cases hx
  · rw [hb] at hx
    cases hx
    have h0 := hb
    refine ⟨_, rfl, (Tryd.strings_Index x y m w (Nat.le_of_ble_eq_true h0) hm).mono fun e w' ⟨h1, h2⟩ => ⟨by rw [h2]; exact Below.refl _ _, _, h1, .i _ _⟩⟩
def strings_IndexByte (κ : Nat) (x : ByteArray) (y : Int) : Option Int := some (Lib.indexByte x.data.toList y.toNat.toUInt8)
theorem ok_strings_IndexByte (κ : Nat) (m : Int) : EOk Tryd.prog C (G m) 76 (spSUI.entry fun (x, y) => strings_IndexByte κ x y) := by
  refine Spec.lib spSUI_ok (callable Tryd.func76 (c := getBody Tryd.f76) (by kernel_rfl) (by kernel_rfl)) (fun _ => rfl) fun i q hx σ w vs hR ha => ?_
  obtain ⟨x, y⟩ := i
  have hvs := repL_si ha
  subst hvs
  simp only [strings_IndexByte] at hx
  cases hx
  refine ⟨_, rfl, (Tryd.strings_IndexByte x y w).mono fun e w' ⟨h1, h2⟩ => ⟨by rw [h2]; exact Below.refl _ _, _, h1, .i _ _⟩⟩
def unicode_utf8_DecodeRuneInString (κ : Nat) (x : ByteArray) : Option (Int × Int) := some (((Lib.decodeGo x).1 : Int), ((Lib.decodeGo x).2 : Int))
theorem ok_unicode_utf8_DecodeRuneInString (κ : Nat) (m : Int) : EOk Tryd.prog C (G m) 61 (spSII.entry fun x => unicode_utf8_DecodeRuneInString κ x) := by
  refine Spec.lib spSII_ok (callable Tryd.func61 (c := getBody Tryd.f61) (by kernel_rfl) (by kernel_rfl)) (fun _ => rfl) fun x q hx σ w vs hR ha => ?_
  have hvs := repL_s ha
  subst hvs
  have hT := utf8Tabs hR
  simp only [unicode_utf8_DecodeRuneInString] at hx
  cases hx
  refine ⟨_, rfl, (Tryd.utf8_DecodeRuneInString x w hT).mono fun e w' ⟨h1, h2⟩ => ⟨h2, _, h1, rep_tup2 (.i _ _) (.i _ _)⟩⟩
noncomputable def gamLib (b : Gam T) (κ : Nat) : Gam T := (((((((b.addS 58 spSSS (fun (x, y) => strings_TrimLeft κ x y)).addS 28 spSSS (fun (x, y) => strings_Trim κ x y)).addS 27 spSSB (fun (x, y) => strings_Contains κ x y)).addS 38 spSSI (fun (x, y) => strings_Index κ x y)).addS 76 spSUI (fun (x, y) => strings_IndexByte κ x y)).addS 61 spSII (fun x => unicode_utf8_DecodeRuneInString κ x)).addE 46 noEsc)
theorem gamLib_ok {b : Gam T} (κ : Nat) (m : Int) (hb : GOk Tryd.prog C (G m) b) : GOk Tryd.prog C (G m) (gamLib b κ) := (((((((hb.addS (ok_strings_TrimLeft κ m)).addS (ok_strings_Trim κ m)).addS (ok_strings_Contains κ m)).addS (ok_strings_Index κ m)).addS (ok_strings_IndexByte κ m)).addS (ok_unicode_utf8_DecodeRuneInString κ m)).addE (noEsc_ok Tryd.func46 (by kernel_rfl) (by kernel_rfl) (by kernel_rfl) (by kernel_rfl)))
end Go.Proofs.YtooefkbecoopdaaDoor.Ev.Seat


set_option maxRecDepth 8000
namespace Go.Proofs.YtooefkbecoopdaaDoor.Ev.Seat
open Go Ev Go.Proofs
def eqT (t : Nat) (x y : T t) : Bool := if h : t = 9 then sameBy (h ▸ x : T 9).data.toList (h ▸ y : T 9).data.toList else false
instance : EqT T := ⟨eqT, fun t x y h => by
  unfold eqT at h
  split at h
  · rename_i ht; subst ht
    have := sameBy_eq h
    change ByteArray at x y
    cases x; cases y
    rename_i a b
    cases a; cases b
    exact congrArg (fun l => (⟨⟨l⟩⟩ : ByteArray)) this
  · cases h⟩
def giveR : List Nat := [47, 48, 49, 50, 51, 52, 53, 54, 55, 16, 25, 26, 64, 65, 30, 31]
noncomputable def inlR (m : Int) (Γ : Gam T) (cut : Key → Option (Cut T)) (fn : Func) : Entry T := inlE C Tryd.prog (G m) Γ cut fn
noncomputable def luR (m : Int) (Γ : Gam T) (fn : Func) (b k : Nat) : Cut T := fun R env H ds K => loopU C Tryd.prog (G m) Γ fn.ntmps noCut b (bodyOf (pieceOf (.blk b) (getBody fn))) k env H ds K
noncomputable def gR0 (m : Int) : Gam T := ((((((((gam0.give giveR).addE 49 (inlR m gam0 noCut Tryd.f49)).addE 50 (inlR m gam0 noCut Tryd.f50)).addE 64 (inlR m gam0 noCut Tryd.f64)).addE 65 (inlR m gam0 noCut Tryd.f65)).addE 54 (inlR m gam0 noCut Tryd.f54)).addE 26 (inlR m gam0 noCut Tryd.f26)).addE 47 (inlR m gam0 noCut Tryd.f47)).addE 31 (inlR m gam0 noCut Tryd.f31)
noncomputable def cR48 (m : Int) : Key → Option (Cut T) := addCut noCut (.blk 0) (luR m (gR0 m) Tryd.f48 0 3)
noncomputable def cR25 (m : Int) : Key → Option (Cut T) := addCut noCut (.blk 0) (luR m (gR0 m) Tryd.f25 0 7)
noncomputable def gR1 (m : Int) : Gam T := (((gR0 m).addE 48 (inlN C Tryd.prog (G m) (gR0 m) (cR48 m) (andN (slS 0 [5] 9) (rdS C 0 [5] 9)) Tryd.f48)).addE 25 (inlR m (gR0 m) (cR25 m) Tryd.f25)).addE 53 (inlR m (gR0 m) noCut Tryd.f53)
noncomputable def gR2 (m : Int) : Gam T := (gR1 m).addE 16 (inlR m (gR1 m) noCut Tryd.f16)
noncomputable def cR52 (m : Int) : Key → Option (Cut T) := addCut noCut (.blk 0) (luR m (gR2 m) Tryd.f52 0 4)
noncomputable def gR3 (m : Int) : Gam T := (gR2 m).addE 52 (inlR m (gR2 m) (cR52 m) Tryd.f52)
noncomputable def opsR (c : Code) : Array Oper := match c with | .region _ ops _ => ops | _ => #[]
noncomputable def cR30 (m : Int) : Key → Option (Cut T) := addCut noCut (.reg 3) (regAll C Tryd.prog (G m) (gR3 m) Tryd.f30.ntmps (opsR (pieceOf (.reg 3) (getBody Tryd.f30))) (gcN 0 [0, 3]) [0, 3])
def rdAll (l : List (Nat × Nat)) : NormT T := l.foldr (fun p N => andN (rdC C p.1 p.2 [] 29) N) (andN (rdS C 0 [0, 8] 29) (andN (slS 0 [0, 5] 9) (slS 0 [0, 8] 29)))
noncomputable def cRR (m : Int) (Γ : Gam T) : Key → Option (Cut T) := addCut noCut (.blk 0) (luR m Γ Tryd.f20 0 3)
variable (m : Int)
theorem gR0_ok : GOk Tryd.prog C (G m) (gR0 m) := ((((((((gam0_ok.give).addE (inlE_ok C_ok mixed gam0_ok Tryd.func49 (c := (getBody Tryd.f49)) (by kernel_rfl) (by kernel_rfl) (fun n => cuts_by (l := []) (by kernel_rfl) all_nil))).addE (inlE_ok C_ok mixed gam0_ok Tryd.func50 (c := (getBody Tryd.f50)) (by kernel_rfl) (by kernel_rfl) (fun n => cuts_by (l := []) (by kernel_rfl) all_nil))).addE (inlE_ok C_ok mixed gam0_ok Tryd.func64 (c := (getBody Tryd.f64)) (by kernel_rfl) (by kernel_rfl) (fun n => cuts_by (l := []) (by kernel_rfl) all_nil))).addE (inlE_ok C_ok mixed gam0_ok Tryd.func65 (c := (getBody Tryd.f65)) (by kernel_rfl) (by kernel_rfl) (fun n => cuts_by (l := []) (by kernel_rfl) all_nil))).addE (inlE_ok C_ok mixed gam0_ok Tryd.func54 (c := (getBody Tryd.f54)) (by kernel_rfl) (by kernel_rfl) (fun n => cuts_by (l := []) (by kernel_rfl) all_nil))).addE (inlE_ok C_ok mixed gam0_ok Tryd.func26 (c := (getBody Tryd.f26)) (by kernel_rfl) (by kernel_rfl) (fun n => cuts_by (l := []) (by kernel_rfl) all_nil))).addE (inlE_ok C_ok mixed gam0_ok Tryd.func47 (c := (getBody Tryd.f47)) (by kernel_rfl) (by kernel_rfl) (fun n => cuts_by (l := []) (by kernel_rfl) all_nil))).addE (inlE_ok C_ok mixed gam0_ok Tryd.func31 (c := (getBody Tryd.f31)) (by kernel_rfl) (by kernel_rfl) (fun n => cuts_by (l := []) (by kernel_rfl) all_nil))
theorem cR48_ok (n : Nat) : CutOk Tryd.prog C (G m) Tryd.f48.ntmps n (pieceOf (.blk 0) (getBody Tryd.f48)) (luR m (gR0 m) Tryd.f48 0 3) := loopU_ok C_ok (gR0_ok m) mixed (cuts_by (l := []) (by kernel_rfl) all_nil) 3
theorem cR25_ok (n : Nat) : CutOk Tryd.prog C (G m) Tryd.f25.ntmps n (pieceOf (.blk 0) (getBody Tryd.f25)) (luR m (gR0 m) Tryd.f25 0 7) := loopU_ok C_ok (gR0_ok m) mixed (cuts_by (l := []) (by kernel_rfl) all_nil) 7
theorem gR1_ok : GOk Tryd.prog C (G m) (gR1 m) := (((gR0_ok m).addE (inlN_ok C_ok mixed (gR0_ok m) (fun n => andN_ok (slS_ok C_ok) (rdS_ok C_ok)) Tryd.func48 (c := (getBody Tryd.f48)) (by kernel_rfl) (by kernel_rfl) (fun n => cuts_by (l := [(pieceOf (.blk 0) (getBody Tryd.f48), luR m (gR0 m) Tryd.f48 0 3)]) (by kernel_rfl) (all_cons (cR48_ok m n) all_nil)))).addE (inlE_ok C_ok mixed (gR0_ok m) Tryd.func25 (c := (getBody Tryd.f25)) (by kernel_rfl) (by kernel_rfl) (fun n => cuts_by (l := [(pieceOf (.blk 0) (getBody Tryd.f25), luR m (gR0 m) Tryd.f25 0 7)]) (by kernel_rfl) (all_cons (cR25_ok m n) all_nil)))).addE (inlE_ok C_ok mixed (gR0_ok m) Tryd.func53 (c := (getBody Tryd.f53)) (by kernel_rfl) (by kernel_rfl) (fun n => cuts_by (l := []) (by kernel_rfl) all_nil))
theorem gR2_ok : GOk Tryd.prog C (G m) (gR2 m) := (gR1_ok m).addE (inlE_ok C_ok mixed (gR1_ok m) Tryd.func16 (c := (getBody Tryd.f16)) (by kernel_rfl) (by kernel_rfl) (fun n => cuts_by (l := []) (by kernel_rfl) all_nil))
theorem cR52_ok (n : Nat) : CutOk Tryd.prog C (G m) Tryd.f52.ntmps n (pieceOf (.blk 0) (getBody Tryd.f52)) (luR m (gR2 m) Tryd.f52 0 4) := loopU_ok C_ok (gR2_ok m) mixed (cuts_by (l := []) (by kernel_rfl) all_nil) 4
theorem gR3_ok : GOk Tryd.prog C (G m) (gR3 m) := (gR2_ok m).addE (inlE_ok C_ok mixed (gR2_ok m) Tryd.func52 (c := (getBody Tryd.f52)) (by kernel_rfl) (by kernel_rfl) (fun n => cuts_by (l := [(pieceOf (.blk 0) (getBody Tryd.f52), luR m (gR2 m) Tryd.f52 0 4)]) (by kernel_rfl) (all_cons (cR52_ok m n) all_nil)))
noncomputable def first_a : AV T := (.agg [(.v (.s ⟨⟨[]⟩⟩)), (.v (.i .i64 2)), (.v (.i .i64 0)), (.v (.i .u64 0)), (.v (.i .u64 0)), .cap0, (.v (.b false)), (.v (.i .i64 0)), (.slc 0 0 2 2)])
noncomputable def first_h : List (AObj T) := [(.cells 29 none [(.v (.s ⟨⟨[115, 121, 115, 116, 101, 109]⟩⟩)), (.v (.i .i64 1)), (.v (.i .i64 5)), (.v (.i .u64 0)), (.v (.i .u64 0)), (.v (.sl 9 [])), (.v (.b false)), (.v (.i .i64 0)), .cap0, (.v (.s ⟨⟨[112, 111, 114, 116]⟩⟩)), (.v (.i .i64 3)), (.v (.i .i64 0)), (.v (.i .u64 0)), (.v (.i .u64 0)), .cap0, (.v (.b false)), (.v (.i .i64 4)), (.slc 1 0 4 4)]), (.cells 29 none [(.v (.s ⟨⟨[117, 112]⟩⟩)), (.v (.i .i64 1)), (.v (.i .i64 3)), (.v (.i .u64 0)), (.v (.i .u64 0)), (.v (.sl 9 [])), (.v (.b false)), (.v (.i .i64 0)), .cap0, (.v (.s ⟨⟨[99, 108, 97, 115, 115]⟩⟩)), (.v (.i .i64 3)), (.v (.i .i64 0)), (.v (.i .u64 0)), (.v (.i .u64 0)), .cap0, (.v (.b false)), (.v (.i .i64 8)), (.slc 2 0 4 4), (.v (.s ⟨⟨[114, 117, 108, 101]⟩⟩)), (.v (.i .i64 3)), (.v (.i .i64 0)), (.v (.i .u64 0)), (.v (.i .u64 0)), .cap0, (.v (.b false)), (.v (.i .i64 16)), (.slc 3 0 3 3), (.v (.s ⟨⟨[100, 101, 102, 97, 117, 108, 116]⟩⟩)), (.v (.i .i64 1)), (.v (.i .i64 6)), (.v (.i .u64 0)), (.v (.i .u64 0)), (.v (.sl 9 [])), (.v (.b true)), (.v (.i .i64 0)), .cap0]), (.cells 29 none [(.v (.s ⟨⟨[113, 117, 97, 110, 116, 117, 109]⟩⟩)), (.v (.i .i64 1)), (.v (.i .i64 1)), (.v (.i .u64 1500)), (.v (.i .u64 100000)), (.v (.sl 9 [])), (.v (.b true)), (.v (.i .i64 0)), .cap0, (.v (.s ⟨⟨[114, 97, 116, 101]⟩⟩)), (.v (.i .i64 1)), (.v (.i .i64 2)), (.v (.i .u64 0)), (.v (.i .u64 1000000)), (.v (.sl 9 [])), (.v (.b true)), (.v (.i .i64 0)), .cap0, (.v (.s ⟨⟨[98, 117, 114, 115, 116]⟩⟩)), (.v (.i .i64 1)), (.v (.i .i64 1)), (.v (.i .u64 1500)), (.v (.i .u64 1000000)), (.v (.sl 9 [])), (.v (.b true)), (.v (.i .i64 0)), .cap0, (.v (.s ⟨⟨[108, 105, 109, 105, 116]⟩⟩)), (.v (.i .i64 1)), (.v (.i .i64 1)), (.v (.i .u64 1)), (.v (.i .u64 64)), (.v (.sl 9 [])), (.v (.b true)), (.v (.i .i64 0)), .cap0]), (.cells 29 none [(.v (.s ⟨⟨[108, 111, 119]⟩⟩)), (.v (.i .i64 1)), (.v (.i .i64 1)), (.v (.i .u64 0)), (.v (.i .u64 65535)), (.v (.sl 9 [])), (.v (.b true)), (.v (.i .i64 0)), .cap0, (.v (.s ⟨⟨[104, 105, 103, 104]⟩⟩)), (.v (.i .i64 1)), (.v (.i .i64 1)), (.v (.i .u64 0)), (.v (.i .u64 65535)), (.v (.sl 9 [])), (.v (.b true)), (.v (.i .i64 0)), .cap0, (.v (.s ⟨⟨[99, 108, 97, 115, 115]⟩⟩)), (.v (.i .i64 1)), (.v (.i .i64 6)), (.v (.i .u64 0)), (.v (.i .u64 0)), (.v (.sl 9 [])), (.v (.b true)), (.v (.i .i64 0)), .cap0])]
theorem cR30_ok : CutOk Tryd.prog C (G m) Tryd.f30.ntmps 0 (pieceOf (.reg 3) (getBody Tryd.f30)) (regAll C Tryd.prog (G m) (gR3 m) Tryd.f30.ntmps (opsR (pieceOf (.reg 3) (getBody Tryd.f30))) (gcN 0 [0, 3]) [0, 3]) := regAll_ok C_ok mixed (gR3_ok m) gcN_ok (id := 3) (ops := opsR (pieceOf (.reg 3) (getBody Tryd.f30)))
theorem first_cuts : CutsOk Tryd.prog C (G m) Tryd.f30.ntmps 0 (cR30 m) (getBody Tryd.f30) := cuts_by (l := [((pieceOf (.reg 3) (getBody Tryd.f30)), (regAll C Tryd.prog (G m) (gR3 m) Tryd.f30.ntmps (opsR (pieceOf (.reg 3) (getBody Tryd.f30))) (gcN 0 [0, 3]) [0, 3]))]) (by kernel_rfl) (all_cons (cR30_ok m) all_nil)
theorem first_ev : funA C Tryd.prog (G m) (gR3 m) (cR30 m) (gcN 0 [0]) (gcN 0 [0]) Tryd.f30 [] [] (isOut first_a first_h) = some () := by kernel_rfl
theorem first_ok : EOk Tryd.prog C (G m) 30 (pointE [] [] first_a first_h noneE) := pointE_ok C_ok mixed (gR3_ok m) Tryd.func30 (c := (getBody Tryd.f30)) (by kernel_rfl) (by kernel_rfl) (NR := gcN 0 [0]) (NP := gcN 0 [0]) gcN_ok gcN_ok (first_cuts m) (first_ev m) noneE_ok
noncomputable def gR4 (m : Int) : Gam T := (gR3 m).addE 30 (pointE [] [] first_a first_h noneE)
theorem gR4_ok : GOk Tryd.prog C (G m) (gR4 m) := (gR3_ok m).addE (first_ok m)
noncomputable def l1in_h : List (AObj T) := [(.cells 29 none [(.v (.s ⟨⟨[]⟩⟩)), (.v (.i .i64 2)), (.v (.i .i64 0)), (.v (.i .u64 0)), (.v (.i .u64 0)), .cap0, (.v (.b false)), (.v (.i .i64 0)), (.slc 1 0 2 2)]), (.cells 29 none [(.v (.s ⟨⟨[115, 121, 115, 116, 101, 109]⟩⟩)), (.v (.i .i64 1)), (.v (.i .i64 5)), (.v (.i .u64 0)), (.v (.i .u64 0)), (.v (.sl 9 [])), (.v (.b false)), (.v (.i .i64 0)), .cap0, (.v (.s ⟨⟨[112, 111, 114, 116]⟩⟩)), (.v (.i .i64 3)), (.v (.i .i64 0)), (.v (.i .u64 0)), (.v (.i .u64 0)), .cap0, (.v (.b false)), (.v (.i .i64 4)), (.slc 2 0 4 4)]), (.cells 29 none [(.v (.s ⟨⟨[117, 112]⟩⟩)), (.v (.i .i64 1)), (.v (.i .i64 3)), (.v (.i .u64 0)), (.v (.i .u64 0)), (.v (.sl 9 [])), (.v (.b false)), (.v (.i .i64 0)), .cap0, (.v (.s ⟨⟨[99, 108, 97, 115, 115]⟩⟩)), (.v (.i .i64 3)), (.v (.i .i64 0)), (.v (.i .u64 0)), (.v (.i .u64 0)), .cap0, (.v (.b false)), (.v (.i .i64 8)), (.slc 3 0 4 4), (.v (.s ⟨⟨[114, 117, 108, 101]⟩⟩)), (.v (.i .i64 3)), (.v (.i .i64 0)), (.v (.i .u64 0)), (.v (.i .u64 0)), .cap0, (.v (.b false)), (.v (.i .i64 16)), (.slc 4 0 3 3), (.v (.s ⟨⟨[100, 101, 102, 97, 117, 108, 116]⟩⟩)), (.v (.i .i64 1)), (.v (.i .i64 6)), (.v (.i .u64 0)), (.v (.i .u64 0)), (.v (.sl 9 [])), (.v (.b true)), (.v (.i .i64 0)), .cap0]), (.cells 29 none [(.v (.s ⟨⟨[113, 117, 97, 110, 116, 117, 109]⟩⟩)), (.v (.i .i64 1)), (.v (.i .i64 1)), (.v (.i .u64 1500)), (.v (.i .u64 100000)), (.v (.sl 9 [])), (.v (.b true)), (.v (.i .i64 0)), .cap0, (.v (.s ⟨⟨[114, 97, 116, 101]⟩⟩)), (.v (.i .i64 1)), (.v (.i .i64 2)), (.v (.i .u64 0)), (.v (.i .u64 1000000)), (.v (.sl 9 [])), (.v (.b true)), (.v (.i .i64 0)), .cap0, (.v (.s ⟨⟨[98, 117, 114, 115, 116]⟩⟩)), (.v (.i .i64 1)), (.v (.i .i64 1)), (.v (.i .u64 1500)), (.v (.i .u64 1000000)), (.v (.sl 9 [])), (.v (.b true)), (.v (.i .i64 0)), .cap0, (.v (.s ⟨⟨[108, 105, 109, 105, 116]⟩⟩)), (.v (.i .i64 1)), (.v (.i .i64 1)), (.v (.i .u64 1)), (.v (.i .u64 64)), (.v (.sl 9 [])), (.v (.b true)), (.v (.i .i64 0)), .cap0]), (.cells 29 none [(.v (.s ⟨⟨[108, 111, 119]⟩⟩)), (.v (.i .i64 1)), (.v (.i .i64 1)), (.v (.i .u64 0)), (.v (.i .u64 65535)), (.v (.sl 9 [])), (.v (.b true)), (.v (.i .i64 0)), .cap0, (.v (.s ⟨⟨[104, 105, 103, 104]⟩⟩)), (.v (.i .i64 1)), (.v (.i .i64 1)), (.v (.i .u64 0)), (.v (.i .u64 65535)), (.v (.sl 9 [])), (.v (.b true)), (.v (.i .i64 0)), .cap0, (.v (.s ⟨⟨[99, 108, 97, 115, 115]⟩⟩)), (.v (.i .i64 1)), (.v (.i .i64 6)), (.v (.i .u64 0)), (.v (.i .u64 0)), (.v (.sl 9 [])), (.v (.b true)), (.v (.i .i64 0)), .cap0])]
noncomputable def l1_a : AV T := (.tup [])
noncomputable def l1_h : List (AObj T) := [(.cells 29 none [(.v (.s ⟨⟨[]⟩⟩)), (.v (.i .i64 2)), (.v (.i .i64 0)), (.v (.i .u64 0)), (.v (.i .u64 0)), .cap0, (.v (.b false)), (.v (.i .i64 0)), (.slc 1 0 2 2)]), (.cells 29 none [(.v (.s ⟨⟨[115, 121, 115, 116, 101, 109]⟩⟩)), (.v (.i .i64 1)), (.v (.i .i64 5)), (.v (.i .u64 0)), (.v (.i .u64 0)), (.v (.sl 9 [])), (.v (.b false)), (.v (.i .i64 0)), .cap0, (.v (.s ⟨⟨[112, 111, 114, 116]⟩⟩)), (.v (.i .i64 3)), (.v (.i .i64 0)), (.v (.i .u64 0)), (.v (.i .u64 0)), .cap0, (.v (.b false)), (.v (.i .i64 4)), (.slc 5 0 5 0)]), (.cells 29 none [(.v (.s ⟨⟨[117, 112]⟩⟩)), (.v (.i .i64 1)), (.v (.i .i64 3)), (.v (.i .u64 0)), (.v (.i .u64 0)), (.v (.sl 9 [])), (.v (.b false)), (.v (.i .i64 0)), .cap0, (.v (.s ⟨⟨[99, 108, 97, 115, 115]⟩⟩)), (.v (.i .i64 3)), (.v (.i .i64 0)), (.v (.i .u64 0)), (.v (.i .u64 0)), .cap0, (.v (.b false)), (.v (.i .i64 8)), (.slc 6 0 5 0), (.v (.s ⟨⟨[114, 117, 108, 101]⟩⟩)), (.v (.i .i64 3)), (.v (.i .i64 0)), (.v (.i .u64 0)), (.v (.i .u64 0)), .cap0, (.v (.b false)), (.v (.i .i64 16)), (.slc 4 0 3 3), (.v (.s ⟨⟨[100, 101, 102, 97, 117, 108, 116]⟩⟩)), (.v (.i .i64 1)), (.v (.i .i64 6)), (.v (.i .u64 0)), (.v (.i .u64 0)), (.v (.sl 9 [])), (.v (.b true)), (.v (.i .i64 0)), .cap0]), (.cells 29 none [(.v (.s ⟨⟨[113, 117, 97, 110, 116, 117, 109]⟩⟩)), (.v (.i .i64 1)), (.v (.i .i64 1)), (.v (.i .u64 1500)), (.v (.i .u64 100000)), (.v (.sl 9 [])), (.v (.b true)), (.v (.i .i64 0)), .cap0, (.v (.s ⟨⟨[114, 97, 116, 101]⟩⟩)), (.v (.i .i64 1)), (.v (.i .i64 2)), (.v (.i .u64 0)), (.v (.i .u64 1000000)), (.v (.sl 9 [])), (.v (.b true)), (.v (.i .i64 0)), .cap0, (.v (.s ⟨⟨[98, 117, 114, 115, 116]⟩⟩)), (.v (.i .i64 1)), (.v (.i .i64 1)), (.v (.i .u64 1500)), (.v (.i .u64 1000000)), (.v (.sl 9 [])), (.v (.b true)), (.v (.i .i64 0)), .cap0, (.v (.s ⟨⟨[108, 105, 109, 105, 116]⟩⟩)), (.v (.i .i64 1)), (.v (.i .i64 1)), (.v (.i .u64 1)), (.v (.i .u64 64)), (.v (.sl 9 [])), (.v (.b true)), (.v (.i .i64 0)), .cap0]), (.cells 29 none [(.v (.s ⟨⟨[108, 111, 119]⟩⟩)), (.v (.i .i64 1)), (.v (.i .i64 1)), (.v (.i .u64 0)), (.v (.i .u64 65535)), (.v (.sl 9 [])), (.v (.b true)), (.v (.i .i64 0)), .cap0, (.v (.s ⟨⟨[104, 105, 103, 104]⟩⟩)), (.v (.i .i64 1)), (.v (.i .i64 1)), (.v (.i .u64 0)), (.v (.i .u64 65535)), (.v (.sl 9 [])), (.v (.b true)), (.v (.i .i64 0)), .cap0, (.v (.s ⟨⟨[99, 108, 97, 115, 115]⟩⟩)), (.v (.i .i64 1)), (.v (.i .i64 6)), (.v (.i .u64 0)), (.v (.i .u64 0)), (.v (.sl 9 [])), (.v (.b true)), (.v (.i .i64 0)), .cap0]), (.cells 29 (some 0) [(.v (.s ⟨⟨[117, 112]⟩⟩)), (.v (.i .i64 1)), (.v (.i .i64 3)), (.v (.i .u64 0)), (.v (.i .u64 0)), (.v (.sl 9 [])), (.v (.b false)), (.v (.i .i64 0)), .cap0, (.v (.s ⟨⟨[99, 108, 97, 115, 115]⟩⟩)), (.v (.i .i64 3)), (.v (.i .i64 0)), (.v (.i .u64 0)), (.v (.i .u64 0)), .cap0, (.v (.b false)), (.v (.i .i64 8)), (.slc 6 0 5 0), (.v (.s ⟨⟨[114, 117, 108, 101]⟩⟩)), (.v (.i .i64 3)), (.v (.i .i64 0)), (.v (.i .u64 0)), (.v (.i .u64 0)), .cap0, (.v (.b false)), (.v (.i .i64 16)), (.slc 4 0 3 3), (.v (.s ⟨⟨[100, 101, 102, 97, 117, 108, 116]⟩⟩)), (.v (.i .i64 1)), (.v (.i .i64 6)), (.v (.i .u64 0)), (.v (.i .u64 0)), (.v (.sl 9 [])), (.v (.b true)), (.v (.i .i64 0)), .cap0, (.v (.s ⟨⟨[107, 105, 110, 100]⟩⟩)), (.v (.i .i64 1)), (.v (.i .i64 4)), (.v (.i .u64 0)), (.v (.i .u64 0)), (.v (.sl 9 [⟨⟨[101, 100, 103, 101]⟩⟩, ⟨⟨[99, 111, 114, 101]⟩⟩, ⟨⟨[108, 97, 98]⟩⟩])), (.v (.b false)), (.v (.i .i64 0)), .cap0]), (.cells 29 (some 0) [(.v (.s ⟨⟨[113, 117, 97, 110, 116, 117, 109]⟩⟩)), (.v (.i .i64 1)), (.v (.i .i64 1)), (.v (.i .u64 1500)), (.v (.i .u64 100000)), (.v (.sl 9 [])), (.v (.b true)), (.v (.i .i64 0)), .cap0, (.v (.s ⟨⟨[114, 97, 116, 101]⟩⟩)), (.v (.i .i64 1)), (.v (.i .i64 2)), (.v (.i .u64 0)), (.v (.i .u64 1000000)), (.v (.sl 9 [])), (.v (.b true)), (.v (.i .i64 0)), .cap0, (.v (.s ⟨⟨[98, 117, 114, 115, 116]⟩⟩)), (.v (.i .i64 1)), (.v (.i .i64 1)), (.v (.i .u64 1500)), (.v (.i .u64 1000000)), (.v (.sl 9 [])), (.v (.b true)), (.v (.i .i64 0)), .cap0, (.v (.s ⟨⟨[108, 105, 109, 105, 116]⟩⟩)), (.v (.i .i64 1)), (.v (.i .i64 1)), (.v (.i .u64 1)), (.v (.i .u64 64)), (.v (.sl 9 [])), (.v (.b true)), (.v (.i .i64 0)), .cap0, (.v (.s ⟨⟨[115, 104, 97, 112, 101, 100]⟩⟩)), (.v (.i .i64 1)), (.v (.i .i64 3)), (.v (.i .u64 0)), (.v (.i .u64 0)), (.v (.sl 9 [])), (.v (.b true)), (.v (.i .i64 0)), .cap0])]
theorem l1_cuts : CutsOk Tryd.prog C (G m) Tryd.f51.ntmps 5 noCut (getBody Tryd.f51) := cuts_by (l := []) (by kernel_rfl) all_nil
theorem l1_ev : funA C Tryd.prog (G m) (gR4 m) noCut (gcN 5 [0]) (gcN 5 [0]) Tryd.f51 [.ptr 0 0] l1in_h (isOut l1_a l1_h) = some () := by kernel_rfl
theorem l1_ok : EOk Tryd.prog C (G m) 51 (pointE [.ptr 0 0] l1in_h l1_a l1_h noneE) := pointE_ok C_ok mixed (gR4_ok m) Tryd.func51 (c := (getBody Tryd.f51)) (by kernel_rfl) (by kernel_rfl) (NR := gcN 5 [0]) (NP := gcN 5 [0]) gcN_ok gcN_ok (l1_cuts m) (l1_ev m) noneE_ok
noncomputable def gR5 (m : Int) : Gam T := (gR4 m).addE 51 (pointE [.ptr 0 0] l1in_h l1_a l1_h noneE)
theorem gR5_ok : GOk Tryd.prog C (G m) (gR5 m) := (gR4_ok m).addE (l1_ok m)
noncomputable def l2in_h : List (AObj T) := [(.cells 29 none [(.v (.s ⟨⟨[]⟩⟩)), (.v (.i .i64 2)), (.v (.i .i64 0)), (.v (.i .u64 0)), (.v (.i .u64 0)), .cap0, (.v (.b false)), (.v (.i .i64 0)), (.slc 1 0 2 2)]), (.cells 29 none [(.v (.s ⟨⟨[115, 121, 115, 116, 101, 109]⟩⟩)), (.v (.i .i64 1)), (.v (.i .i64 5)), (.v (.i .u64 0)), (.v (.i .u64 0)), (.v (.sl 9 [])), (.v (.b false)), (.v (.i .i64 0)), .cap0, (.v (.s ⟨⟨[112, 111, 114, 116]⟩⟩)), (.v (.i .i64 3)), (.v (.i .i64 0)), (.v (.i .u64 0)), (.v (.i .u64 0)), .cap0, (.v (.b false)), (.v (.i .i64 4)), (.slc 2 0 5 0)]), (.cells 29 (some 0) [(.v (.s ⟨⟨[117, 112]⟩⟩)), (.v (.i .i64 1)), (.v (.i .i64 3)), (.v (.i .u64 0)), (.v (.i .u64 0)), (.v (.sl 9 [])), (.v (.b false)), (.v (.i .i64 0)), .cap0, (.v (.s ⟨⟨[99, 108, 97, 115, 115]⟩⟩)), (.v (.i .i64 3)), (.v (.i .i64 0)), (.v (.i .u64 0)), (.v (.i .u64 0)), .cap0, (.v (.b false)), (.v (.i .i64 8)), (.slc 3 0 5 0), (.v (.s ⟨⟨[114, 117, 108, 101]⟩⟩)), (.v (.i .i64 3)), (.v (.i .i64 0)), (.v (.i .u64 0)), (.v (.i .u64 0)), .cap0, (.v (.b false)), (.v (.i .i64 16)), (.slc 4 0 3 3), (.v (.s ⟨⟨[100, 101, 102, 97, 117, 108, 116]⟩⟩)), (.v (.i .i64 1)), (.v (.i .i64 6)), (.v (.i .u64 0)), (.v (.i .u64 0)), (.v (.sl 9 [])), (.v (.b true)), (.v (.i .i64 0)), .cap0, (.v (.s ⟨⟨[107, 105, 110, 100]⟩⟩)), (.v (.i .i64 1)), (.v (.i .i64 4)), (.v (.i .u64 0)), (.v (.i .u64 0)), (.v (.sl 9 [⟨⟨[101, 100, 103, 101]⟩⟩, ⟨⟨[99, 111, 114, 101]⟩⟩, ⟨⟨[108, 97, 98]⟩⟩])), (.v (.b false)), (.v (.i .i64 0)), .cap0]), (.cells 29 (some 0) [(.v (.s ⟨⟨[113, 117, 97, 110, 116, 117, 109]⟩⟩)), (.v (.i .i64 1)), (.v (.i .i64 1)), (.v (.i .u64 1500)), (.v (.i .u64 100000)), (.v (.sl 9 [])), (.v (.b true)), (.v (.i .i64 0)), .cap0, (.v (.s ⟨⟨[114, 97, 116, 101]⟩⟩)), (.v (.i .i64 1)), (.v (.i .i64 2)), (.v (.i .u64 0)), (.v (.i .u64 1000000)), (.v (.sl 9 [])), (.v (.b true)), (.v (.i .i64 0)), .cap0, (.v (.s ⟨⟨[98, 117, 114, 115, 116]⟩⟩)), (.v (.i .i64 1)), (.v (.i .i64 1)), (.v (.i .u64 1500)), (.v (.i .u64 1000000)), (.v (.sl 9 [])), (.v (.b true)), (.v (.i .i64 0)), .cap0, (.v (.s ⟨⟨[108, 105, 109, 105, 116]⟩⟩)), (.v (.i .i64 1)), (.v (.i .i64 1)), (.v (.i .u64 1)), (.v (.i .u64 64)), (.v (.sl 9 [])), (.v (.b true)), (.v (.i .i64 0)), .cap0, (.v (.s ⟨⟨[115, 104, 97, 112, 101, 100]⟩⟩)), (.v (.i .i64 1)), (.v (.i .i64 3)), (.v (.i .u64 0)), (.v (.i .u64 0)), (.v (.sl 9 [])), (.v (.b true)), (.v (.i .i64 0)), .cap0]), (.cells 29 none [(.v (.s ⟨⟨[108, 111, 119]⟩⟩)), (.v (.i .i64 1)), (.v (.i .i64 1)), (.v (.i .u64 0)), (.v (.i .u64 65535)), (.v (.sl 9 [])), (.v (.b true)), (.v (.i .i64 0)), .cap0, (.v (.s ⟨⟨[104, 105, 103, 104]⟩⟩)), (.v (.i .i64 1)), (.v (.i .i64 1)), (.v (.i .u64 0)), (.v (.i .u64 65535)), (.v (.sl 9 [])), (.v (.b true)), (.v (.i .i64 0)), .cap0, (.v (.s ⟨⟨[99, 108, 97, 115, 115]⟩⟩)), (.v (.i .i64 1)), (.v (.i .i64 6)), (.v (.i .u64 0)), (.v (.i .u64 0)), (.v (.sl 9 [])), (.v (.b true)), (.v (.i .i64 0)), .cap0])]
noncomputable def l2_a : AV T := (.tup [])
noncomputable def l2_h : List (AObj T) := [(.cells 29 none [(.v (.s ⟨⟨[]⟩⟩)), (.v (.i .i64 2)), (.v (.i .i64 0)), (.v (.i .u64 0)), (.v (.i .u64 0)), .cap0, (.v (.b false)), (.v (.i .i64 0)), (.slc 5 0 3 0)]), (.cells 29 none [(.v (.s ⟨⟨[115, 121, 115, 116, 101, 109]⟩⟩)), (.v (.i .i64 1)), (.v (.i .i64 5)), (.v (.i .u64 0)), (.v (.i .u64 0)), (.v (.sl 9 [])), (.v (.b false)), (.v (.i .i64 0)), .cap0, (.v (.s ⟨⟨[112, 111, 114, 116]⟩⟩)), (.v (.i .i64 3)), (.v (.i .i64 0)), (.v (.i .u64 0)), (.v (.i .u64 0)), .cap0, (.v (.b false)), (.v (.i .i64 4)), (.slc 2 0 5 0)]), (.cells 29 (some 0) [(.v (.s ⟨⟨[117, 112]⟩⟩)), (.v (.i .i64 1)), (.v (.i .i64 3)), (.v (.i .u64 0)), (.v (.i .u64 0)), (.v (.sl 9 [])), (.v (.b false)), (.v (.i .i64 0)), .cap0, (.v (.s ⟨⟨[99, 108, 97, 115, 115]⟩⟩)), (.v (.i .i64 3)), (.v (.i .i64 0)), (.v (.i .u64 0)), (.v (.i .u64 0)), .cap0, (.v (.b false)), (.v (.i .i64 8)), (.slc 3 0 5 0), (.v (.s ⟨⟨[114, 117, 108, 101]⟩⟩)), (.v (.i .i64 3)), (.v (.i .i64 0)), (.v (.i .u64 0)), (.v (.i .u64 0)), .cap0, (.v (.b false)), (.v (.i .i64 16)), (.slc 4 0 3 3), (.v (.s ⟨⟨[100, 101, 102, 97, 117, 108, 116]⟩⟩)), (.v (.i .i64 1)), (.v (.i .i64 6)), (.v (.i .u64 0)), (.v (.i .u64 0)), (.v (.sl 9 [])), (.v (.b true)), (.v (.i .i64 0)), .cap0, (.v (.s ⟨⟨[107, 105, 110, 100]⟩⟩)), (.v (.i .i64 1)), (.v (.i .i64 4)), (.v (.i .u64 0)), (.v (.i .u64 0)), (.v (.sl 9 [⟨⟨[101, 100, 103, 101]⟩⟩, ⟨⟨[99, 111, 114, 101]⟩⟩, ⟨⟨[108, 97, 98]⟩⟩])), (.v (.b false)), (.v (.i .i64 0)), .cap0]), (.cells 29 (some 0) [(.v (.s ⟨⟨[113, 117, 97, 110, 116, 117, 109]⟩⟩)), (.v (.i .i64 1)), (.v (.i .i64 1)), (.v (.i .u64 1500)), (.v (.i .u64 100000)), (.v (.sl 9 [])), (.v (.b true)), (.v (.i .i64 0)), .cap0, (.v (.s ⟨⟨[114, 97, 116, 101]⟩⟩)), (.v (.i .i64 1)), (.v (.i .i64 2)), (.v (.i .u64 0)), (.v (.i .u64 1000000)), (.v (.sl 9 [])), (.v (.b true)), (.v (.i .i64 0)), .cap0, (.v (.s ⟨⟨[98, 117, 114, 115, 116]⟩⟩)), (.v (.i .i64 1)), (.v (.i .i64 1)), (.v (.i .u64 1500)), (.v (.i .u64 1000000)), (.v (.sl 9 [])), (.v (.b true)), (.v (.i .i64 0)), .cap0, (.v (.s ⟨⟨[100, 101, 112, 116, 104]⟩⟩)), (.v (.i .i64 1)), (.v (.i .i64 1)), (.v (.i .u64 1)), (.v (.i .u64 64)), (.v (.sl 9 [])), (.v (.b true)), (.v (.i .i64 0)), .cap0, (.v (.s ⟨⟨[115, 104, 97, 112, 101, 100]⟩⟩)), (.v (.i .i64 1)), (.v (.i .i64 3)), (.v (.i .u64 0)), (.v (.i .u64 0)), (.v (.sl 9 [])), (.v (.b true)), (.v (.i .i64 0)), .cap0]), (.cells 29 none [(.v (.s ⟨⟨[108, 111, 119]⟩⟩)), (.v (.i .i64 1)), (.v (.i .i64 1)), (.v (.i .u64 0)), (.v (.i .u64 65535)), (.v (.sl 9 [])), (.v (.b true)), (.v (.i .i64 0)), .cap0, (.v (.s ⟨⟨[104, 105, 103, 104]⟩⟩)), (.v (.i .i64 1)), (.v (.i .i64 1)), (.v (.i .u64 0)), (.v (.i .u64 65535)), (.v (.sl 9 [])), (.v (.b true)), (.v (.i .i64 0)), .cap0, (.v (.s ⟨⟨[99, 108, 97, 115, 115]⟩⟩)), (.v (.i .i64 1)), (.v (.i .i64 6)), (.v (.i .u64 0)), (.v (.i .u64 0)), (.v (.sl 9 [])), (.v (.b true)), (.v (.i .i64 0)), .cap0]), (.cells 29 (some 0) [(.v (.s ⟨⟨[115, 121, 115, 116, 101, 109]⟩⟩)), (.v (.i .i64 1)), (.v (.i .i64 5)), (.v (.i .u64 0)), (.v (.i .u64 0)), (.v (.sl 9 [])), (.v (.b false)), (.v (.i .i64 0)), .cap0, (.v (.s ⟨⟨[112, 111, 114, 116]⟩⟩)), (.v (.i .i64 3)), (.v (.i .i64 0)), (.v (.i .u64 0)), (.v (.i .u64 0)), .cap0, (.v (.b false)), (.v (.i .i64 4)), (.slc 2 0 5 0), (.v (.s ⟨⟨[119, 97, 105, 116]⟩⟩)), (.v (.i .i64 1)), (.v (.i .i64 1)), (.v (.i .u64 1)), (.v (.i .u64 1000)), (.v (.sl 9 [])), (.v (.b false)), (.v (.i .i64 0)), .cap0])]
theorem l2_cuts : CutsOk Tryd.prog C (G m) Tryd.f55.ntmps 5 noCut (getBody Tryd.f55) := cuts_by (l := []) (by kernel_rfl) all_nil
theorem l2_ev : funA C Tryd.prog (G m) (gR4 m) noCut (gcN 5 [0]) (gcN 5 [0]) Tryd.f55 [.ptr 0 0] l2in_h (isOut l2_a l2_h) = some () := by kernel_rfl
theorem l2_ok : EOk Tryd.prog C (G m) 55 (pointE [.ptr 0 0] l2in_h l2_a l2_h noneE) := pointE_ok C_ok mixed (gR4_ok m) Tryd.func55 (c := (getBody Tryd.f55)) (by kernel_rfl) (by kernel_rfl) (NR := gcN 5 [0]) (NP := gcN 5 [0]) gcN_ok gcN_ok (l2_cuts m) (l2_ev m) noneE_ok
noncomputable def gR6 (m : Int) : Gam T := (gR5 m).addE 55 (pointE [.ptr 0 0] l2in_h l2_a l2_h noneE)
theorem gR6_ok : GOk Tryd.prog C (G m) (gR6 m) := (gR5_ok m).addE (l2_ok m)
def specRoot1 : SpecSpec := ⟨⟨⟨[]⟩⟩, 2, 0, 0, 0, [], false, 0, [⟨⟨⟨[115, 121, 115, 116, 101, 109]⟩⟩, 1, 5, 0, 0, [], false, 0, []⟩, ⟨⟨⟨[112, 111, 114, 116]⟩⟩, 3, 0, 0, 0, [], false, 4, [⟨⟨⟨[117, 112]⟩⟩, 1, 3, 0, 0, [], false, 0, []⟩, ⟨⟨⟨[99, 108, 97, 115, 115]⟩⟩, 3, 0, 0, 0, [], false, 8, [⟨⟨⟨[113, 117, 97, 110, 116, 117, 109]⟩⟩, 1, 1, 1500, 100000, [], true, 0, []⟩, ⟨⟨⟨[114, 97, 116, 101]⟩⟩, 1, 2, 0, 1000000, [], true, 0, []⟩, ⟨⟨⟨[98, 117, 114, 115, 116]⟩⟩, 1, 1, 1500, 1000000, [], true, 0, []⟩, ⟨⟨⟨[108, 105, 109, 105, 116]⟩⟩, 1, 1, 1, 64, [], true, 0, []⟩]⟩, ⟨⟨⟨[114, 117, 108, 101]⟩⟩, 3, 0, 0, 0, [], false, 16, [⟨⟨⟨[108, 111, 119]⟩⟩, 1, 1, 0, 65535, [], true, 0, []⟩, ⟨⟨⟨[104, 105, 103, 104]⟩⟩, 1, 1, 0, 65535, [], true, 0, []⟩, ⟨⟨⟨[99, 108, 97, 115, 115]⟩⟩, 1, 6, 0, 0, [], true, 0, []⟩]⟩, ⟨⟨⟨[100, 101, 102, 97, 117, 108, 116]⟩⟩, 1, 6, 0, 0, [], true, 0, []⟩]⟩]⟩
def specRoot2 : SpecSpec := ⟨⟨⟨[]⟩⟩, 2, 0, 0, 0, [], false, 0, [⟨⟨⟨[115, 121, 115, 116, 101, 109]⟩⟩, 1, 5, 0, 0, [], false, 0, []⟩, ⟨⟨⟨[112, 111, 114, 116]⟩⟩, 3, 0, 0, 0, [], false, 4, [⟨⟨⟨[117, 112]⟩⟩, 1, 3, 0, 0, [], false, 0, []⟩, ⟨⟨⟨[99, 108, 97, 115, 115]⟩⟩, 3, 0, 0, 0, [], false, 8, [⟨⟨⟨[113, 117, 97, 110, 116, 117, 109]⟩⟩, 1, 1, 1500, 100000, [], true, 0, []⟩, ⟨⟨⟨[114, 97, 116, 101]⟩⟩, 1, 2, 0, 1000000, [], true, 0, []⟩, ⟨⟨⟨[98, 117, 114, 115, 116]⟩⟩, 1, 1, 1500, 1000000, [], true, 0, []⟩, ⟨⟨⟨[108, 105, 109, 105, 116]⟩⟩, 1, 1, 1, 64, [], true, 0, []⟩, ⟨⟨⟨[115, 104, 97, 112, 101, 100]⟩⟩, 1, 3, 0, 0, [], true, 0, []⟩]⟩, ⟨⟨⟨[114, 117, 108, 101]⟩⟩, 3, 0, 0, 0, [], false, 16, [⟨⟨⟨[108, 111, 119]⟩⟩, 1, 1, 0, 65535, [], true, 0, []⟩, ⟨⟨⟨[104, 105, 103, 104]⟩⟩, 1, 1, 0, 65535, [], true, 0, []⟩, ⟨⟨⟨[99, 108, 97, 115, 115]⟩⟩, 1, 6, 0, 0, [], true, 0, []⟩]⟩, ⟨⟨⟨[100, 101, 102, 97, 117, 108, 116]⟩⟩, 1, 6, 0, 0, [], true, 0, []⟩, ⟨⟨⟨[107, 105, 110, 100]⟩⟩, 1, 4, 0, 0, [⟨⟨[101, 100, 103, 101]⟩⟩, ⟨⟨[99, 111, 114, 101]⟩⟩, ⟨⟨[108, 97, 98]⟩⟩], false, 0, []⟩]⟩]⟩
def specRoot3 : SpecSpec := ⟨⟨⟨[]⟩⟩, 2, 0, 0, 0, [], false, 0, [⟨⟨⟨[115, 121, 115, 116, 101, 109]⟩⟩, 1, 5, 0, 0, [], false, 0, []⟩, ⟨⟨⟨[112, 111, 114, 116]⟩⟩, 3, 0, 0, 0, [], false, 4, [⟨⟨⟨[117, 112]⟩⟩, 1, 3, 0, 0, [], false, 0, []⟩, ⟨⟨⟨[99, 108, 97, 115, 115]⟩⟩, 3, 0, 0, 0, [], false, 8, [⟨⟨⟨[113, 117, 97, 110, 116, 117, 109]⟩⟩, 1, 1, 1500, 100000, [], true, 0, []⟩, ⟨⟨⟨[114, 97, 116, 101]⟩⟩, 1, 2, 0, 1000000, [], true, 0, []⟩, ⟨⟨⟨[98, 117, 114, 115, 116]⟩⟩, 1, 1, 1500, 1000000, [], true, 0, []⟩, ⟨⟨⟨[100, 101, 112, 116, 104]⟩⟩, 1, 1, 1, 64, [], true, 0, []⟩, ⟨⟨⟨[115, 104, 97, 112, 101, 100]⟩⟩, 1, 3, 0, 0, [], true, 0, []⟩]⟩, ⟨⟨⟨[114, 117, 108, 101]⟩⟩, 3, 0, 0, 0, [], false, 16, [⟨⟨⟨[108, 111, 119]⟩⟩, 1, 1, 0, 65535, [], true, 0, []⟩, ⟨⟨⟨[104, 105, 103, 104]⟩⟩, 1, 1, 0, 65535, [], true, 0, []⟩, ⟨⟨⟨[99, 108, 97, 115, 115]⟩⟩, 1, 6, 0, 0, [], true, 0, []⟩]⟩, ⟨⟨⟨[100, 101, 102, 97, 117, 108, 116]⟩⟩, 1, 6, 0, 0, [], true, 0, []⟩, ⟨⟨⟨[107, 105, 110, 100]⟩⟩, 1, 4, 0, 0, [⟨⟨[101, 100, 103, 101]⟩⟩, ⟨⟨[99, 111, 114, 101]⟩⟩, ⟨⟨[108, 97, 98]⟩⟩], false, 0, []⟩]⟩, ⟨⟨⟨[119, 97, 105, 116]⟩⟩, 1, 1, 1, 1000, [], false, 0, []⟩]⟩
def specZero : SpecSpec := ⟨⟨⟨[]⟩⟩, 0, 0, 0, 0, [], false, 0, []⟩
def sp_spec_Root : Spec T Int (SpecSpec × Int) where
  dcI a H := match a, H with
    | [.v (.i .i64 v)], [] => some v
    | _, _ => none
  ecA := fun v => [.v (.i .i64 v)]
  ecH := fun _ => []
  dcO o := match o with
    | .ret (.tup [.agg [.v (.s a0), .v (.i .i64 a1), .v (.i .i64 a2), .v (.i .u64 a3), .v (.i .u64 a4), .v (.sl 9 a5), .v (.b a6), .v (.i .i64 a7), .v (.sl 29 a8)], .v (.i .i64 e)]) [] => some (⟨a0, a1, a2, a3, a4, a5, a6, a7, a8⟩, e)
    | _ => none
  ecO := fun x => .ret (.tup [.agg [.v (.s x.1.name), .v (.i .i64 x.1.kind), .v (.i .i64 x.1.type_), .v (.i .u64 x.1.min), .v (.i .u64 x.1.max), .v (.sl 9 x.1.names), .v (.b x.1.must), .v (.i .i64 x.1.most), .v (.sl 29 x.1.kids)], .v (.i .i64 x.2)]) []
  goO := fun _ x k => k (.ret (.tup [.agg [.v (.s x.1.name), .v (.i .i64 x.1.kind), .v (.i .i64 x.1.type_), .v (.i .u64 x.1.min), .v (.i .u64 x.1.max), .v (.sl 9 x.1.names), .v (.b x.1.must), .v (.i .i64 x.1.most), .v (.sl 29 x.1.kids)], .v (.i .i64 x.2)]) [])
theorem sp_spec_Root_ok : SpecOk sp_spec_Root := by
  refine ⟨fun a H i h => ?_, fun o x h => ?_, fun R e k => by kernel_rfl⟩
  · simp only [sp_spec_Root] at h ⊢; split at h <;> first | (cases h; exact ⟨rfl, rfl⟩) | (cases h; done)
  · simp only [sp_spec_Root] at h ⊢; split at h <;> first | (cases h; rfl) | (cases h; done)
theorem rdAll_ok {nB : Nat} : ∀ (l : List (Nat × Nat)), NormOk C (G m) nB (rdAll l)
  | [] => andN_ok (rdS_ok C_ok) (andN_ok (slS_ok C_ok) (slS_ok C_ok))
  | p :: l => andN_ok (rdC_ok C_ok) (rdAll_ok l)
def oneRoot (v : Int) (s : SpecSpec) (i : Int) : Option (SpecSpec × Int) := if i = v then some (s, 0) else none
theorem cRR1_ok : CutOk Tryd.prog C (G m) Tryd.f20.ntmps 0 (pieceOf (.blk 0) (getBody Tryd.f20)) (luR m (gR4 m) Tryd.f20 0 3) := loopU_ok C_ok (gR4_ok m) mixed (cuts_by (l := []) (by kernel_rfl) all_nil) 3
theorem root1_ev : funA C Tryd.prog (G m) (gR4 m) (cRR m (gR4 m)) (andN (rdAll [(2, 17), (2, 26), (1, 17)]) (gcN 0 [0])) (gcN 0 [0]) Tryd.f20 [.v (.i .i64 1)] [] sp_spec_Root.dcO = some (specRoot1, 0) := by kernel_rfl
theorem root1_cuts : CutsOk Tryd.prog C (G m) Tryd.f20.ntmps 0 (cRR m (gR4 m)) (getBody Tryd.f20) := cuts_by (l := [(pieceOf (.blk 0) (getBody Tryd.f20), luR m (gR4 m) Tryd.f20 0 3)]) (by kernel_rfl) (all_cons (cRR1_ok m) all_nil)
theorem root1_ok : EOk Tryd.prog C (G m) 20 (sp_spec_Root.entry (oneRoot 1 specRoot1)) :=
  Spec.okW sp_spec_Root_ok C_ok mixed (gR4_ok m) (cut := cRR m (gR4 m)) (NR := (andN (rdAll [(2, 17), (2, 26), (1, 17)]) (gcN 0 [0]))) (NP := (gcN 0 [0])) (nB := 0) Tryd.func20 (c := (getBody Tryd.f20)) (by kernel_rfl) (by kernel_rfl) (fun i => by kernel_rfl) (andN_ok (rdAll_ok m _) gcN_ok) gcN_ok (root1_cuts m) fun i x h => by
    unfold oneRoot at h
    split at h
    · rename_i e; subst e; rw [← h]; exact root1_ev m
    · cases h
theorem cRR2_ok : CutOk Tryd.prog C (G m) Tryd.f20.ntmps 0 (pieceOf (.blk 0) (getBody Tryd.f20)) (luR m (gR5 m) Tryd.f20 0 3) := loopU_ok C_ok (gR5_ok m) mixed (cuts_by (l := []) (by kernel_rfl) all_nil) 3
theorem root2_ev : funA C Tryd.prog (G m) (gR5 m) (cRR m (gR5 m)) (andN (rdAll [(7, 17), (7, 26), (1, 17)]) (gcN 0 [0])) (gcN 0 [0]) Tryd.f20 [.v (.i .i64 2)] [] sp_spec_Root.dcO = some (specRoot2, 0) := by kernel_rfl
theorem root2_cuts : CutsOk Tryd.prog C (G m) Tryd.f20.ntmps 0 (cRR m (gR5 m)) (getBody Tryd.f20) := cuts_by (l := [(pieceOf (.blk 0) (getBody Tryd.f20), luR m (gR5 m) Tryd.f20 0 3)]) (by kernel_rfl) (all_cons (cRR2_ok m) all_nil)
theorem root2_ok : EOk Tryd.prog C (G m) 20 (sp_spec_Root.entry (oneRoot 2 specRoot2)) :=
  Spec.okW sp_spec_Root_ok C_ok mixed (gR5_ok m) (cut := cRR m (gR5 m)) (NR := (andN (rdAll [(7, 17), (7, 26), (1, 17)]) (gcN 0 [0]))) (NP := (gcN 0 [0])) (nB := 0) Tryd.func20 (c := (getBody Tryd.f20)) (by kernel_rfl) (by kernel_rfl) (fun i => by kernel_rfl) (andN_ok (rdAll_ok m _) gcN_ok) gcN_ok (root2_cuts m) fun i x h => by
    unfold oneRoot at h
    split at h
    · rename_i e; subst e; rw [← h]; exact root2_ev m
    · cases h
theorem cRR3_ok : CutOk Tryd.prog C (G m) Tryd.f20.ntmps 0 (pieceOf (.blk 0) (getBody Tryd.f20)) (luR m (gR6 m) Tryd.f20 0 3) := loopU_ok C_ok (gR6_ok m) mixed (cuts_by (l := []) (by kernel_rfl) all_nil) 3
theorem root3_ev : funA C Tryd.prog (G m) (gR6 m) (cRR m (gR6 m)) (andN (rdAll [(7, 17), (7, 26), (9, 17)]) (gcN 0 [0])) (gcN 0 [0]) Tryd.f20 [.v (.i .i64 3)] [] sp_spec_Root.dcO = some (specRoot3, 0) := by kernel_rfl
theorem root3_cuts : CutsOk Tryd.prog C (G m) Tryd.f20.ntmps 0 (cRR m (gR6 m)) (getBody Tryd.f20) := cuts_by (l := [(pieceOf (.blk 0) (getBody Tryd.f20), luR m (gR6 m) Tryd.f20 0 3)]) (by kernel_rfl) (all_cons (cRR3_ok m) all_nil)
theorem root3_ok : EOk Tryd.prog C (G m) 20 (sp_spec_Root.entry (oneRoot 3 specRoot3)) :=
  Spec.okW sp_spec_Root_ok C_ok mixed (gR6_ok m) (cut := cRR m (gR6 m)) (NR := (andN (rdAll [(7, 17), (7, 26), (9, 17)]) (gcN 0 [0]))) (NP := (gcN 0 [0])) (nB := 0) Tryd.func20 (c := (getBody Tryd.f20)) (by kernel_rfl) (by kernel_rfl) (fun i => by kernel_rfl) (andN_ok (rdAll_ok m _) gcN_ok) gcN_ok (root3_cuts m) fun i x h => by
    unfold oneRoot at h
    split at h
    · rename_i e; subst e; rw [← h]; exact root3_ev m
    · cases h
def errRoot (v : Int) : Option (SpecSpec × Int) := bif decide (v < 1) then some (specZero, 28) else bif decide (v > 3) then some (specZero, 28) else none
theorem rootE_cuts : CutsOk Tryd.prog C (G m) Tryd.f20.ntmps 0 (addCut noCut (.reg 3) cutNone) (getBody Tryd.f20) := cuts_by (l := [(pieceOf (.reg 3) (getBody Tryd.f20), cutNone)]) (by kernel_rfl) (all_cons cutNone_ok all_nil)
theorem rootE_ev (i : Int) : funA C Tryd.prog (G m) (gR4 m) (addCut noCut (.reg 3) cutNone) (andN (rdAll [(2, 17), (2, 26), (1, 17)]) (gcN 0 [0])) (gcN 0 [0]) Tryd.f20 [.v (.i .i64 i)] [] sp_spec_Root.dcO = errRoot i := by kernel_rfl
theorem rootE_ok : EOk Tryd.prog C (G m) 20 (sp_spec_Root.entry errRoot) :=
  Spec.ok sp_spec_Root_ok C_ok mixed (gR4_ok m) (cut := addCut noCut (.reg 3) cutNone) (NR := (andN (rdAll [(2, 17), (2, 26), (1, 17)]) (gcN 0 [0]))) (NP := (gcN 0 [0])) (nB := 0) Tryd.func20 (c := (getBody Tryd.f20)) (by kernel_rfl) (by kernel_rfl) (fun i => by kernel_rfl) (andN_ok (rdAll_ok m _) gcN_ok) gcN_ok (rootE_cuts m) (rootE_ev m)
/-- What spec.Root comes to. -/
def spec_Root (v : Int) : Option (SpecSpec × Int) := if v = 1 then some (specRoot1, 0) else if v = 2 then some (specRoot2, 0) else if v = 3 then some (specRoot3, 0) else some (specZero, 28)
theorem ok_spec_Root : EOk Tryd.prog C (G m) 20 (sp_spec_Root.entry spec_Root) := by
  refine Spec.ok_or (root1_ok m) (f2 := fun v => if v = 1 then none else spec_Root v) ?_ fun i x h => ?_
  · refine Spec.ok_or (root2_ok m) (f2 := fun v => if v = 1 then none else if v = 2 then none else spec_Root v) ?_ fun i x h => ?_
    · refine Spec.ok_or (root3_ok m) (rootE_ok m) fun i x h => ?_
      split at h
      · cases h
      · split at h
        · cases h
        · rename_i h1 h2
          unfold spec_Root at h
          rw [if_neg h1, if_neg h2] at h
          split at h
          · rename_i h3; exact .inl (by unfold oneRoot; rw [if_pos h3]; exact h)
          · rename_i h3
            refine .inr ?_
            unfold errRoot
            by_cases h4 : i < 1
            · simp only [h4, decide_true, cond_true]; exact h
            · have : i > 3 := by omega
              simp only [h4, this, decide_true, decide_false, cond_true, cond_false]; exact h
    · split at h
      · cases h
      · rename_i h1
        by_cases h2 : i = 2
        · refine .inl ?_
          unfold oneRoot; rw [if_pos h2]
          unfold spec_Root at h; rw [if_neg h1, if_pos h2] at h; exact h
        · exact .inr (by simp only [if_neg h1, if_neg h2]; exact h)
  · by_cases h1 : i = 1
    · refine .inl ?_
      unfold oneRoot; rw [if_pos h1]
      unfold spec_Root at h; rw [if_pos h1] at h; exact h
    · exact .inr (by simp only [if_neg h1]; exact h)
end Go.Proofs.YtooefkbecoopdaaDoor.Ev.Seat

