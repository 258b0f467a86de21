import Derived.Test.YtfoeekaanngoiaaDoorEvThree
import Derived.Shelf.Unicode.DecodeAny
import Derived.Test.YtfoeekaanngoiaaDoorProg
import Derived.Test.YtfoeekaanngoiaaDoorShelf
set_option linter.unusedVariables false
set_option linter.unusedSimpArgs false
namespace Go.Proofs.YtfoeekaanngoiaaDoor.Ev.Seat
open Go Ev Go.Proofs

structure LexToken where
  kind : Int
  text : ByteArray
  at__line : Int
  at__col : Int
structure Tollbarref05S where
  text : ByteArray
  rune : Bool
  at__line : Int
  at__col : Int
structure Tollbarref05T where
  kind : Int
  text : ByteArray
  at__line : Int
  at__col : Int
def T (t : Nat) : Type := bif Nat.beq t 5 then Int else bif Nat.beq t 9 then ByteArray else bif Nat.beq t 37 then LexToken else bif Nat.beq t 50 then Tollbarref05S else bif Nat.beq t 51 then Tollbarref05T else Unit
def co5 : Co T Int where
  size := 1
  enc x := [.i .u8 x]
  dec cs := match cs with
    | [.i .u8 a0] => some a0
    | _ => none
  len _ := rfl
  fin cs x h := by
    split at h
    · cases h
      exact ⟨.rfl, trivial⟩
    · cases h
  pos := by decide
def co9 : Co T ByteArray where
  size := 1
  enc x := [.s x]
  dec cs := match cs with
    | [.s a0] => some a0
    | _ => none
  len _ := rfl
  fin cs x h := by
    split at h
    · cases h
      exact ⟨.rfl, trivial⟩
    · cases h
  pos := by decide
def co37 : Co T LexToken where
  size := 4
  enc x := [.i .i64 x.kind, .s x.text, .i .i64 x.at__line, .i .i64 x.at__col]
  dec cs := match cs with
    | [.i .i64 a0, .s a1, .i .i64 a2, .i .i64 a3] => some ⟨a0, a1, a2, a3⟩
    | _ => none
  len _ := rfl
  fin cs x h := by
    split at h
    · cases h
      exact ⟨.rfl, .rfl, .rfl, .rfl, trivial⟩
    · cases h
  pos := by decide
def co50 : Co T Tollbarref05S where
  size := 4
  enc x := [.s x.text, .b x.rune, .i .i64 x.at__line, .i .i64 x.at__col]
  dec cs := match cs with
    | [.s a0, .b a1, .i .i64 a2, .i .i64 a3] => some ⟨a0, a1, a2, a3⟩
    | _ => none
  len _ := rfl
  fin cs x h := by
    split at h
    · cases h
      exact ⟨.rfl, .rfl, .rfl, .rfl, trivial⟩
    · cases h
  pos := by decide
def co51 : Co T Tollbarref05T where
  size := 4
  enc x := [.i .i64 x.kind, .s x.text, .i .i64 x.at__line, .i .i64 x.at__col]
  dec cs := match cs with
    | [.i .i64 a0, .s a1, .i .i64 a2, .i .i64 a3] => some ⟨a0, a1, a2, a3⟩
    | _ => none
  len _ := rfl
  fin cs x h := by
    split at h
    · cases h
      exact ⟨.rfl, .rfl, .rfl, .rfl, trivial⟩
    · cases h
  pos := by decide
def co (t : Nat) : Co T (T t) := if h : t = 5 then h ▸ co5 else if h : t = 9 then h ▸ co9 else if h : t = 37 then h ▸ co37 else if h : t = 50 then h ▸ co50 else if h : t = 51 then h ▸ co51 else coNone T (T t)
def C : Cdc T := mkC co (fun t => Nat.beq t 5 || Nat.beq t 9 || Nat.beq t 37 || Nat.beq t 50 || Nat.beq t 51) 5 (fun n => (n : Int)) (fun (n : Int) => n)
theorem C_ok : CdcOk C := mkC_ok (fun _ => rfl) (fun _ => rfl)
def firstTab : List (V T) := (List.range 256).map fun c => .i .u8 (Lib.firstT c)
def accTab : List (V T) := (List.range 32).map fun c => bif Nat.beq (c % 2) 0 then .i .u8 (Lib.accLo (c / 2)) else .i .u8 (Lib.accHi (c / 2))
def G (m : Int) : Nat → Option (List (V T)) := fun g => bif Nat.beq g 0 then some firstTab else bif Nat.beq g 1 then some accTab else bif Nat.beq g 2 then some [.i .i64 m] else none
theorem mixed : Tryd.prog.follows .mixedOrders = true := by kernel_rfl
end Go.Proofs.YtfoeekaanngoiaaDoor.Ev.Seat


namespace Go.Proofs.YtfoeekaanngoiaaDoor.Ev
open Go Go.RowKit
variable {T : Nat → Type} {C : Cdc T} {σ : Lk} {H : List (AObj T)} {w : World}
theorem rep_str {x : ByteArray} {v : Value} (h : RepA C σ H w (.v (.s x)) v) : v = .string x := by
  have h' : RepV C (Cell C σ H w) (.s x) v := h
  cases h'; rfl
theorem rep_int {k : IntKind} {n : Int} {v : Value} (h : RepA C σ H w (.v (.i k n)) v) : v = .int k n := by
  have h' : RepV C (Cell C σ H w) (.i k n) v := h
  cases h'; rfl
theorem rep_tup2 {a b : V T} {x y : Value} (h1 : RepV C (Cell C σ H w) a x) (h2 : RepV C (Cell C σ H w) b y) : RepA C σ H w (.tup [.v a, .v b]) (.tuple #[x, y]) :=
  ⟨#[x, y], rfl, x, [y], rfl, h1, y, [], rfl, h2, rfl⟩
theorem repL_ss {x y : ByteArray} {vs : List Value} (h : RepL C σ H w [.v (.s x), .v (.s y)] vs) : vs = [.string x, .string y] := by
  obtain ⟨a, l, h1, h2, b, m, h3, h4, h5⟩ := h
  have h5' : m = [] := h5
  rw [h1, h3, h5', rep_str h2, rep_str h4]
theorem repL_s {x : ByteArray} {vs : List Value} (h : RepL C σ H w [.v (.s x)] vs) : vs = [.string x] := by
  obtain ⟨a, l, h1, h2, h5⟩ := h
  have h5' : l = [] := h5
  rw [h1, h5', rep_str h2]
theorem repL_si {x : ByteArray} {k : IntKind} {y : Int} {vs : List Value} (h : RepL C σ H w [.v (.s x), .v (.i k y)] vs) : vs = [.string x, .int k y] := by
  obtain ⟨a, l, h1, h2, b, m, h3, h4, h5⟩ := h
  have h5' : m = [] := h5
  rw [h1, h3, h5', rep_str h2, rep_int h4]
end Go.Proofs.YtfoeekaanngoiaaDoor.Ev
namespace Go.Proofs.YtfoeekaanngoiaaDoor.Ev.Seat
open Go Ev Go.Proofs Go.RowKit
def spSSS : Spec T (ByteArray × ByteArray) ByteArray where
  dcI a H := match a, H with
    | [.v (.s x), .v (.s y)], [] => some (x, y)
    | _, _ => none
  ecA := fun (x, y) => [.v (.s x), .v (.s y)]
  ecH := fun _ => []
  dcO o := match o with
    | .ret (.v (.s a)) [] => some a
    | _ => none
  ecO := fun a => .ret (.v (.s a)) []
  goO := fun _ a k => k (.ret (.v (.s a)) [])
theorem spSSS_ok : SpecOk spSSS := by
  refine ⟨fun a H i h => ?_, fun o x h => ?_, fun R e k => by kernel_rfl⟩
  · simp only [spSSS] at h ⊢; split at h <;> first | (cases h; exact ⟨rfl, rfl⟩) | (cases h; done)
  · simp only [spSSS] at h ⊢; split at h <;> first | (cases h; rfl) | (cases h; done)
def spSSB : Spec T (ByteArray × ByteArray) Bool where
  dcI a H := match a, H with
    | [.v (.s x), .v (.s y)], [] => some (x, y)
    | _, _ => none
  ecA := fun (x, y) => [.v (.s x), .v (.s y)]
  ecH := fun _ => []
  dcO o := match o with
    | .ret (.v (.b a)) [] => some a
    | _ => none
  ecO := fun a => .ret (.v (.b a)) []
  goO := fun _ a k => k (.ret (.v (.b a)) [])
theorem spSSB_ok : SpecOk spSSB := by
  refine ⟨fun a H i h => ?_, fun o x h => ?_, fun R e k => by kernel_rfl⟩
  · simp only [spSSB] at h ⊢; split at h <;> first | (cases h; exact ⟨rfl, rfl⟩) | (cases h; done)
  · simp only [spSSB] at h ⊢; split at h <;> first | (cases h; rfl) | (cases h; done)
def spSSI : Spec T (ByteArray × ByteArray) Int where
  dcI a H := match a, H with
    | [.v (.s x), .v (.s y)], [] => some (x, y)
    | _, _ => none
  ecA := fun (x, y) => [.v (.s x), .v (.s y)]
  ecH := fun _ => []
  dcO o := match o with
    | .ret (.v (.i .i64 a)) [] => some a
    | _ => none
  ecO := fun a => .ret (.v (.i .i64 a)) []
  goO := fun _ a k => k (.ret (.v (.i .i64 a)) [])
theorem spSSI_ok : SpecOk spSSI := by
  refine ⟨fun a H i h => ?_, fun o x h => ?_, fun R e k => by kernel_rfl⟩
  · simp only [spSSI] at h ⊢; split at h <;> first | (cases h; exact ⟨rfl, rfl⟩) | (cases h; done)
  · simp only [spSSI] at h ⊢; split at h <;> first | (cases h; rfl) | (cases h; done)
def spSB : Spec T (ByteArray) Bool where
  dcI a H := match a, H with
    | [.v (.s x)], [] => some x
    | _, _ => none
  ecA := fun x => [.v (.s x)]
  ecH := fun _ => []
  dcO o := match o with
    | .ret (.v (.b a)) [] => some a
    | _ => none
  ecO := fun a => .ret (.v (.b a)) []
  goO := fun _ a k => k (.ret (.v (.b a)) [])
theorem spSB_ok : SpecOk spSB := by
  refine ⟨fun a H i h => ?_, fun o x h => ?_, fun R e k => by kernel_rfl⟩
  · simp only [spSB] at h ⊢; split at h <;> first | (cases h; exact ⟨rfl, rfl⟩) | (cases h; done)
  · simp only [spSB] at h ⊢; split at h <;> first | (cases h; rfl) | (cases h; done)
def spSII : Spec T (ByteArray) (Int × Int) where
  dcI a H := match a, H with
    | [.v (.s x)], [] => some x
    | _, _ => none
  ecA := fun x => [.v (.s x)]
  ecH := fun _ => []
  dcO o := match o with
    | .ret (.tup [.v (.i .i32 a0), .v (.i .i64 a1)]) [] => some (a0, a1)
    | _ => none
  ecO := fun (a0, a1) => .ret (.tup [.v (.i .i32 a0), .v (.i .i64 a1)]) []
  goO := fun _ (a0, a1) k => k (.ret (.tup [.v (.i .i32 a0), .v (.i .i64 a1)]) [])
theorem spSII_ok : SpecOk spSII := by
  refine ⟨fun a H i h => ?_, fun o x h => ?_, fun R e k => by kernel_rfl⟩
  · simp only [spSII] at h ⊢; split at h <;> first | (cases h; exact ⟨rfl, rfl⟩) | (cases h; done)
  · simp only [spSII] at h ⊢; split at h <;> first | (cases h; rfl) | (cases h; done)
def spSUI : Spec T (ByteArray × Int) Int where
  dcI a H := match a, H with
    | [.v (.s x), .v (.i .u8 y)], [] => some (x, y)
    | _, _ => none
  ecA := fun (x, y) => [.v (.s x), .v (.i .u8 y)]
  ecH := fun _ => []
  dcO o := match o with
    | .ret (.v (.i .i64 a)) [] => some a
    | _ => none
  ecO := fun a => .ret (.v (.i .i64 a)) []
  goO := fun _ a k => k (.ret (.v (.i .i64 a)) [])
theorem spSUI_ok : SpecOk spSUI := by
  refine ⟨fun a H i h => ?_, fun o x h => ?_, fun R e k => by kernel_rfl⟩
  · simp only [spSUI] at h ⊢; split at h <;> first | (cases h; exact ⟨rfl, rfl⟩) | (cases h; done)
  · simp only [spSUI] at h ⊢; split at h <;> first | (cases h; rfl) | (cases h; done)
def asciiB (c : ByteArray) : Bool := c.data.toList.all fun b => decide (b.toNat < 128)
theorem asciiB_ok {c : ByteArray} (h : asciiB c = true) : ∀ (j : Nat) b, c.data.toList[j]? = some b → b.toNat < 128 := by
  intro j b hb
  have := List.all_eq_true.1 h b (List.mem_of_getElem? hb)
  simpa using this
theorem utf8Tabs {C0 : Cdc T} {σ : Lk} {H : List (AObj T)} {w : World} {m : Int} (hR : Rp C0 σ H w (G m)) : Lib.Utf8Tabs 0 1 w := by
  refine ⟨fun c hc => ?_, fun i hi => ⟨?_, ?_⟩⟩
  · obtain ⟨y, h1, h2⟩ := hR.glob 0 firstTab rfl c (.i .u8 (Lib.firstT c)) (by simp [firstTab, hc])
    cases h2
    simpa using h1.2
  · obtain ⟨y, h1, h2⟩ := hR.glob 1 accTab rfl (2 * i) (.i .u8 (Lib.accLo i)) (by simp [accTab, show 2 * i < 32 by omega])
    cases h2
    simpa using h1.2
  · obtain ⟨y, h1, h2⟩ := hR.glob 1 accTab rfl (2 * i + 1) (.i .u8 (Lib.accHi i)) (by simp [accTab, show 2 * i + 1 < 32 by omega, show (2 * i + 1) / 2 = i by omega]; rfl)
    cases h2
    simpa using h1.2
def strings_TrimLeft (κ : Nat) (x : ByteArray) (y : ByteArray) : Option ByteArray := bif (asciiB y) && (Nat.blt y.size 4294967281) then some ⟨(Lib.trimLeftS x.data.toList y.data.toList).toArray⟩ else none
theorem ok_strings_TrimLeft (κ : Nat) (m : Int) : EOk Tryd.prog C (G m) 55 (spSSS.entry fun (x, y) => strings_TrimLeft κ x y) := by
  refine Spec.lib spSSS_ok (callable Tryd.func55 (c := getBody Tryd.f55) (by kernel_rfl) (by kernel_rfl)) (fun _ => rfl) fun i q hx σ w vs hR ha => ?_
  obtain ⟨x, y⟩ := i
  have hvs := repL_ss ha
  subst hvs
  simp only [strings_TrimLeft] at hx
  cases hb : (asciiB y) && (Nat.blt y.size 4294967281)
  · rw [hb] at hx; cases hx
  · rw [hb] at hx
    cases hx
    simp only [Bool.and_eq_true] at hb
    obtain ⟨h0, h1⟩ := hb
    refine ⟨_, rfl, (Any.strings_TrimLeft_laid Tryd.lays161 (by kernel_rfl) x y w (Nat.le_of_ble_eq_true h1) (asciiB_ok h0)).mono fun e w' ⟨h1, h2⟩ => ⟨h2, _, h1, .s _⟩⟩
def strings_Trim (κ : Nat) (x : ByteArray) (y : ByteArray) : Option ByteArray := bif (asciiB y) && (Nat.blt y.size 4294967281) && (Nat.ble x.size maxI) then some ⟨(Lib.trimS x.data.toList y.data.toList).toArray⟩ else none
theorem ok_strings_Trim (κ : Nat) (m : Int) : EOk Tryd.prog C (G m) 28 (spSSS.entry fun (x, y) => strings_Trim κ x y) := by
  refine Spec.lib spSSS_ok (callable Tryd.func28 (c := getBody Tryd.f28) (by kernel_rfl) (by kernel_rfl)) (fun _ => rfl) fun i q hx σ w vs hR ha => ?_
  obtain ⟨x, y⟩ := i
  have hvs := repL_ss ha
  subst hvs
  simp only [strings_Trim] at hx
  cases hb : (asciiB y) && (Nat.blt y.size 4294967281) && (Nat.ble x.size maxI)
  · rw [hb] at hx; cases hx
  · rw [hb] at hx
    cases hx
    simp only [Bool.and_eq_true] at hb
    obtain ⟨⟨h0, h1⟩, h2⟩ := hb
    refine ⟨_, rfl, (Any.strings_Trim_laid Tryd.lays160 (by kernel_rfl) x y w (Nat.le_of_ble_eq_true h2) (Nat.le_of_ble_eq_true h1) (asciiB_ok h0)).mono fun e w' ⟨h1, h2⟩ => ⟨h2, _, h1, .s _⟩⟩
def strings_Contains (κ : Nat) (x : ByteArray) (y : ByteArray) : Option Bool := bif (Nat.blt x.size 4294967281) then some (Lib.contains x.data.toList y.data.toList) else none
theorem ok_strings_Contains (κ : Nat) (m : Int) : EOk Tryd.prog C (G m) 30 (spSSB.entry fun (x, y) => strings_Contains κ x y) := by
  refine Spec.lib spSSB_ok (callable Tryd.func30 (c := getBody Tryd.f30) (by kernel_rfl) (by kernel_rfl)) (fun _ => rfl) fun i q hx σ w vs hR ha => ?_
  obtain ⟨x, y⟩ := i
  have hvs := repL_ss ha
  subst hvs
  have hm : w.cell? ⟨2, 0, none⟩ = some (.int .i64 m) := by
    obtain ⟨y, h1, h2⟩ := hR.glob 2 [.i .i64 m] rfl 0 (.i .i64 m) rfl
    cases h2
    exact h1.2
  simp only [strings_Contains] at hx
  cases hb : (Nat.blt x.size 4294967281)
  · rw [hb] at hx; cases hx
  · rw [hb] at hx
    cases hx
    have h0 := hb
    refine ⟨_, rfl, (Tryd.strings_Contains x y m w (Nat.le_of_ble_eq_true h0) hm).mono fun e w' ⟨h1, h2⟩ => ⟨by rw [h2]; exact Below.refl _ _, _, h1, .b _⟩⟩
def strings_Index (κ : Nat) (x : ByteArray) (y : ByteArray) : Option Int := bif (Nat.blt x.size 4294967281) then some (Lib.index x.data.toList y.data.toList) else none
theorem ok_strings_Index (κ : Nat) (m : Int) : EOk Tryd.prog C (G m) 32 (spSSI.entry fun (x, y) => strings_Index κ x y) := by
  refine Spec.lib spSSI_ok (callable Tryd.func32 (c := getBody Tryd.f32) (by kernel_rfl) (by kernel_rfl)) (fun _ => rfl) fun i q hx σ w vs hR ha => ?_
  obtain ⟨x, y⟩ := i
  have hvs := repL_ss ha
  subst hvs
  have hm : w.cell? ⟨2, 0, none⟩ = some (.int .i64 m) := by
    obtain ⟨y, h1, h2⟩ := hR.glob 2 [.i .i64 m] rfl 0 (.i .i64 m) rfl
    cases h2
    exact h1.2
  simp only [strings_Index] at hx
  cases hb : (Nat.blt x.size 4294967281)
  · rw [hb] at hx; cases hx
  · rw [hb] at hx
    cases hx
    have h0 := hb
    refine ⟨_, rfl, (Tryd.strings_Index x y m w (Nat.le_of_ble_eq_true h0) hm).mono fun e w' ⟨h1, h2⟩ => ⟨by rw [h2]; exact Below.refl _ _, _, h1, .i _ _⟩⟩
def strings_IndexByte (κ : Nat) (x : ByteArray) (y : Int) : Option Int := some (Lib.indexByte x.data.toList y.toNat.toUInt8)
theorem ok_strings_IndexByte (κ : Nat) (m : Int) : EOk Tryd.prog C (G m) 40 (spSUI.entry fun (x, y) => strings_IndexByte κ x y) := by
  refine Spec.lib spSUI_ok (callable Tryd.func40 (c := getBody Tryd.f40) (by kernel_rfl) (by kernel_rfl)) (fun _ => rfl) fun i q hx σ w vs hR ha => ?_
  obtain ⟨x, y⟩ := i
  have hvs := repL_si ha
  subst hvs
  simp only [strings_IndexByte] at hx
  cases hx
  refine ⟨_, rfl, (Tryd.strings_IndexByte x y w).mono fun e w' ⟨h1, h2⟩ => ⟨by rw [h2]; exact Below.refl _ _, _, h1, .i _ _⟩⟩
def unicode_utf8_ValidString (κ : Nat) (x : ByteArray) : Option Bool := bif (Nat.ble x.size maxI) then some (Lib.validD x.data.toList) else none
theorem ok_unicode_utf8_ValidString (κ : Nat) (m : Int) : EOk Tryd.prog C (G m) 53 (spSB.entry fun x => unicode_utf8_ValidString κ x) := by
  refine Spec.lib spSB_ok (callable Tryd.func53 (c := getBody Tryd.f53) (by kernel_rfl) (by kernel_rfl)) (fun _ => rfl) fun x q hx σ w vs hR ha => ?_
  have hvs := repL_s ha
  subst hvs
  have hT := utf8Tabs hR
  simp only [unicode_utf8_ValidString] at hx
  cases hb : (Nat.ble x.size maxI)
  · rw [hb] at hx; cases hx
  · rw [hb] at hx
    cases hx
    have h0 := hb
    refine ⟨_, rfl, (Any.utf8_ValidString Tryd.lays196 x w (Nat.le_of_ble_eq_true h0) hT).mono fun e w' ⟨h1, h2⟩ => ⟨h2, _, h1, .b _⟩⟩
def unicode_utf8_DecodeRuneInString (κ : Nat) (x : ByteArray) : Option (Int × Int) := some (((Lib.decodeGo x).1 : Int), ((Lib.decodeGo x).2 : Int))
theorem ok_unicode_utf8_DecodeRuneInString (κ : Nat) (m : Int) : EOk Tryd.prog C (G m) 23 (spSII.entry fun x => unicode_utf8_DecodeRuneInString κ x) := by
  refine Spec.lib spSII_ok (callable Tryd.func23 (c := getBody Tryd.f23) (by kernel_rfl) (by kernel_rfl)) (fun _ => rfl) fun x q hx σ w vs hR ha => ?_
  have hvs := repL_s ha
  subst hvs
  have hT := utf8Tabs hR
  simp only [unicode_utf8_DecodeRuneInString] at hx
  cases hx
  refine ⟨_, rfl, (Tryd.utf8_DecodeRuneInString x w hT).mono fun e w' ⟨h1, h2⟩ => ⟨h2, _, h1, rep_tup2 (.i _ _) (.i _ _)⟩⟩
noncomputable def gamLib (b : Gam T) (κ : Nat) : Gam T := ((((((((b.addS 55 spSSS (fun (x, y) => strings_TrimLeft κ x y)).addS 28 spSSS (fun (x, y) => strings_Trim κ x y)).addS 30 spSSB (fun (x, y) => strings_Contains κ x y)).addS 32 spSSI (fun (x, y) => strings_Index κ x y)).addS 40 spSUI (fun (x, y) => strings_IndexByte κ x y)).addS 53 spSB (fun x => unicode_utf8_ValidString κ x)).addS 23 spSII (fun x => unicode_utf8_DecodeRuneInString κ x)).addE 56 noEsc)
theorem gamLib_ok {b : Gam T} (κ : Nat) (m : Int) (hb : GOk Tryd.prog C (G m) b) : GOk Tryd.prog C (G m) (gamLib b κ) := ((((((((hb.addS (ok_strings_TrimLeft κ m)).addS (ok_strings_Trim κ m)).addS (ok_strings_Contains κ m)).addS (ok_strings_Index κ m)).addS (ok_strings_IndexByte κ m)).addS (ok_unicode_utf8_ValidString κ m)).addS (ok_unicode_utf8_DecodeRuneInString κ m)).addE (noEsc_ok Tryd.func56 (by kernel_rfl) (by kernel_rfl) (by kernel_rfl) (by kernel_rfl)))
end Go.Proofs.YtfoeekaanngoiaaDoor.Ev.Seat

