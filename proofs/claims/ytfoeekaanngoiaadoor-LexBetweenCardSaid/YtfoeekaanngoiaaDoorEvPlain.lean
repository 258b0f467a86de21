import Derived.Test.YtfoeekaanngoiaaDoorEvSeat
set_option linter.unusedVariables false
set_option linter.unusedSimpArgs false
namespace Go.Proofs.YtfoeekaanngoiaaDoor.Ev.Seat
open Go Ev Go.Proofs
def lex_reader_next.w0 (κ : Nat) (rec : (ByteArray × Int × Int × ByteArray × Nat) → Option ((ByteArray × Int × Int) ⊕ (ByteArray × ByteArray × Int × Int))) (a0 : ByteArray) (a1 : Int) (a2 : Int) (a3 : ByteArray) (a4 : Nat) : Option ((ByteArray × Int × Int) ⊕ (ByteArray × ByteArray × Int × Int)) :=
  bif (Nat.blt a4 (ByteArray.size a3)) then
    bif (decide (((a4 : Nat) : Int) > (0 : Int))) then
      bif (((decide (((a4 : Nat) : Int) ≤ (((ByteArray.size a0) : Nat) : Int))) && (decide ((0 : Int) ≤ (0 : Int)))) && (decide ((0 : Int) ≤ ((a4 : Nat) : Int)))) then
        some (.inr ((ByteArray.extract a0 (Int.toNat (0 : Int)) (Int.toNat ((a4 : Nat) : Int))), a0, a1, a2))
      else
        none
    else
      rec (a0, a1, a2, a3, (a4 + (Go.Utf8.decode a3 a4).2))
  else
    some (.inl (a0, a1, a2))
def lex_reader_next.l0 (κ : Nat) : Nat → (ByteArray × Int × Int × ByteArray × Nat) → Option ((ByteArray × Int × Int) ⊕ (ByteArray × ByteArray × Int × Int))
  | 0, _ => none
  | k + 1, (a0, a1, a2, a3, a4) => lex_reader_next.w0 κ (lex_reader_next.l0 κ k) a0 a1 a2 a3 a4
def lex_reader_next (κ : Nat) (a0 : ByteArray) (a1 : Int) (a2 : Int) : Option (ByteArray × ByteArray × Int × Int) :=
  Option.bind (Ev.Seat.lex_reader_next.l0 κ κ (Prod.mk a0 (Prod.mk a1 (Prod.mk a2 (Prod.mk a0 0))))) fun x0 =>
    match x0 with
    | .inl x1 =>
      some ((x1).fst, (x1).fst, ((x1).snd).fst, ((x1).snd).snd)
    | .inr x2 =>
      some ((x2).fst, ((x2).snd).fst, (((x2).snd).snd).fst, (((x2).snd).snd).snd)
def lex_reader_take.v0 (κ : Nat) (a0 : ByteArray) (a1 : Bool) (a2 : ByteArray) (a3 : Int) (a4 : Int) : Option (ByteArray × ByteArray × Int × Int) :=
  bif a1 then
    some (a0, a2, (Go.IntKind.wrap Go.IntKind.i64 (a3 + (1 : Int))), (1 : Int))
  else
    some (a0, a2, a3, a4)
def lex_reader_take (κ : Nat) (a0 : ByteArray) (a1 : Int) (a2 : Int) : Option (ByteArray × ByteArray × Int × Int) :=
  Option.bind (Ev.Seat.lex_reader_next κ a0 a1 a2) fun x0 =>
    bif (((decide ((((ByteArray.size ((x0).snd).fst) : Nat) : Int) ≤ (((ByteArray.size ((x0).snd).fst) : Nat) : Int))) && (decide ((0 : Int) ≤ (((ByteArray.size (x0).fst) : Nat) : Int)))) && (decide ((((ByteArray.size (x0).fst) : Nat) : Int) ≤ (((ByteArray.size ((x0).snd).fst) : Nat) : Int)))) then
      Option.bind (Ev.Seat.lex_reader_take.v0 κ (x0).fst (Ev.seq (x0).fst (ByteArray.mk (List.toArray ((10 : UInt8) :: [])))) (ByteArray.extract ((x0).snd).fst (Int.toNat (((ByteArray.size (x0).fst) : Nat) : Int)) (Int.toNat (((ByteArray.size ((x0).snd).fst) : Nat) : Int))) (((x0).snd).snd).fst (Go.IntKind.wrap Go.IntKind.i64 ((((x0).snd).snd).snd + (1 : Int)))) fun x1 =>
        some ((x1).fst, ((x1).snd).fst, (((x1).snd).snd).fst, (((x1).snd).snd).snd)
    else
      none
def lex_reader_fail (κ : Nat) (a0 : ByteArray) (a1 : Int) (a2 : Int) : Option (Int × Int × ByteArray × Int × Int) :=
  some (a1, a2, a0, a1, a2)
def strings_Builder_String (κ : Nat)  : Option (ByteArray) :=
  some (ByteArray.mk (List.toArray []))
def strings_Builder_copyCheck.v0 (κ : Nat) (a0 : Bool) : Option (Unit) :=
  bif a0 then
    some ()
  else
    none
def strings_Builder_copyCheck (κ : Nat)  : Option (Unit) :=
  some ()
def strings_Builder_WriteString (κ : Nat) (a0 : ByteArray) : Option (Int × (List Int)) :=
  bif (Nat.ble (List.length (List.map (fun b => (((UInt8.toNat b) : Nat) : Int)) (Array.toList (ByteArray.data a0)))) (Ev.room (0 + 1))) then
    some ((((ByteArray.size a0) : Nat) : Int), (List.map (fun b => (((UInt8.toNat b) : Nat) : Int)) (Array.toList (ByteArray.data a0))))
  else
    none
def lex_reader_digit.v0 (κ : Nat) (a0 : Int) (a1 : ByteArray) (a2 : Int) (a3 : Int) : Option (Int × Bool × ByteArray × Int × Int) :=
  bif (Ev.seq a1 (ByteArray.mk (List.toArray []))) then
    some (a0, Bool.true, a1, a2, a3)
  else
    Option.bind (Ev.Seat.lex_reader_next κ a1 a2 a3) fun x0 =>
      bif (decide ((((ByteArray.size (x0).fst) : Nat) : Int) > (1 : Int))) then
        some (a0, Bool.true, ((x0).snd).fst, (((x0).snd).snd).fst, (((x0).snd).snd).snd)
      else
        some (a0, (decide (a0 < (0 : Int))), ((x0).snd).fst, (((x0).snd).snd).fst, (((x0).snd).snd).snd)
def lex_reader_digit.v2 (κ : Nat) (a0 : Int) (a1 : Bool) (a2 : ByteArray) (a3 : Int) (a4 : Int) : Option ((Int × ByteArray × Int × Int) ⊕ (Int × Int × ByteArray × Int × Int)) :=
  bif a1 then
    some (.inr (a3, a4, a2, a3, a4))
  else
    some (.inl (a0, a2, a3, a4))
def lex_reader_digit (κ : Nat) (a0 : ByteArray) (a1 : Int) (a2 : Int) : Option ((Int × ByteArray × Int × Int) ⊕ (Int × Int × ByteArray × Int × Int)) :=
  Option.bind (Ev.Seat.lex_reader_next κ a0 a1 a2) fun x0 =>
    Option.bind (Ev.Seat.lex_reader_digit.v0 κ (Go.Lib.index (Array.toList (ByteArray.data (ByteArray.mk (List.toArray ((48 : UInt8) :: ((49 : UInt8) :: ((50 : UInt8) :: ((51 : UInt8) :: ((52 : UInt8) :: ((53 : UInt8) :: ((54 : UInt8) :: ((55 : UInt8) :: ((56 : UInt8) :: ((57 : UInt8) :: ((97 : UInt8) :: ((98 : UInt8) :: ((99 : UInt8) :: ((100 : UInt8) :: ((101 : UInt8) :: ((102 : UInt8) :: [])))))))))))))))))))) (Array.toList (ByteArray.data (x0).fst))) ((x0).snd).fst (((x0).snd).snd).fst (((x0).snd).snd).snd) fun x1 =>
      Option.bind (Ev.Seat.lex_reader_digit.v2 κ (x1).fst ((x1).snd).fst (((x1).snd).snd).fst ((((x1).snd).snd).snd).fst ((((x1).snd).snd).snd).snd) fun x2 =>
        match x2 with
        | .inl x3 =>
          Option.bind (Ev.Seat.lex_reader_take κ ((x3).snd).fst (((x3).snd).snd).fst (((x3).snd).snd).snd) fun x4 =>
            some (.inl ((Go.IntKind.wrap Go.IntKind.u8 (x3).fst), ((x4).snd).fst, (((x4).snd).snd).fst, (((x4).snd).snd).snd))
        | .inr x5 =>
          some (.inr ((x5).fst, ((x5).snd).fst, (((x5).snd).snd).fst, ((((x5).snd).snd).snd).fst, ((((x5).snd).snd).snd).snd))
def lex_reader_escape.v0 (κ : Nat) (a0 : ByteArray) (a1 : Int) (a2 : ByteArray) (a3 : Int) (a4 : Int) : Option (Int × Bool × ByteArray × Int × Int) :=
  bif (Ev.seq a0 (ByteArray.mk (List.toArray []))) then
    some (a1, Bool.true, a2, a3, a4)
  else
    some (a1, (decide (a1 < (0 : Int))), a2, a3, a4)
def lex_reader_escape.v2 (κ : Nat) (a0 : Int) (a1 : Bool) (a2 : ByteArray) (a3 : Int) (a4 : Int) : Option ((Int × ByteArray × Int × Int) ⊕ (Int × Int × ByteArray × Int × Int)) :=
  bif a1 then
    some (.inr (a3, a4, a2, a3, a4))
  else
    some (.inl (a0, a2, a3, a4))
def lex_reader_escape (κ : Nat) (a0 : ByteArray) (a1 : Int) (a2 : Int) : Option ((ByteArray × ByteArray × Int × Int) ⊕ (Int × Int × ByteArray × Int × Int)) :=
  Option.bind (Ev.Seat.lex_reader_next κ a0 a1 a2) fun x0 =>
    bif (Ev.seq (x0).fst (ByteArray.mk (List.toArray ((120 : UInt8) :: [])))) then
      Option.bind (Ev.Seat.lex_reader_take κ ((x0).snd).fst (((x0).snd).snd).fst (((x0).snd).snd).snd) fun x6 =>
        Option.bind (Ev.Seat.lex_reader_digit κ ((x6).snd).fst (((x6).snd).snd).fst (((x6).snd).snd).snd) fun x7 =>
          match x7 with
          | .inl x8 =>
            Option.bind (Ev.Seat.lex_reader_digit κ ((x8).snd).fst (((x8).snd).snd).fst (((x8).snd).snd).snd) fun x9 =>
              match x9 with
              | .inl x10 =>
                some (.inl ((ByteArray.mk (List.toArray (List.map (fun x => (UInt8.ofNat (Int.toNat x))) ((Go.IntKind.wrap Go.IntKind.u8 (((BitVec.toNat (HOr.hOr (BitVec.ofInt (Go.IntKind.bits Go.IntKind.u8) (Go.IntKind.wrap Go.IntKind.u8 ((x8).fst * ((2 : Int) ^ (Min.min (Int.toNat (4 : Int)) (Go.IntKind.bits Go.IntKind.u8)))))) (BitVec.ofInt (Go.IntKind.bits Go.IntKind.u8) (x10).fst))) : Nat) : Int)) :: [])))), ((x10).snd).fst, (((x10).snd).snd).fst, (((x10).snd).snd).snd))
              | .inr x11 =>
                some (.inr ((x11).fst, ((x11).snd).fst, (((x11).snd).snd).fst, ((((x11).snd).snd).snd).fst, ((((x11).snd).snd).snd).snd))
          | .inr x12 =>
            some (.inr ((x12).fst, ((x12).snd).fst, (((x12).snd).snd).fst, ((((x12).snd).snd).snd).fst, ((((x12).snd).snd).snd).snd))
    else
      Option.bind (Ev.Seat.lex_reader_escape.v0 κ (x0).fst (Go.Lib.index (Array.toList (ByteArray.data (ByteArray.mk (List.toArray ((34 : UInt8) :: ((92 : UInt8) :: ((110 : UInt8) :: ((116 : UInt8) :: [])))))))) (Array.toList (ByteArray.data (x0).fst))) ((x0).snd).fst (((x0).snd).snd).fst (((x0).snd).snd).snd) fun x1 =>
        Option.bind (Ev.Seat.lex_reader_escape.v2 κ (x1).fst ((x1).snd).fst (((x1).snd).snd).fst ((((x1).snd).snd).snd).fst ((((x1).snd).snd).snd).snd) fun x2 =>
          match x2 with
          | .inl x3 =>
            Option.bind (Ev.Seat.lex_reader_take κ ((x3).snd).fst (((x3).snd).snd).fst (((x3).snd).snd).snd) fun x4 =>
              bif ((((decide ((0 : Int) ≤ (Go.IntKind.wrap Go.IntKind.i64 ((x3).fst + (1 : Int))))) && (decide ((Go.IntKind.wrap Go.IntKind.i64 ((x3).fst + (1 : Int))) ≤ (((ByteArray.size (ByteArray.mk (List.toArray ((34 : UInt8) :: ((92 : UInt8) :: ((10 : UInt8) :: ((9 : UInt8) :: []))))))) : Nat) : Int)))) && (decide ((0 : Int) ≤ (x3).fst))) && (decide ((x3).fst ≤ (Go.IntKind.wrap Go.IntKind.i64 ((x3).fst + (1 : Int)))))) then
                some (.inl ((ByteArray.extract (ByteArray.mk (List.toArray ((34 : UInt8) :: ((92 : UInt8) :: ((10 : UInt8) :: ((9 : UInt8) :: [])))))) (Int.toNat (x3).fst) (Int.toNat (Go.IntKind.wrap Go.IntKind.i64 ((x3).fst + (1 : Int))))), ((x4).snd).fst, (((x4).snd).snd).fst, (((x4).snd).snd).snd))
              else
                none
          | .inr x5 =>
            some (.inr ((x5).fst, ((x5).snd).fst, (((x5).snd).snd).fst, ((((x5).snd).snd).snd).fst, ((((x5).snd).snd).snd).snd))
def strings_Builder_String_2 (κ : Nat) (a0 : List Int) : Option (ByteArray) :=
  bif ((decide ((((List.length a0) : Nat) : Int) = (((List.length a0) : Nat) : Int))) && (Nat.ble (List.length a0) Ev.maxI)) then
    some (Ev.bytesOfA Ev.Seat.C a0)
  else
    none
def strings_Builder_copyCheck_2.v0 (κ : Nat) (a0 : Bool) (a1 : List Int) : Option ((List Int)) :=
  bif a0 then
    some a1
  else
    none
def strings_Builder_copyCheck_2 (κ : Nat) (a0 : List Int) : Option ((List Int)) :=
  some a0
def strings_Builder_WriteString_2 (κ : Nat) (a0 : ByteArray) (a1 : List Int) : Option (Int × (List Int)) :=
  bif (Nat.ble ((List.length a1) + (List.length (List.map (fun b => (((UInt8.toNat b) : Nat) : Int)) (Array.toList (ByteArray.data a0))))) (Ev.room (0 + 1))) then
    some ((((ByteArray.size a0) : Nat) : Int), (a1 ++ (List.map (fun b => (((UInt8.toNat b) : Nat) : Int)) (Array.toList (ByteArray.data a0)))))
  else
    none
def strings_Builder_String_3 (κ : Nat) (a0 : List Int) : Option (ByteArray) :=
  bif ((decide ((((List.length a0) : Nat) : Int) = (((List.length a0) : Nat) : Int))) && (Nat.ble (List.length a0) Ev.maxI)) then
    some (Ev.bytesOfA Ev.Seat.C a0)
  else
    none
def strings_Builder_copyCheck_3.v0 (κ : Nat) (a0 : Bool) (a1 : List Int) : Option ((List Int)) :=
  bif a0 then
    some a1
  else
    some a1
def strings_Builder_copyCheck_3 (κ : Nat) (a0 : List Int) : Option ((List Int)) :=
  some a0
def strings_Builder_WriteString_3 (κ : Nat) (a0 : ByteArray) (a1 : List Int) : Option (Int × (List Int)) :=
  bif (Nat.ble ((List.length a1) + (List.length (List.map (fun b => (((UInt8.toNat b) : Nat) : Int)) (Array.toList (ByteArray.data a0))))) (Ev.room (0 + 1))) then
    some ((((ByteArray.size a0) : Nat) : Int), (a1 ++ (List.map (fun b => (((UInt8.toNat b) : Nat) : Int)) (Array.toList (ByteArray.data a0)))))
  else
    none
def lex_reader_text.v33 (κ : Nat) (a0 : ByteArray) (a1 : ByteArray) (a2 : Int) (a3 : Int) (a4 : List Int) : Option (ByteArray × Bool × ByteArray × Int × Int × (List Int)) :=
  bif (Ev.seq a0 (ByteArray.mk (List.toArray []))) then
    some (a0, Bool.true, a1, a2, a3, a4)
  else
    bif (Ev.seq a0 (ByteArray.mk (List.toArray ((10 : UInt8) :: [])))) then
      some (a0, Bool.true, a1, a2, a3, a4)
    else
      Option.bind (Ev.Seat.unicode_utf8_ValidString κ a0) fun x0 =>
        some (a0, (!x0), a1, a2, a3, a4)
def lex_reader_text.v36 (κ : Nat) (a0 : Bool) (a1 : ByteArray) (a2 : Int) (a3 : Int) (a4 : List Int) : Option ((ByteArray × Int × Int × (List Int)) ⊕ (Int × Int × ByteArray × Int × Int)) :=
  bif a0 then
    Option.bind (Ev.Seat.lex_reader_take κ a1 a2 a3) fun x2 =>
      Option.bind (Ev.Seat.lex_reader_escape κ ((x2).snd).fst (((x2).snd).snd).fst (((x2).snd).snd).snd) fun x3 =>
        match x3 with
        | .inl x4 =>
          Option.bind (Ev.Seat.strings_Builder_WriteString_2 κ (x4).fst a4) fun x5 =>
            some (.inl (((x4).snd).fst, (((x4).snd).snd).fst, (((x4).snd).snd).snd, (x5).snd))
        | .inr x6 =>
          some (.inr ((x6).fst, ((x6).snd).fst, (((x6).snd).snd).fst, ((((x6).snd).snd).snd).fst, ((((x6).snd).snd).snd).snd))
  else
    Option.bind (Ev.Seat.lex_reader_take κ a1 a2 a3) fun x0 =>
      Option.bind (Ev.Seat.strings_Builder_WriteString_2 κ (x0).fst a4) fun x1 =>
        some (.inl (((x0).snd).fst, (((x0).snd).snd).fst, (((x0).snd).snd).snd, (x1).snd))
def lex_reader_text.v35 (κ : Nat) (a0 : ByteArray) (a1 : Bool) (a2 : ByteArray) (a3 : Int) (a4 : Int) (a5 : List Int) : Option ((ByteArray × Int × Int × (List Int)) ⊕ ((Int × Int × ByteArray × Int × Int) ⊕ (ByteArray × ByteArray × Int × Int))) :=
  bif a1 then
    some (.inr (.inl (a3, a4, a2, a3, a4)))
  else
    bif (Ev.seq a0 (ByteArray.mk (List.toArray ((34 : UInt8) :: [])))) then
      Option.bind (Ev.Seat.lex_reader_take κ a2 a3 a4) fun x3 =>
        Option.bind (Ev.Seat.strings_Builder_String_2 κ a5) fun x4 =>
          some (.inr (.inr (x4, ((x3).snd).fst, (((x3).snd).snd).fst, (((x3).snd).snd).snd)))
    else
      Option.bind (Ev.Seat.lex_reader_text.v36 κ (Ev.seq a0 (ByteArray.mk (List.toArray ((92 : UInt8) :: [])))) a2 a3 a4 a5) fun x0 =>
        match x0 with
        | .inl x1 =>
          some (.inl ((x1).fst, ((x1).snd).fst, (((x1).snd).snd).fst, (((x1).snd).snd).snd))
        | .inr x2 =>
          some (.inr (.inl ((x2).fst, ((x2).snd).fst, (((x2).snd).snd).fst, ((((x2).snd).snd).snd).fst, ((((x2).snd).snd).snd).snd)))
def lex_reader_text.v32 (κ : Nat) (a0 : ByteArray) (a1 : ByteArray) (a2 : Int) (a3 : Int) (a4 : List Int) : Option ((ByteArray × Int × Int × (List Int)) ⊕ ((Int × Int × ByteArray × Int × Int) ⊕ (ByteArray × ByteArray × Int × Int))) :=
  Option.bind (Ev.Seat.lex_reader_text.v33 κ a0 a1 a2 a3 a4) fun x0 =>
    Option.bind (Ev.Seat.lex_reader_text.v35 κ (x0).fst ((x0).snd).fst (((x0).snd).snd).fst ((((x0).snd).snd).snd).fst (((((x0).snd).snd).snd).snd).fst (((((x0).snd).snd).snd).snd).snd) fun x1 =>
      match x1 with
      | .inl x2 =>
        some (.inl ((x2).fst, ((x2).snd).fst, (((x2).snd).snd).fst, (((x2).snd).snd).snd))
      | .inr x3 =>
        match x3 with
        | .inl x4 =>
          some (.inr (.inl ((x4).fst, ((x4).snd).fst, (((x4).snd).snd).fst, ((((x4).snd).snd).snd).fst, ((((x4).snd).snd).snd).snd)))
        | .inr x5 =>
          some (.inr (.inr ((x5).fst, ((x5).snd).fst, (((x5).snd).snd).fst, (((x5).snd).snd).snd)))
def lex_reader_text.v40 (κ : Nat) (a0 : ByteArray) (a1 : ByteArray) (a2 : Int) (a3 : Int) (a4 : List Int) : Option (ByteArray × Bool × ByteArray × Int × Int × (List Int)) :=
  bif (Ev.seq a0 (ByteArray.mk (List.toArray []))) then
    some (a0, Bool.true, a1, a2, a3, a4)
  else
    bif (Ev.seq a0 (ByteArray.mk (List.toArray ((10 : UInt8) :: [])))) then
      some (a0, Bool.true, a1, a2, a3, a4)
    else
      Option.bind (Ev.Seat.unicode_utf8_ValidString κ a0) fun x0 =>
        some (a0, (!x0), a1, a2, a3, a4)
def lex_reader_text.v43 (κ : Nat) (a0 : Bool) (a1 : ByteArray) (a2 : Int) (a3 : Int) (a4 : List Int) : Option ((ByteArray × Int × Int × (List Int)) ⊕ (Int × Int × ByteArray × Int × Int)) :=
  bif a0 then
    Option.bind (Ev.Seat.lex_reader_take κ a1 a2 a3) fun x2 =>
      Option.bind (Ev.Seat.lex_reader_escape κ ((x2).snd).fst (((x2).snd).snd).fst (((x2).snd).snd).snd) fun x3 =>
        match x3 with
        | .inl x4 =>
          Option.bind (Ev.Seat.strings_Builder_WriteString_3 κ (x4).fst a4) fun x5 =>
            some (.inl (((x4).snd).fst, (((x4).snd).snd).fst, (((x4).snd).snd).snd, (x5).snd))
        | .inr x6 =>
          some (.inr ((x6).fst, ((x6).snd).fst, (((x6).snd).snd).fst, ((((x6).snd).snd).snd).fst, ((((x6).snd).snd).snd).snd))
  else
    Option.bind (Ev.Seat.lex_reader_take κ a1 a2 a3) fun x0 =>
      Option.bind (Ev.Seat.strings_Builder_WriteString_3 κ (x0).fst a4) fun x1 =>
        some (.inl (((x0).snd).fst, (((x0).snd).snd).fst, (((x0).snd).snd).snd, (x1).snd))
def lex_reader_text.v42 (κ : Nat) (a0 : ByteArray) (a1 : Bool) (a2 : ByteArray) (a3 : Int) (a4 : Int) (a5 : List Int) : Option ((ByteArray × Int × Int × (List Int)) ⊕ ((Int × Int × ByteArray × Int × Int) ⊕ (ByteArray × ByteArray × Int × Int))) :=
  bif a1 then
    some (.inr (.inl (a3, a4, a2, a3, a4)))
  else
    bif (Ev.seq a0 (ByteArray.mk (List.toArray ((34 : UInt8) :: [])))) then
      Option.bind (Ev.Seat.lex_reader_take κ a2 a3 a4) fun x3 =>
        Option.bind (Ev.Seat.strings_Builder_String_3 κ a5) fun x4 =>
          some (.inr (.inr (x4, ((x3).snd).fst, (((x3).snd).snd).fst, (((x3).snd).snd).snd)))
    else
      Option.bind (Ev.Seat.lex_reader_text.v43 κ (Ev.seq a0 (ByteArray.mk (List.toArray ((92 : UInt8) :: [])))) a2 a3 a4 a5) fun x0 =>
        match x0 with
        | .inl x1 =>
          some (.inl ((x1).fst, ((x1).snd).fst, (((x1).snd).snd).fst, (((x1).snd).snd).snd))
        | .inr x2 =>
          some (.inr (.inl ((x2).fst, ((x2).snd).fst, (((x2).snd).snd).fst, ((((x2).snd).snd).snd).fst, ((((x2).snd).snd).snd).snd)))
def lex_reader_text.v39 (κ : Nat) (a0 : ByteArray) (a1 : ByteArray) (a2 : Int) (a3 : Int) (a4 : List Int) : Option ((ByteArray × Int × Int × (List Int)) ⊕ ((Int × Int × ByteArray × Int × Int) ⊕ (ByteArray × ByteArray × Int × Int))) :=
  Option.bind (Ev.Seat.lex_reader_text.v40 κ a0 a1 a2 a3 a4) fun x0 =>
    Option.bind (Ev.Seat.lex_reader_text.v42 κ (x0).fst ((x0).snd).fst (((x0).snd).snd).fst ((((x0).snd).snd).snd).fst (((((x0).snd).snd).snd).snd).fst (((((x0).snd).snd).snd).snd).snd) fun x1 =>
      match x1 with
      | .inl x2 =>
        some (.inl ((x2).fst, ((x2).snd).fst, (((x2).snd).snd).fst, (((x2).snd).snd).snd))
      | .inr x3 =>
        match x3 with
        | .inl x4 =>
          some (.inr (.inl ((x4).fst, ((x4).snd).fst, (((x4).snd).snd).fst, ((((x4).snd).snd).snd).fst, ((((x4).snd).snd).snd).snd)))
        | .inr x5 =>
          some (.inr (.inr ((x5).fst, ((x5).snd).fst, (((x5).snd).snd).fst, (((x5).snd).snd).snd)))
def lex_reader_text.w31 (κ : Nat) (rec : ((ByteArray × Int × Int × (List Int)) ⊕ (ByteArray × Int × Int × (List Int))) → Option ((Int × Int × ByteArray × Int × Int) ⊕ (ByteArray × ByteArray × Int × Int))) (a0 : ByteArray) (a1 : Int) (a2 : Int) (a3 : List Int) : Option ((Int × Int × ByteArray × Int × Int) ⊕ (ByteArray × ByteArray × Int × Int)) :=
  Option.bind (Ev.Seat.lex_reader_next κ a0 a1 a2) fun x0 =>
    Option.bind (Ev.Seat.lex_reader_text.v32 κ (x0).fst ((x0).snd).fst (((x0).snd).snd).fst (((x0).snd).snd).snd a3) fun x1 =>
      match x1 with
      | .inl x2 =>
        rec (.inr ((x2).fst, ((x2).snd).fst, (((x2).snd).snd).fst, (((x2).snd).snd).snd))
      | .inr x3 =>
        match x3 with
        | .inl x4 =>
          some (.inl ((x4).fst, ((x4).snd).fst, (((x4).snd).snd).fst, ((((x4).snd).snd).snd).fst, ((((x4).snd).snd).snd).snd))
        | .inr x5 =>
          some (.inr ((x5).fst, ((x5).snd).fst, (((x5).snd).snd).fst, (((x5).snd).snd).snd))
def lex_reader_text.w31_1 (κ : Nat) (rec : ((ByteArray × Int × Int × (List Int)) ⊕ (ByteArray × Int × Int × (List Int))) → Option ((Int × Int × ByteArray × Int × Int) ⊕ (ByteArray × ByteArray × Int × Int))) (a0 : ByteArray) (a1 : Int) (a2 : Int) (a3 : List Int) : Option ((Int × Int × ByteArray × Int × Int) ⊕ (ByteArray × ByteArray × Int × Int)) :=
  Option.bind (Ev.Seat.lex_reader_next κ a0 a1 a2) fun x0 =>
    Option.bind (Ev.Seat.lex_reader_text.v39 κ (x0).fst ((x0).snd).fst (((x0).snd).snd).fst (((x0).snd).snd).snd a3) fun x1 =>
      match x1 with
      | .inl x2 =>
        rec (.inr ((x2).fst, ((x2).snd).fst, (((x2).snd).snd).fst, (((x2).snd).snd).snd))
      | .inr x3 =>
        match x3 with
        | .inl x4 =>
          some (.inl ((x4).fst, ((x4).snd).fst, (((x4).snd).snd).fst, ((((x4).snd).snd).snd).fst, ((((x4).snd).snd).snd).snd))
        | .inr x5 =>
          some (.inr ((x5).fst, ((x5).snd).fst, (((x5).snd).snd).fst, (((x5).snd).snd).snd))
def lex_reader_text.l31 (κ : Nat) : Nat → ((ByteArray × Int × Int × (List Int)) ⊕ (ByteArray × Int × Int × (List Int))) → Option ((Int × Int × ByteArray × Int × Int) ⊕ (ByteArray × ByteArray × Int × Int))
  | 0, _ => none
  | k + 1, (.inl (a0, a1, a2, a3)) => lex_reader_text.w31 κ (lex_reader_text.l31 κ k) a0 a1 a2 a3
  | k + 1, (.inr (a0, a1, a2, a3)) => lex_reader_text.w31_1 κ (lex_reader_text.l31 κ k) a0 a1 a2 a3
def lex_reader_text (κ : Nat) (a0 : ByteArray) (a1 : Int) (a2 : Int) : Option ((Int × Int × ByteArray × Int × Int) ⊕ (ByteArray × ByteArray × Int × Int)) :=
  Option.bind (Ev.Seat.lex_reader_text.l31 κ κ (Sum.inl (Prod.mk a0 (Prod.mk a1 (Prod.mk a2 []))))) fun x0 =>
    match x0 with
    | .inl x1 =>
      some (.inl ((x1).fst, ((x1).snd).fst, (((x1).snd).snd).fst, ((((x1).snd).snd).snd).fst, ((((x1).snd).snd).snd).snd))
    | .inr x2 =>
      some (.inr ((x2).fst, ((x2).snd).fst, (((x2).snd).snd).fst, (((x2).snd).snd).snd))
def lex_reader_word (κ : Nat) (a0 : ByteArray) (a1 : Int) (a2 : Int) : Option (ByteArray × ByteArray × Int × Int) :=
  bif ((((decide ((0 : Int) ≤ (Go.IntKind.wrap Go.IntKind.i64 ((((ByteArray.size a0) : Nat) : Int) - (((ByteArray.size (ByteArray.mk (List.toArray (Go.Lib.trimLeftS (Array.toList (ByteArray.data a0)) (Array.toList (ByteArray.data (ByteArray.mk (List.toArray (List.append ((97 : UInt8) :: ((98 : UInt8) :: ((99 : UInt8) :: ((100 : UInt8) :: ((101 : UInt8) :: ((102 : UInt8) :: ((103 : UInt8) :: ((104 : UInt8) :: ((105 : UInt8) :: ((106 : UInt8) :: ((107 : UInt8) :: ((108 : UInt8) :: ((109 : UInt8) :: ((110 : UInt8) :: ((111 : UInt8) :: ((112 : UInt8) :: ((113 : UInt8) :: ((114 : UInt8) :: ((115 : UInt8) :: ((116 : UInt8) :: ((117 : UInt8) :: ((118 : UInt8) :: ((119 : UInt8) :: ((120 : UInt8) :: ((121 : UInt8) :: ((122 : UInt8) :: ((65 : UInt8) :: ((66 : UInt8) :: ((67 : UInt8) :: ((68 : UInt8) :: ((69 : UInt8) :: ((70 : UInt8) :: [])))))))))))))))))))))))))))))))) ((71 : UInt8) :: ((72 : UInt8) :: ((73 : UInt8) :: ((74 : UInt8) :: ((75 : UInt8) :: ((76 : UInt8) :: ((77 : UInt8) :: ((78 : UInt8) :: ((79 : UInt8) :: ((80 : UInt8) :: ((81 : UInt8) :: ((82 : UInt8) :: ((83 : UInt8) :: ((84 : UInt8) :: ((85 : UInt8) :: ((86 : UInt8) :: ((87 : UInt8) :: ((88 : UInt8) :: ((89 : UInt8) :: ((90 : UInt8) :: ((48 : UInt8) :: ((49 : UInt8) :: ((50 : UInt8) :: ((51 : UInt8) :: ((52 : UInt8) :: ((53 : UInt8) :: ((54 : UInt8) :: ((55 : UInt8) :: ((56 : UInt8) :: ((57 : UInt8) :: ((95 : UInt8) :: ((45 : UInt8) :: ((46 : UInt8) :: [])))))))))))))))))))))))))))))))))))))))))) : Nat) : Int))))) && (decide ((Go.IntKind.wrap Go.IntKind.i64 ((((ByteArray.size a0) : Nat) : Int) - (((ByteArray.size (ByteArray.mk (List.toArray (Go.Lib.trimLeftS (Array.toList (ByteArray.data a0)) (Array.toList (ByteArray.data (ByteArray.mk (List.toArray (List.append ((97 : UInt8) :: ((98 : UInt8) :: ((99 : UInt8) :: ((100 : UInt8) :: ((101 : UInt8) :: ((102 : UInt8) :: ((103 : UInt8) :: ((104 : UInt8) :: ((105 : UInt8) :: ((106 : UInt8) :: ((107 : UInt8) :: ((108 : UInt8) :: ((109 : UInt8) :: ((110 : UInt8) :: ((111 : UInt8) :: ((112 : UInt8) :: ((113 : UInt8) :: ((114 : UInt8) :: ((115 : UInt8) :: ((116 : UInt8) :: ((117 : UInt8) :: ((118 : UInt8) :: ((119 : UInt8) :: ((120 : UInt8) :: ((121 : UInt8) :: ((122 : UInt8) :: ((65 : UInt8) :: ((66 : UInt8) :: ((67 : UInt8) :: ((68 : UInt8) :: ((69 : UInt8) :: ((70 : UInt8) :: [])))))))))))))))))))))))))))))))) ((71 : UInt8) :: ((72 : UInt8) :: ((73 : UInt8) :: ((74 : UInt8) :: ((75 : UInt8) :: ((76 : UInt8) :: ((77 : UInt8) :: ((78 : UInt8) :: ((79 : UInt8) :: ((80 : UInt8) :: ((81 : UInt8) :: ((82 : UInt8) :: ((83 : UInt8) :: ((84 : UInt8) :: ((85 : UInt8) :: ((86 : UInt8) :: ((87 : UInt8) :: ((88 : UInt8) :: ((89 : UInt8) :: ((90 : UInt8) :: ((48 : UInt8) :: ((49 : UInt8) :: ((50 : UInt8) :: ((51 : UInt8) :: ((52 : UInt8) :: ((53 : UInt8) :: ((54 : UInt8) :: ((55 : UInt8) :: ((56 : UInt8) :: ((57 : UInt8) :: ((95 : UInt8) :: ((45 : UInt8) :: ((46 : UInt8) :: [])))))))))))))))))))))))))))))))))))))))))) : Nat) : Int))) ≤ (((ByteArray.size a0) : Nat) : Int)))) && (decide ((0 : Int) ≤ (0 : Int)))) && (decide ((0 : Int) ≤ (Go.IntKind.wrap Go.IntKind.i64 ((((ByteArray.size a0) : Nat) : Int) - (((ByteArray.size (ByteArray.mk (List.toArray (Go.Lib.trimLeftS (Array.toList (ByteArray.data a0)) (Array.toList (ByteArray.data (ByteArray.mk (List.toArray (List.append ((97 : UInt8) :: ((98 : UInt8) :: ((99 : UInt8) :: ((100 : UInt8) :: ((101 : UInt8) :: ((102 : UInt8) :: ((103 : UInt8) :: ((104 : UInt8) :: ((105 : UInt8) :: ((106 : UInt8) :: ((107 : UInt8) :: ((108 : UInt8) :: ((109 : UInt8) :: ((110 : UInt8) :: ((111 : UInt8) :: ((112 : UInt8) :: ((113 : UInt8) :: ((114 : UInt8) :: ((115 : UInt8) :: ((116 : UInt8) :: ((117 : UInt8) :: ((118 : UInt8) :: ((119 : UInt8) :: ((120 : UInt8) :: ((121 : UInt8) :: ((122 : UInt8) :: ((65 : UInt8) :: ((66 : UInt8) :: ((67 : UInt8) :: ((68 : UInt8) :: ((69 : UInt8) :: ((70 : UInt8) :: [])))))))))))))))))))))))))))))))) ((71 : UInt8) :: ((72 : UInt8) :: ((73 : UInt8) :: ((74 : UInt8) :: ((75 : UInt8) :: ((76 : UInt8) :: ((77 : UInt8) :: ((78 : UInt8) :: ((79 : UInt8) :: ((80 : UInt8) :: ((81 : UInt8) :: ((82 : UInt8) :: ((83 : UInt8) :: ((84 : UInt8) :: ((85 : UInt8) :: ((86 : UInt8) :: ((87 : UInt8) :: ((88 : UInt8) :: ((89 : UInt8) :: ((90 : UInt8) :: ((48 : UInt8) :: ((49 : UInt8) :: ((50 : UInt8) :: ((51 : UInt8) :: ((52 : UInt8) :: ((53 : UInt8) :: ((54 : UInt8) :: ((55 : UInt8) :: ((56 : UInt8) :: ((57 : UInt8) :: ((95 : UInt8) :: ((45 : UInt8) :: ((46 : UInt8) :: [])))))))))))))))))))))))))))))))))))))))))) : Nat) : Int)))))) then
    some ((ByteArray.extract a0 (Int.toNat (0 : Int)) (Int.toNat (Go.IntKind.wrap Go.IntKind.i64 ((((ByteArray.size a0) : Nat) : Int) - (((ByteArray.size (ByteArray.mk (List.toArray (Go.Lib.trimLeftS (Array.toList (ByteArray.data a0)) (Array.toList (ByteArray.data (ByteArray.mk (List.toArray (List.append ((97 : UInt8) :: ((98 : UInt8) :: ((99 : UInt8) :: ((100 : UInt8) :: ((101 : UInt8) :: ((102 : UInt8) :: ((103 : UInt8) :: ((104 : UInt8) :: ((105 : UInt8) :: ((106 : UInt8) :: ((107 : UInt8) :: ((108 : UInt8) :: ((109 : UInt8) :: ((110 : UInt8) :: ((111 : UInt8) :: ((112 : UInt8) :: ((113 : UInt8) :: ((114 : UInt8) :: ((115 : UInt8) :: ((116 : UInt8) :: ((117 : UInt8) :: ((118 : UInt8) :: ((119 : UInt8) :: ((120 : UInt8) :: ((121 : UInt8) :: ((122 : UInt8) :: ((65 : UInt8) :: ((66 : UInt8) :: ((67 : UInt8) :: ((68 : UInt8) :: ((69 : UInt8) :: ((70 : UInt8) :: [])))))))))))))))))))))))))))))))) ((71 : UInt8) :: ((72 : UInt8) :: ((73 : UInt8) :: ((74 : UInt8) :: ((75 : UInt8) :: ((76 : UInt8) :: ((77 : UInt8) :: ((78 : UInt8) :: ((79 : UInt8) :: ((80 : UInt8) :: ((81 : UInt8) :: ((82 : UInt8) :: ((83 : UInt8) :: ((84 : UInt8) :: ((85 : UInt8) :: ((86 : UInt8) :: ((87 : UInt8) :: ((88 : UInt8) :: ((89 : UInt8) :: ((90 : UInt8) :: ((48 : UInt8) :: ((49 : UInt8) :: ((50 : UInt8) :: ((51 : UInt8) :: ((52 : UInt8) :: ((53 : UInt8) :: ((54 : UInt8) :: ((55 : UInt8) :: ((56 : UInt8) :: ((57 : UInt8) :: ((95 : UInt8) :: ((45 : UInt8) :: ((46 : UInt8) :: [])))))))))))))))))))))))))))))))))))))))))) : Nat) : Int))))), (ByteArray.mk (List.toArray (Go.Lib.trimLeftS (Array.toList (ByteArray.data a0)) (Array.toList (ByteArray.data (ByteArray.mk (List.toArray (List.append ((97 : UInt8) :: ((98 : UInt8) :: ((99 : UInt8) :: ((100 : UInt8) :: ((101 : UInt8) :: ((102 : UInt8) :: ((103 : UInt8) :: ((104 : UInt8) :: ((105 : UInt8) :: ((106 : UInt8) :: ((107 : UInt8) :: ((108 : UInt8) :: ((109 : UInt8) :: ((110 : UInt8) :: ((111 : UInt8) :: ((112 : UInt8) :: ((113 : UInt8) :: ((114 : UInt8) :: ((115 : UInt8) :: ((116 : UInt8) :: ((117 : UInt8) :: ((118 : UInt8) :: ((119 : UInt8) :: ((120 : UInt8) :: ((121 : UInt8) :: ((122 : UInt8) :: ((65 : UInt8) :: ((66 : UInt8) :: ((67 : UInt8) :: ((68 : UInt8) :: ((69 : UInt8) :: ((70 : UInt8) :: [])))))))))))))))))))))))))))))))) ((71 : UInt8) :: ((72 : UInt8) :: ((73 : UInt8) :: ((74 : UInt8) :: ((75 : UInt8) :: ((76 : UInt8) :: ((77 : UInt8) :: ((78 : UInt8) :: ((79 : UInt8) :: ((80 : UInt8) :: ((81 : UInt8) :: ((82 : UInt8) :: ((83 : UInt8) :: ((84 : UInt8) :: ((85 : UInt8) :: ((86 : UInt8) :: ((87 : UInt8) :: ((88 : UInt8) :: ((89 : UInt8) :: ((90 : UInt8) :: ((48 : UInt8) :: ((49 : UInt8) :: ((50 : UInt8) :: ((51 : UInt8) :: ((52 : UInt8) :: ((53 : UInt8) :: ((54 : UInt8) :: ((55 : UInt8) :: ((56 : UInt8) :: ((57 : UInt8) :: ((95 : UInt8) :: ((45 : UInt8) :: ((46 : UInt8) :: []))))))))))))))))))))))))))))))))))))))))), a1, (Go.IntKind.wrap Go.IntKind.i64 (a2 + (Go.IntKind.wrap Go.IntKind.i64 ((((ByteArray.size a0) : Nat) : Int) - (((ByteArray.size (ByteArray.mk (List.toArray (Go.Lib.trimLeftS (Array.toList (ByteArray.data a0)) (Array.toList (ByteArray.data (ByteArray.mk (List.toArray (List.append ((97 : UInt8) :: ((98 : UInt8) :: ((99 : UInt8) :: ((100 : UInt8) :: ((101 : UInt8) :: ((102 : UInt8) :: ((103 : UInt8) :: ((104 : UInt8) :: ((105 : UInt8) :: ((106 : UInt8) :: ((107 : UInt8) :: ((108 : UInt8) :: ((109 : UInt8) :: ((110 : UInt8) :: ((111 : UInt8) :: ((112 : UInt8) :: ((113 : UInt8) :: ((114 : UInt8) :: ((115 : UInt8) :: ((116 : UInt8) :: ((117 : UInt8) :: ((118 : UInt8) :: ((119 : UInt8) :: ((120 : UInt8) :: ((121 : UInt8) :: ((122 : UInt8) :: ((65 : UInt8) :: ((66 : UInt8) :: ((67 : UInt8) :: ((68 : UInt8) :: ((69 : UInt8) :: ((70 : UInt8) :: [])))))))))))))))))))))))))))))))) ((71 : UInt8) :: ((72 : UInt8) :: ((73 : UInt8) :: ((74 : UInt8) :: ((75 : UInt8) :: ((76 : UInt8) :: ((77 : UInt8) :: ((78 : UInt8) :: ((79 : UInt8) :: ((80 : UInt8) :: ((81 : UInt8) :: ((82 : UInt8) :: ((83 : UInt8) :: ((84 : UInt8) :: ((85 : UInt8) :: ((86 : UInt8) :: ((87 : UInt8) :: ((88 : UInt8) :: ((89 : UInt8) :: ((90 : UInt8) :: ((48 : UInt8) :: ((49 : UInt8) :: ((50 : UInt8) :: ((51 : UInt8) :: ((52 : UInt8) :: ((53 : UInt8) :: ((54 : UInt8) :: ((55 : UInt8) :: ((56 : UInt8) :: ((57 : UInt8) :: ((95 : UInt8) :: ((45 : UInt8) :: ((46 : UInt8) :: [])))))))))))))))))))))))))))))))))))))))))) : Nat) : Int))))))
  else
    none
def lex_reader_one.v4 (κ : Nat) (a0 : ByteArray) (a1 : Int) (a2 : Int) (a3 : Int) (a4 : ByteArray) (a5 : Int) (a6 : Int) (a7 : Int) (a8 : ByteArray) (a9 : Int) (a10 : Int) : Option (Bool × ByteArray × Int × Int × Int × ByteArray × Int × Int × Int × ByteArray × Int × Int) :=
  bif (!(Ev.seq a0 (ByteArray.mk (List.toArray [])))) then
    Option.bind (Ev.Seat.lex_reader_next κ a0 a1 a2) fun x0 =>
      some ((!(Ev.seq (x0).fst (ByteArray.mk (List.toArray ((10 : UInt8) :: []))))), ((x0).snd).fst, (((x0).snd).snd).fst, (((x0).snd).snd).snd, a3, a4, a5, a6, a7, a8, a9, a10)
  else
    some (Bool.false, a0, a1, a2, a3, a4, a5, a6, a7, a8, a9, a10)
def lex_reader_one.w3 (κ : Nat) (rec : (ByteArray × Int × Int × Int × ByteArray × Int × Int × Int × ByteArray × Int × Int) → Option (ByteArray × Int × Int × Int × ByteArray × Int × Int × Int × ByteArray × Int × Int)) (a0 : ByteArray) (a1 : Int) (a2 : Int) (a3 : Int) (a4 : ByteArray) (a5 : Int) (a6 : Int) (a7 : Int) (a8 : ByteArray) (a9 : Int) (a10 : Int) : Option (ByteArray × Int × Int × Int × ByteArray × Int × Int × Int × ByteArray × Int × Int) :=
  Option.bind (Ev.Seat.lex_reader_one.v4 κ a0 a1 a2 a3 a4 a5 a6 a7 a8 a9 a10) fun x0 =>
    bif (x0).fst then
      Option.bind (Ev.Seat.lex_reader_take κ ((x0).snd).fst (((x0).snd).snd).fst ((((x0).snd).snd).snd).fst) fun x1 =>
        rec (((x1).snd).fst, (((x1).snd).snd).fst, (((x1).snd).snd).snd, (((((x0).snd).snd).snd).snd).fst, ((((((x0).snd).snd).snd).snd).snd).fst, (((((((x0).snd).snd).snd).snd).snd).snd).fst, ((((((((x0).snd).snd).snd).snd).snd).snd).snd).fst, (((((((((x0).snd).snd).snd).snd).snd).snd).snd).snd).fst, ((((((((((x0).snd).snd).snd).snd).snd).snd).snd).snd).snd).fst, (((((((((((x0).snd).snd).snd).snd).snd).snd).snd).snd).snd).snd).fst, (((((((((((x0).snd).snd).snd).snd).snd).snd).snd).snd).snd).snd).snd)
    else
      some (((x0).snd).fst, (((x0).snd).snd).fst, ((((x0).snd).snd).snd).fst, (((((x0).snd).snd).snd).snd).fst, ((((((x0).snd).snd).snd).snd).snd).fst, (((((((x0).snd).snd).snd).snd).snd).snd).fst, ((((((((x0).snd).snd).snd).snd).snd).snd).snd).fst, (((((((((x0).snd).snd).snd).snd).snd).snd).snd).snd).fst, ((((((((((x0).snd).snd).snd).snd).snd).snd).snd).snd).snd).fst, (((((((((((x0).snd).snd).snd).snd).snd).snd).snd).snd).snd).snd).fst, (((((((((((x0).snd).snd).snd).snd).snd).snd).snd).snd).snd).snd).snd)
def lex_reader_one.l3 (κ : Nat) : Nat → (ByteArray × Int × Int × Int × ByteArray × Int × Int × Int × ByteArray × Int × Int) → Option (ByteArray × Int × Int × Int × ByteArray × Int × Int × Int × ByteArray × Int × Int)
  | 0, _ => none
  | k + 1, (a0, a1, a2, a3, a4, a5, a6, a7, a8, a9, a10) => lex_reader_one.w3 κ (lex_reader_one.l3 κ k) a0 a1 a2 a3 a4 a5 a6 a7 a8 a9 a10
def lex_reader_one.v7 (κ : Nat) (a0 : ByteArray) (a1 : ByteArray) (a2 : Int) (a3 : Int) (a4 : Int) (a5 : ByteArray) (a6 : Int) (a7 : Int) (a8 : Int) (a9 : ByteArray) (a10 : Int) (a11 : Int) : Option (ByteArray × Bool × ByteArray × Int × Int × Int × ByteArray × Int × Int × Int × ByteArray × Int × Int) :=
  bif (Ev.seq a0 (ByteArray.mk (List.toArray ((123 : UInt8) :: [])))) then
    some (a0, Bool.true, a1, a2, a3, a4, a5, a6, a7, a8, a9, a10, a11)
  else
    bif (Ev.seq a0 (ByteArray.mk (List.toArray ((125 : UInt8) :: [])))) then
      some (a0, Bool.true, a1, a2, a3, a4, a5, a6, a7, a8, a9, a10, a11)
    else
      some (a0, (Ev.seq a0 (ByteArray.mk (List.toArray ((59 : UInt8) :: [])))), a1, a2, a3, a4, a5, a6, a7, a8, a9, a10, a11)
def lex_reader_one.v11 (κ : Nat) (a0 : ByteArray) (a1 : ByteArray) (a2 : Int) (a3 : Int) (a4 : Int) (a5 : ByteArray) (a6 : Int) (a7 : Int) (a8 : Int) (a9 : ByteArray) (a10 : Int) (a11 : Int) : Option (Bool × ByteArray × Int × Int × Int × ByteArray × Int × Int × Int × ByteArray × Int × Int) :=
  bif ((((ByteArray.size a0) : Nat) : Int) == (1 : Int)) then
    some ((Go.Lib.contains (Array.toList (ByteArray.data (ByteArray.mk (List.toArray (List.append ((97 : UInt8) :: ((98 : UInt8) :: ((99 : UInt8) :: ((100 : UInt8) :: ((101 : UInt8) :: ((102 : UInt8) :: ((103 : UInt8) :: ((104 : UInt8) :: ((105 : UInt8) :: ((106 : UInt8) :: ((107 : UInt8) :: ((108 : UInt8) :: ((109 : UInt8) :: ((110 : UInt8) :: ((111 : UInt8) :: ((112 : UInt8) :: ((113 : UInt8) :: ((114 : UInt8) :: ((115 : UInt8) :: ((116 : UInt8) :: ((117 : UInt8) :: ((118 : UInt8) :: ((119 : UInt8) :: ((120 : UInt8) :: ((121 : UInt8) :: ((122 : UInt8) :: ((65 : UInt8) :: ((66 : UInt8) :: ((67 : UInt8) :: ((68 : UInt8) :: ((69 : UInt8) :: ((70 : UInt8) :: [])))))))))))))))))))))))))))))))) ((71 : UInt8) :: ((72 : UInt8) :: ((73 : UInt8) :: ((74 : UInt8) :: ((75 : UInt8) :: ((76 : UInt8) :: ((77 : UInt8) :: ((78 : UInt8) :: ((79 : UInt8) :: ((80 : UInt8) :: ((81 : UInt8) :: ((82 : UInt8) :: ((83 : UInt8) :: ((84 : UInt8) :: ((85 : UInt8) :: ((86 : UInt8) :: ((87 : UInt8) :: ((88 : UInt8) :: ((89 : UInt8) :: ((90 : UInt8) :: ((48 : UInt8) :: ((49 : UInt8) :: ((50 : UInt8) :: ((51 : UInt8) :: ((52 : UInt8) :: ((53 : UInt8) :: ((54 : UInt8) :: ((55 : UInt8) :: ((56 : UInt8) :: ((57 : UInt8) :: ((95 : UInt8) :: ((45 : UInt8) :: ((46 : UInt8) :: [])))))))))))))))))))))))))))))))))))))) (Array.toList (ByteArray.data a0))), a1, a2, a3, a4, a5, a6, a7, a8, a9, a10, a11)
  else
    some (Bool.false, a1, a2, a3, a4, a5, a6, a7, a8, a9, a10, a11)
def lex_reader_one.v13 (κ : Nat) (a0 : Bool) (a1 : ByteArray) (a2 : Int) (a3 : Int) (a4 : Int) (a5 : ByteArray) (a6 : Int) (a7 : Int) (a8 : Int) (a9 : ByteArray) (a10 : Int) (a11 : Int) : Option ((Int × Int × ByteArray × Int × Int) ⊕ (ByteArray × Int × Int × Int × ByteArray × Int × Int × Int × ByteArray × Int × Int)) :=
  bif a0 then
    Option.bind (Ev.Seat.lex_reader_word κ a1 a2 a3) fun x0 =>
      some (.inr (((x0).snd).fst, (((x0).snd).snd).fst, (((x0).snd).snd).snd, a4, a5, a6, a7, (1 : Int), (x0).fst, a10, a11))
  else
    some (.inl (a2, a3, a1, a2, a3))
def lex_reader_one.v10 (κ : Nat) (a0 : ByteArray) (a1 : Bool) (a2 : ByteArray) (a3 : Int) (a4 : Int) (a5 : Int) (a6 : ByteArray) (a7 : Int) (a8 : Int) (a9 : Int) (a10 : ByteArray) (a11 : Int) (a12 : Int) : Option ((Int × Int × ByteArray × Int × Int) ⊕ (ByteArray × Int × Int × Int × ByteArray × Int × Int × Int × ByteArray × Int × Int)) :=
  bif a1 then
    Option.bind (Ev.Seat.lex_reader_take κ a2 a3 a4) fun x4 =>
      Option.bind (Ev.Seat.lex_reader_text κ ((x4).snd).fst (((x4).snd).snd).fst (((x4).snd).snd).snd) fun x5 =>
        match x5 with
        | .inl x6 =>
          some (.inl ((x6).fst, ((x6).snd).fst, (((x6).snd).snd).fst, ((((x6).snd).snd).snd).fst, ((((x6).snd).snd).snd).snd))
        | .inr x7 =>
          some (.inr (((x7).snd).fst, (((x7).snd).snd).fst, (((x7).snd).snd).snd, a5, a6, a7, a8, (2 : Int), (x7).fst, a11, a12))
  else
    Option.bind (Ev.Seat.lex_reader_one.v11 κ a0 a2 a3 a4 a5 a6 a7 a8 a9 a10 a11 a12) fun x0 =>
      Option.bind (Ev.Seat.lex_reader_one.v13 κ (x0).fst ((x0).snd).fst (((x0).snd).snd).fst ((((x0).snd).snd).snd).fst (((((x0).snd).snd).snd).snd).fst ((((((x0).snd).snd).snd).snd).snd).fst (((((((x0).snd).snd).snd).snd).snd).snd).fst ((((((((x0).snd).snd).snd).snd).snd).snd).snd).fst (((((((((x0).snd).snd).snd).snd).snd).snd).snd).snd).fst ((((((((((x0).snd).snd).snd).snd).snd).snd).snd).snd).snd).fst (((((((((((x0).snd).snd).snd).snd).snd).snd).snd).snd).snd).snd).fst (((((((((((x0).snd).snd).snd).snd).snd).snd).snd).snd).snd).snd).snd) fun x1 =>
        match x1 with
        | .inl x2 =>
          some (.inl ((x2).fst, ((x2).snd).fst, (((x2).snd).snd).fst, ((((x2).snd).snd).snd).fst, ((((x2).snd).snd).snd).snd))
        | .inr x3 =>
          some (.inr ((x3).fst, ((x3).snd).fst, (((x3).snd).snd).fst, ((((x3).snd).snd).snd).fst, (((((x3).snd).snd).snd).snd).fst, ((((((x3).snd).snd).snd).snd).snd).fst, (((((((x3).snd).snd).snd).snd).snd).snd).fst, ((((((((x3).snd).snd).snd).snd).snd).snd).snd).fst, (((((((((x3).snd).snd).snd).snd).snd).snd).snd).snd).fst, ((((((((((x3).snd).snd).snd).snd).snd).snd).snd).snd).snd).fst, ((((((((((x3).snd).snd).snd).snd).snd).snd).snd).snd).snd).snd))
def lex_reader_one.v9 (κ : Nat) (a0 : ByteArray) (a1 : Bool) (a2 : ByteArray) (a3 : Int) (a4 : Int) (a5 : Int) (a6 : ByteArray) (a7 : Int) (a8 : Int) (a9 : Int) (a10 : ByteArray) (a11 : Int) (a12 : Int) : Option ((Int × Int × ByteArray × Int × Int) ⊕ (ByteArray × Int × Int × Int × ByteArray × Int × Int × Int × ByteArray × Int × Int)) :=
  bif a1 then
    Option.bind (Ev.Seat.lex_reader_take κ a2 a3 a4) fun x3 =>
      some (.inr (((x3).snd).fst, (((x3).snd).snd).fst, (((x3).snd).snd).snd, a5, a6, a7, a8, (Go.IntKind.wrap Go.IntKind.i64 ((3 : Int) + (Go.Lib.index (Array.toList (ByteArray.data (ByteArray.mk (List.toArray ((123 : UInt8) :: ((125 : UInt8) :: ((59 : UInt8) :: []))))))) (Array.toList (ByteArray.data (x3).fst))))), a10, a11, a12))
  else
    Option.bind (Ev.Seat.lex_reader_one.v10 κ a0 (Ev.seq a0 (ByteArray.mk (List.toArray ((34 : UInt8) :: [])))) a2 a3 a4 a5 a6 a7 a8 a9 a10 a11 a12) fun x0 =>
      match x0 with
      | .inl x1 =>
        some (.inl ((x1).fst, ((x1).snd).fst, (((x1).snd).snd).fst, ((((x1).snd).snd).snd).fst, ((((x1).snd).snd).snd).snd))
      | .inr x2 =>
        some (.inr ((x2).fst, ((x2).snd).fst, (((x2).snd).snd).fst, ((((x2).snd).snd).snd).fst, (((((x2).snd).snd).snd).snd).fst, ((((((x2).snd).snd).snd).snd).snd).fst, (((((((x2).snd).snd).snd).snd).snd).snd).fst, ((((((((x2).snd).snd).snd).snd).snd).snd).snd).fst, (((((((((x2).snd).snd).snd).snd).snd).snd).snd).snd).fst, ((((((((((x2).snd).snd).snd).snd).snd).snd).snd).snd).snd).fst, ((((((((((x2).snd).snd).snd).snd).snd).snd).snd).snd).snd).snd))
def lex_reader_one.v0 (κ : Nat) (a0 : ByteArray) (a1 : ByteArray) (a2 : Int) (a3 : Int) (a4 : Int) (a5 : ByteArray) (a6 : Int) (a7 : Int) (a8 : Int) (a9 : ByteArray) (a10 : Int) (a11 : Int) : Option ((Int × Int × ByteArray × Int × Int) ⊕ ((ByteArray × Int × Int × Int × ByteArray × Int × Int × Int × ByteArray × Int × Int) ⊕ (Bool × ByteArray × Int × Int × Int × ByteArray × Int × Int))) :=
  bif (Go.Lib.contains (Array.toList (ByteArray.data (ByteArray.mk (List.toArray ((32 : UInt8) :: ((9 : UInt8) :: ((13 : UInt8) :: ((10 : UInt8) :: [])))))))) (Array.toList (ByteArray.data a0))) then
    Option.bind (Ev.Seat.lex_reader_take κ a1 a2 a3) fun x5 =>
      some (.inr (.inr (Bool.false, ((x5).snd).fst, (((x5).snd).snd).fst, (((x5).snd).snd).snd, a8, a9, a10, a11)))
  else
    bif (Ev.seq a0 (ByteArray.mk (List.toArray ((35 : UInt8) :: [])))) then
      Option.bind (Ev.Seat.lex_reader_one.l3 κ κ (Prod.mk a1 (Prod.mk a2 (Prod.mk a3 (Prod.mk a4 (Prod.mk a5 (Prod.mk a6 (Prod.mk a7 (Prod.mk a8 (Prod.mk a9 (Prod.mk a10 a11))))))))))) fun x4 =>
        some (.inr (.inr (Bool.false, (x4).fst, ((x4).snd).fst, (((x4).snd).snd).fst, ((((((((x4).snd).snd).snd).snd).snd).snd).snd).fst, (((((((((x4).snd).snd).snd).snd).snd).snd).snd).snd).fst, ((((((((((x4).snd).snd).snd).snd).snd).snd).snd).snd).snd).fst, ((((((((((x4).snd).snd).snd).snd).snd).snd).snd).snd).snd).snd)))
    else
      Option.bind (Ev.Seat.lex_reader_one.v7 κ a0 a1 a2 a3 a4 a5 a6 a7 a8 a9 a10 a11) fun x0 =>
        Option.bind (Ev.Seat.lex_reader_one.v9 κ (x0).fst ((x0).snd).fst (((x0).snd).snd).fst ((((x0).snd).snd).snd).fst (((((x0).snd).snd).snd).snd).fst ((((((x0).snd).snd).snd).snd).snd).fst (((((((x0).snd).snd).snd).snd).snd).snd).fst ((((((((x0).snd).snd).snd).snd).snd).snd).snd).fst (((((((((x0).snd).snd).snd).snd).snd).snd).snd).snd).fst ((((((((((x0).snd).snd).snd).snd).snd).snd).snd).snd).snd).fst (((((((((((x0).snd).snd).snd).snd).snd).snd).snd).snd).snd).snd).fst ((((((((((((x0).snd).snd).snd).snd).snd).snd).snd).snd).snd).snd).snd).fst ((((((((((((x0).snd).snd).snd).snd).snd).snd).snd).snd).snd).snd).snd).snd) fun x1 =>
          match x1 with
          | .inl x2 =>
            some (.inl ((x2).fst, ((x2).snd).fst, (((x2).snd).snd).fst, ((((x2).snd).snd).snd).fst, ((((x2).snd).snd).snd).snd))
          | .inr x3 =>
            some (.inr (.inl ((x3).fst, ((x3).snd).fst, (((x3).snd).snd).fst, ((((x3).snd).snd).snd).fst, (((((x3).snd).snd).snd).snd).fst, ((((((x3).snd).snd).snd).snd).snd).fst, (((((((x3).snd).snd).snd).snd).snd).snd).fst, ((((((((x3).snd).snd).snd).snd).snd).snd).snd).fst, (((((((((x3).snd).snd).snd).snd).snd).snd).snd).snd).fst, ((((((((((x3).snd).snd).snd).snd).snd).snd).snd).snd).snd).fst, ((((((((((x3).snd).snd).snd).snd).snd).snd).snd).snd).snd).snd)))
def lex_reader_one (κ : Nat) (a0 : ByteArray) (a1 : Int) (a2 : Int) : Option ((Int × Int × ByteArray × Int × Int) ⊕ (Int × ByteArray × Int × Int × Bool × ByteArray × Int × Int)) :=
  Option.bind (Ev.Seat.lex_reader_next κ a0 a1 a2) fun x0 =>
    Option.bind (Ev.Seat.lex_reader_one.v0 κ (x0).fst ((x0).snd).fst (((x0).snd).snd).fst (((x0).snd).snd).snd (0 : Int) (ByteArray.mk (List.toArray [])) (0 : Int) (0 : Int) (0 : Int) (ByteArray.mk (List.toArray [])) a1 a2) fun x1 =>
      match x1 with
      | .inl x2 =>
        some (.inl ((x2).fst, ((x2).snd).fst, (((x2).snd).snd).fst, ((((x2).snd).snd).snd).fst, ((((x2).snd).snd).snd).snd))
      | .inr x3 =>
        match x3 with
        | .inl x4 =>
          some (.inr (((((((((x4).snd).snd).snd).snd).snd).snd).snd).fst, (((((((((x4).snd).snd).snd).snd).snd).snd).snd).snd).fst, ((((((((((x4).snd).snd).snd).snd).snd).snd).snd).snd).snd).fst, ((((((((((x4).snd).snd).snd).snd).snd).snd).snd).snd).snd).snd, Bool.true, (x4).fst, ((x4).snd).fst, (((x4).snd).snd).fst))
        | .inr x5 =>
          some (.inr ((((((x5).snd).snd).snd).snd).fst, ((((((x5).snd).snd).snd).snd).snd).fst, (((((((x5).snd).snd).snd).snd).snd).snd).fst, (((((((x5).snd).snd).snd).snd).snd).snd).snd, (x5).fst, ((x5).snd).fst, (((x5).snd).snd).fst, ((((x5).snd).snd).snd).fst))
def lex_All_1 (κ : Nat) (a0 : Int) (a1 : Int) (a2 : Int) (a3 : List LexToken) : Option (Int × Int × Int × (List LexToken)) :=
  some (a0, a1, a2, a3)
def lex_All_1_2 (κ : Nat) (a0 : Int) (a1 : Int) (a2 : Int) (a3 : Int) (a4 : Int) (a5 : List LexToken) : Option (Int × Int × Int × (List LexToken)) :=
  some ((20 : Int), a0, a1, a5)
def lex_All.v10 (κ : Nat) (a0 : Bool) (a1 : Int) (a2 : Int) (a3 : Int) (a4 : ByteArray) (a5 : Int) (a6 : Int) (a7 : Int) (a8 : ByteArray) (a9 : Int) (a10 : Int) (a11 : List LexToken) : Option (Int × Int × Int × ByteArray × Int × Int × (List LexToken)) :=
  bif a0 then
    bif (Nat.ble ((List.length a11) + (List.length ((Ev.Seat.LexToken.mk a7 a8 a9 a10) :: []))) (Ev.room (39 + 1))) then
      some (a1, a2, a3, a4, a5, a6, (a11 ++ ((Ev.Seat.LexToken.mk a7 a8 a9 a10) :: [])))
    else
      none
  else
    some (a1, a2, a3, a4, a5, a6, a11)
def lex_All.v9 (κ : Nat) (a0 : Int) (a1 : Int) (a2 : Int) (a3 : ByteArray) (a4 : Int) (a5 : Int) (a6 : List LexToken) : Option ((Int × Int × Int × Int × Int × (List LexToken)) ⊕ (Int × Int × Int × ByteArray × Int × Int × (List LexToken))) :=
  Option.bind (Ev.Seat.lex_reader_one κ a3 a4 a5) fun x0 =>
    match x0 with
    | .inl x1 =>
      some (.inl ((x1).fst, ((x1).snd).fst, a0, a1, a2, a6))
    | .inr x2 =>
      Option.bind (Ev.Seat.lex_All.v10 κ (((((x2).snd).snd).snd).snd).fst a0 a1 a2 ((((((x2).snd).snd).snd).snd).snd).fst (((((((x2).snd).snd).snd).snd).snd).snd).fst (((((((x2).snd).snd).snd).snd).snd).snd).snd (x2).fst ((x2).snd).fst (((x2).snd).snd).fst ((((x2).snd).snd).snd).fst a6) fun x3 =>
        some (.inr ((x3).fst, ((x3).snd).fst, (((x3).snd).snd).fst, ((((x3).snd).snd).snd).fst, (((((x3).snd).snd).snd).snd).fst, ((((((x3).snd).snd).snd).snd).snd).fst, ((((((x3).snd).snd).snd).snd).snd).snd))
def lex_All.w8 (κ : Nat) (rec : (Int × Int × Int × ByteArray × Int × Int × (List LexToken)) → Option ((Int × Int × Int × ByteArray × Int × Int × (List LexToken)) ⊕ (Int × Int × Int × Int × Int × (List LexToken)))) (a0 : Int) (a1 : Int) (a2 : Int) (a3 : ByteArray) (a4 : Int) (a5 : Int) (a6 : List LexToken) : Option ((Int × Int × Int × ByteArray × Int × Int × (List LexToken)) ⊕ (Int × Int × Int × Int × Int × (List LexToken))) :=
  bif (!(Ev.seq a3 (ByteArray.mk (List.toArray [])))) then
    Option.bind (Ev.Seat.lex_All.v9 κ a0 a1 a2 a3 a4 a5 a6) fun x0 =>
      match x0 with
      | .inl x1 =>
        some (.inr ((x1).fst, ((x1).snd).fst, (((x1).snd).snd).fst, ((((x1).snd).snd).snd).fst, (((((x1).snd).snd).snd).snd).fst, (((((x1).snd).snd).snd).snd).snd))
      | .inr x2 =>
        rec ((x2).fst, ((x2).snd).fst, (((x2).snd).snd).fst, ((((x2).snd).snd).snd).fst, (((((x2).snd).snd).snd).snd).fst, ((((((x2).snd).snd).snd).snd).snd).fst, ((((((x2).snd).snd).snd).snd).snd).snd)
  else
    some (.inl (a0, a1, a2, a3, a4, a5, a6))
def lex_All.l8 (κ : Nat) : Nat → (Int × Int × Int × ByteArray × Int × Int × (List LexToken)) → Option ((Int × Int × Int × ByteArray × Int × Int × (List LexToken)) ⊕ (Int × Int × Int × Int × Int × (List LexToken)))
  | 0, _ => none
  | k + 1, (a0, a1, a2, a3, a4, a5, a6) => lex_All.w8 κ (lex_All.l8 κ k) a0 a1 a2 a3 a4 a5 a6
def lex_All (κ : Nat) (a0 : ByteArray) : Option (Int × Int × Int × (List LexToken)) :=
  bif (decide ((((ByteArray.size a0) : Nat) : Int) > (8192 : Int))) then
    some ((14 : Int), (0 : Int), (0 : Int), [])
  else
    Option.bind (Ev.Seat.lex_All.l8 κ κ (Prod.mk (0 : Int) (Prod.mk (0 : Int) (Prod.mk (0 : Int) (Prod.mk a0 (Prod.mk (1 : Int) (Prod.mk (1 : Int) []))))))) fun x0 =>
      match x0 with
      | .inl x1 =>
        bif (Nat.ble ((List.length ((((((x1).snd).snd).snd).snd).snd).snd) + (List.length ((Ev.Seat.LexToken.mk (0 : Int) (ByteArray.mk (List.toArray [])) (((((x1).snd).snd).snd).snd).fst ((((((x1).snd).snd).snd).snd).snd).fst) :: []))) (Ev.room (39 + 1))) then
          some ((0 : Int), (0 : Int), (0 : Int), (((((((x1).snd).snd).snd).snd).snd).snd ++ ((Ev.Seat.LexToken.mk (0 : Int) (ByteArray.mk (List.toArray [])) (((((x1).snd).snd).snd).snd).fst ((((((x1).snd).snd).snd).snd).snd).fst) :: [])))
        else
          none
      | .inr x2 =>
        some ((20 : Int), (x2).fst, ((x2).snd).fst, [])
def lex_Plain.v0 (κ : Nat) (a0 : ByteArray) : Option (Bool) :=
  bif (!(Ev.seq a0 (ByteArray.mk (List.toArray [])))) then
    Option.bind (Ev.Seat.strings_Trim κ a0 (ByteArray.mk (List.toArray (List.append ((97 : UInt8) :: ((98 : UInt8) :: ((99 : UInt8) :: ((100 : UInt8) :: ((101 : UInt8) :: ((102 : UInt8) :: ((103 : UInt8) :: ((104 : UInt8) :: ((105 : UInt8) :: ((106 : UInt8) :: ((107 : UInt8) :: ((108 : UInt8) :: ((109 : UInt8) :: ((110 : UInt8) :: ((111 : UInt8) :: ((112 : UInt8) :: ((113 : UInt8) :: ((114 : UInt8) :: ((115 : UInt8) :: ((116 : UInt8) :: ((117 : UInt8) :: ((118 : UInt8) :: ((119 : UInt8) :: ((120 : UInt8) :: ((121 : UInt8) :: ((122 : UInt8) :: ((65 : UInt8) :: ((66 : UInt8) :: ((67 : UInt8) :: ((68 : UInt8) :: ((69 : UInt8) :: ((70 : UInt8) :: [])))))))))))))))))))))))))))))))) ((71 : UInt8) :: ((72 : UInt8) :: ((73 : UInt8) :: ((74 : UInt8) :: ((75 : UInt8) :: ((76 : UInt8) :: ((77 : UInt8) :: ((78 : UInt8) :: ((79 : UInt8) :: ((80 : UInt8) :: ((81 : UInt8) :: ((82 : UInt8) :: ((83 : UInt8) :: ((84 : UInt8) :: ((85 : UInt8) :: ((86 : UInt8) :: ((87 : UInt8) :: ((88 : UInt8) :: ((89 : UInt8) :: ((90 : UInt8) :: ((48 : UInt8) :: ((49 : UInt8) :: ((50 : UInt8) :: ((51 : UInt8) :: ((52 : UInt8) :: ((53 : UInt8) :: ((54 : UInt8) :: ((55 : UInt8) :: ((56 : UInt8) :: ((57 : UInt8) :: ((95 : UInt8) :: ((45 : UInt8) :: ((46 : UInt8) :: []))))))))))))))))))))))))))))))))))))) fun x0 =>
      some (Ev.seq x0 (ByteArray.mk (List.toArray [])))
  else
    some Bool.false
def lex_Plain (κ : Nat) (a0 : ByteArray) : Option (Bool) :=
  Option.bind (Ev.Seat.lex_Plain.v0 κ a0) fun x0 =>
    some x0
def strings_Builder_WriteByte (κ : Nat) (a0 : Int) : Option ((List Int)) :=
  some (a0 :: [])
def unicode_utf8_ValidRune.v0 (κ : Nat) (a0 : Int) : Option (Int × Bool) :=
  bif (decide ((0 : Int) ≤ a0)) then
    some (a0, (decide (a0 < (55296 : Int))))
  else
    some (a0, Bool.false)
def unicode_utf8_ValidRune.v2 (κ : Nat) (a0 : Int) : Option (Bool) :=
  bif (decide ((57343 : Int) < a0)) then
    some (decide (a0 ≤ (1114111 : Int)))
  else
    some Bool.false
def unicode_utf8_ValidRune (κ : Nat) (a0 : Int) : Option (Bool) :=
  Option.bind (Ev.Seat.unicode_utf8_ValidRune.v0 κ a0) fun x0 =>
    bif (x0).snd then
      some Bool.true
    else
      Option.bind (Ev.Seat.unicode_utf8_ValidRune.v2 κ (x0).fst) fun x1 =>
        bif x1 then
          some Bool.true
        else
          some Bool.false
def strings_IndexRune.v0 (κ : Nat) (a0 : ByteArray) (a1 : Int) : Option (ByteArray × Int × Bool) :=
  bif (decide ((0 : Int) ≤ a1)) then
    some (a0, a1, (decide (a1 < (128 : Int))))
  else
    some (a0, a1, Bool.false)
def strings_IndexRune.w2 (κ : Nat) (rec : (ByteArray × Nat) → Option ((Unit) ⊕ (Int))) (a0 : ByteArray) (a1 : Nat) : Option ((Unit) ⊕ (Int)) :=
  bif (Nat.blt a1 (ByteArray.size a0)) then
    bif ((((Go.Utf8.decode a0 a1).1 : Nat) : Int) == (65533 : Int)) then
      some (.inr ((a1 : Nat) : Int))
    else
      rec (a0, (a1 + (Go.Utf8.decode a0 a1).2))
  else
    some (.inl ())
def strings_IndexRune.l2 (κ : Nat) : Nat → (ByteArray × Nat) → Option ((Unit) ⊕ (Int))
  | 0, _ => none
  | k + 1, (a0, a1) => strings_IndexRune.w2 κ (strings_IndexRune.l2 κ k) a0 a1
def strings_IndexRune.v9 (κ : Nat) (a0 : ByteArray) (a1 : ByteArray) (a2 : Int) (a3 : Int) (a4 : Bool) : Option ((ByteArray × ByteArray × Int × Int) ⊕ (Int)) :=
  bif a4 then
    bif (((decide ((((ByteArray.size a0) : Nat) : Int) ≤ (((ByteArray.size a0) : Nat) : Int))) && (decide ((0 : Int) ≤ (Go.IntKind.wrap Go.IntKind.i64 (a3 + (1 : Int)))))) && (decide ((Go.IntKind.wrap Go.IntKind.i64 (a3 + (1 : Int))) ≤ (((ByteArray.size a0) : Nat) : Int)))) then
      bif (decide ((0 : Int) ≤ a2)) then
        Option.bind ((Array.toList (ByteArray.data a1))[(Int.toNat a2)]?) fun x0 =>
          bif (decide ((Go.Lib.indexByte (Array.toList (ByteArray.data (ByteArray.extract a0 (Int.toNat (Go.IntKind.wrap Go.IntKind.i64 (a3 + (1 : Int)))) (Int.toNat (((ByteArray.size a0) : Nat) : Int))))) (Nat.toUInt8 (Int.toNat (((UInt8.toNat x0) : Nat) : Int)))) < (0 : Int))) then
            some (.inr (-(1 : Int)))
          else
            some (.inl (a0, a1, a2, (Go.IntKind.wrap Go.IntKind.i64 (a3 + (Go.IntKind.wrap Go.IntKind.i64 ((Go.Lib.indexByte (Array.toList (ByteArray.data (ByteArray.extract a0 (Int.toNat (Go.IntKind.wrap Go.IntKind.i64 (a3 + (1 : Int)))) (Int.toNat (((ByteArray.size a0) : Nat) : Int))))) (Nat.toUInt8 (Int.toNat (((UInt8.toNat x0) : Nat) : Int)))) + (1 : Int)))))))
      else
        none
    else
      none
  else
    some (.inl (a0, a1, a2, a3))
def strings_IndexRune.w11 (κ : Nat) (rec : (ByteArray × ByteArray × Int × Int × Int) → Option (Int × Int)) (a0 : ByteArray) (a1 : ByteArray) (a2 : Int) (a3 : Int) (a4 : Int) : Option (Int × Int) :=
  bif (decide (a4 < (((ByteArray.size a1) : Nat) : Int))) then
    bif (decide ((0 : Int) ≤ (Go.IntKind.wrap Go.IntKind.i64 (a3 - a4)))) then
      Option.bind ((Array.toList (ByteArray.data a0))[(Int.toNat (Go.IntKind.wrap Go.IntKind.i64 (a3 - a4)))]?) fun x0 =>
        bif (decide ((0 : Int) ≤ (Go.IntKind.wrap Go.IntKind.i64 (a2 - a4)))) then
          Option.bind ((Array.toList (ByteArray.data a1))[(Int.toNat (Go.IntKind.wrap Go.IntKind.i64 (a2 - a4)))]?) fun x1 =>
            bif ((((UInt8.toNat x0) : Nat) : Int) != (((UInt8.toNat x1) : Nat) : Int)) then
              none
            else
              rec (a0, a1, a2, a3, (Go.IntKind.wrap Go.IntKind.i64 (a4 + (1 : Int))))
        else
          none
    else
      none
  else
    some (a2, a3)
def strings_IndexRune.l11 (κ : Nat) : Nat → (ByteArray × ByteArray × Int × Int × Int) → Option (Int × Int)
  | 0, _ => none
  | k + 1, (a0, a1, a2, a3, a4) => strings_IndexRune.w11 κ (strings_IndexRune.l11 κ k) a0 a1 a2 a3 a4
def strings_IndexRune.w8 (κ : Nat) (rec : (ByteArray × ByteArray × Int × Int) → Option ((Unit) ⊕ (Int))) (a0 : ByteArray) (a1 : ByteArray) (a2 : Int) (a3 : Int) : Option ((Unit) ⊕ (Int)) :=
  bif (decide (a3 < (((ByteArray.size a0) : Nat) : Int))) then
    bif (decide ((0 : Int) ≤ a3)) then
      Option.bind ((Array.toList (ByteArray.data a0))[(Int.toNat a3)]?) fun x0 =>
        bif (decide ((0 : Int) ≤ a2)) then
          Option.bind ((Array.toList (ByteArray.data a1))[(Int.toNat a2)]?) fun x1 =>
            Option.bind (Ev.Seat.strings_IndexRune.v9 κ a0 a1 a2 a3 ((((UInt8.toNat x0) : Nat) : Int) != (((UInt8.toNat x1) : Nat) : Int))) fun x2 =>
              match x2 with
              | .inl x3 =>
                Option.bind (Ev.Seat.strings_IndexRune.l11 κ κ (Prod.mk (x3).fst (Prod.mk ((x3).snd).fst (Prod.mk (((x3).snd).snd).fst (Prod.mk (((x3).snd).snd).snd (1 : Int)))))) fun x4 =>
                  some (.inr (Go.IntKind.wrap Go.IntKind.i64 ((x4).snd - (x4).fst)))
              | .inr x5 =>
                some (.inr x5)
        else
          none
    else
      none
  else
    some (.inl ())
def strings_IndexRune.l8 (κ : Nat) : Nat → (ByteArray × ByteArray × Int × Int) → Option ((Unit) ⊕ (Int))
  | 0, _ => none
  | k + 1, (a0, a1, a2, a3) => strings_IndexRune.w8 κ (strings_IndexRune.l8 κ k) a0 a1 a2 a3
def strings_IndexRune (κ : Nat) (a0 : ByteArray) (a1 : Int) : Option (Int) :=
  Option.bind (Ev.Seat.strings_IndexRune.v0 κ a0 a1) fun x0 =>
    bif ((x0).snd).snd then
      some (Go.Lib.indexByte (Array.toList (ByteArray.data (x0).fst)) (Nat.toUInt8 (Int.toNat (Go.IntKind.wrap Go.IntKind.u8 ((x0).snd).fst))))
    else
      bif (((x0).snd).fst == (65533 : Int)) then
        Option.bind (Ev.Seat.strings_IndexRune.l2 κ κ (Prod.mk (x0).fst 0)) fun x5 =>
          match x5 with
          | .inl x6 =>
            some (-(1 : Int))
          | .inr x7 =>
            some x7
      else
        Option.bind (Ev.Seat.unicode_utf8_ValidRune κ ((x0).snd).fst) fun x1 =>
          bif (!x1) then
            some (-(1 : Int))
          else
            Option.bind (Ev.Seat.strings_IndexRune.l8 κ κ (Prod.mk (x0).fst (Prod.mk (Go.Utf8.encode ((x0).snd).fst) (Prod.mk (Go.IntKind.wrap Go.IntKind.i64 ((((ByteArray.size (Go.Utf8.encode ((x0).snd).fst)) : Nat) : Int) - (1 : Int))) (Go.IntKind.wrap Go.IntKind.i64 ((((ByteArray.size (Go.Utf8.encode ((x0).snd).fst)) : Nat) : Int) - (1 : Int))))))) fun x2 =>
              match x2 with
              | .inl x3 =>
                some (-(1 : Int))
              | .inr x4 =>
                some x4
def unicode_utf8_appendRuneNonASCII.v1 (κ : Nat) (a0 : Int) (a1 : Int) (a2 : List Int) : Option (Int × Int × Bool × (List Int)) :=
  bif (decide ((57343 : Int) < a1)) then
    some (a0, a1, (decide (a1 ≤ (65535 : Int))), a2)
  else
    some (a0, a1, Bool.false, a2)
def unicode_utf8_appendRuneNonASCII.v0 (κ : Nat) (a0 : Int) (a1 : Int) (a2 : Bool) (a3 : List Int) : Option (Int × Int × Bool × (List Int)) :=
  bif a2 then
    some (a0, a1, a2, a3)
  else
    Option.bind (Ev.Seat.unicode_utf8_appendRuneNonASCII.v1 κ a0 a1 a3) fun x0 =>
      some ((x0).fst, ((x0).snd).fst, (((x0).snd).snd).fst, (((x0).snd).snd).snd)
def unicode_utf8_appendRuneNonASCII.v4 (κ : Nat) (a0 : Int) (a1 : Int) (a2 : List Int) : Option (Int × Bool × (List Int)) :=
  bif (decide (a1 > (65535 : Int))) then
    some (a0, (decide (a1 ≤ (1114111 : Int))), a2)
  else
    some (a0, Bool.false, a2)
def unicode_utf8_appendRuneNonASCII (κ : Nat) (a0 : Int) (a1 : List Int) : Option ((List Int)) :=
  bif (decide ((Go.IntKind.wrap Go.IntKind.u32 a0) ≤ (2047 : Int))) then
    bif (Nat.ble ((List.length a1) + (List.length ((Go.IntKind.wrap Go.IntKind.u8 (((BitVec.toNat (HOr.hOr (BitVec.ofInt (Go.IntKind.bits Go.IntKind.u8) (192 : Int)) (BitVec.ofInt (Go.IntKind.bits Go.IntKind.u8) (Go.IntKind.wrap Go.IntKind.u8 (Int.fdiv a0 ((2 : Int) ^ (Min.min (Int.toNat (6 : Int)) (Go.IntKind.bits Go.IntKind.i32)))))))) : Nat) : Int)) :: ((Go.IntKind.wrap Go.IntKind.u8 (((BitVec.toNat (HOr.hOr (BitVec.ofInt (Go.IntKind.bits Go.IntKind.u8) (128 : Int)) (BitVec.ofInt (Go.IntKind.bits Go.IntKind.u8) (Go.IntKind.wrap Go.IntKind.u8 (((BitVec.toNat (HAnd.hAnd (BitVec.ofInt (Go.IntKind.bits Go.IntKind.u8) (Go.IntKind.wrap Go.IntKind.u8 a0)) (BitVec.ofInt (Go.IntKind.bits Go.IntKind.u8) (63 : Int)))) : Nat) : Int))))) : Nat) : Int)) :: [])))) (Ev.room (0 + 1))) then
      some (a1 ++ ((Go.IntKind.wrap Go.IntKind.u8 (((BitVec.toNat (HOr.hOr (BitVec.ofInt (Go.IntKind.bits Go.IntKind.u8) (192 : Int)) (BitVec.ofInt (Go.IntKind.bits Go.IntKind.u8) (Go.IntKind.wrap Go.IntKind.u8 (Int.fdiv a0 ((2 : Int) ^ (Min.min (Int.toNat (6 : Int)) (Go.IntKind.bits Go.IntKind.i32)))))))) : Nat) : Int)) :: ((Go.IntKind.wrap Go.IntKind.u8 (((BitVec.toNat (HOr.hOr (BitVec.ofInt (Go.IntKind.bits Go.IntKind.u8) (128 : Int)) (BitVec.ofInt (Go.IntKind.bits Go.IntKind.u8) (Go.IntKind.wrap Go.IntKind.u8 (((BitVec.toNat (HAnd.hAnd (BitVec.ofInt (Go.IntKind.bits Go.IntKind.u8) (Go.IntKind.wrap Go.IntKind.u8 a0)) (BitVec.ofInt (Go.IntKind.bits Go.IntKind.u8) (63 : Int)))) : Nat) : Int))))) : Nat) : Int)) :: [])))
    else
      none
  else
    Option.bind (Ev.Seat.unicode_utf8_appendRuneNonASCII.v0 κ a0 (Go.IntKind.wrap Go.IntKind.u32 a0) (decide ((Go.IntKind.wrap Go.IntKind.u32 a0) < (55296 : Int))) a1) fun x0 =>
      bif (((x0).snd).snd).fst then
        bif (Nat.ble ((List.length (((x0).snd).snd).snd) + (List.length ((Go.IntKind.wrap Go.IntKind.u8 (((BitVec.toNat (HOr.hOr (BitVec.ofInt (Go.IntKind.bits Go.IntKind.u8) (224 : Int)) (BitVec.ofInt (Go.IntKind.bits Go.IntKind.u8) (Go.IntKind.wrap Go.IntKind.u8 (Int.fdiv (x0).fst ((2 : Int) ^ (Min.min (Int.toNat (12 : Int)) (Go.IntKind.bits Go.IntKind.i32)))))))) : Nat) : Int)) :: ((Go.IntKind.wrap Go.IntKind.u8 (((BitVec.toNat (HOr.hOr (BitVec.ofInt (Go.IntKind.bits Go.IntKind.u8) (128 : Int)) (BitVec.ofInt (Go.IntKind.bits Go.IntKind.u8) (Go.IntKind.wrap Go.IntKind.u8 (((BitVec.toNat (HAnd.hAnd (BitVec.ofInt (Go.IntKind.bits Go.IntKind.u8) (Go.IntKind.wrap Go.IntKind.u8 (Int.fdiv (x0).fst ((2 : Int) ^ (Min.min (Int.toNat (6 : Int)) (Go.IntKind.bits Go.IntKind.i32)))))) (BitVec.ofInt (Go.IntKind.bits Go.IntKind.u8) (63 : Int)))) : Nat) : Int))))) : Nat) : Int)) :: ((Go.IntKind.wrap Go.IntKind.u8 (((BitVec.toNat (HOr.hOr (BitVec.ofInt (Go.IntKind.bits Go.IntKind.u8) (128 : Int)) (BitVec.ofInt (Go.IntKind.bits Go.IntKind.u8) (Go.IntKind.wrap Go.IntKind.u8 (((BitVec.toNat (HAnd.hAnd (BitVec.ofInt (Go.IntKind.bits Go.IntKind.u8) (Go.IntKind.wrap Go.IntKind.u8 (x0).fst)) (BitVec.ofInt (Go.IntKind.bits Go.IntKind.u8) (63 : Int)))) : Nat) : Int))))) : Nat) : Int)) :: []))))) (Ev.room (0 + 1))) then
          some ((((x0).snd).snd).snd ++ ((Go.IntKind.wrap Go.IntKind.u8 (((BitVec.toNat (HOr.hOr (BitVec.ofInt (Go.IntKind.bits Go.IntKind.u8) (224 : Int)) (BitVec.ofInt (Go.IntKind.bits Go.IntKind.u8) (Go.IntKind.wrap Go.IntKind.u8 (Int.fdiv (x0).fst ((2 : Int) ^ (Min.min (Int.toNat (12 : Int)) (Go.IntKind.bits Go.IntKind.i32)))))))) : Nat) : Int)) :: ((Go.IntKind.wrap Go.IntKind.u8 (((BitVec.toNat (HOr.hOr (BitVec.ofInt (Go.IntKind.bits Go.IntKind.u8) (128 : Int)) (BitVec.ofInt (Go.IntKind.bits Go.IntKind.u8) (Go.IntKind.wrap Go.IntKind.u8 (((BitVec.toNat (HAnd.hAnd (BitVec.ofInt (Go.IntKind.bits Go.IntKind.u8) (Go.IntKind.wrap Go.IntKind.u8 (Int.fdiv (x0).fst ((2 : Int) ^ (Min.min (Int.toNat (6 : Int)) (Go.IntKind.bits Go.IntKind.i32)))))) (BitVec.ofInt (Go.IntKind.bits Go.IntKind.u8) (63 : Int)))) : Nat) : Int))))) : Nat) : Int)) :: ((Go.IntKind.wrap Go.IntKind.u8 (((BitVec.toNat (HOr.hOr (BitVec.ofInt (Go.IntKind.bits Go.IntKind.u8) (128 : Int)) (BitVec.ofInt (Go.IntKind.bits Go.IntKind.u8) (Go.IntKind.wrap Go.IntKind.u8 (((BitVec.toNat (HAnd.hAnd (BitVec.ofInt (Go.IntKind.bits Go.IntKind.u8) (Go.IntKind.wrap Go.IntKind.u8 (x0).fst)) (BitVec.ofInt (Go.IntKind.bits Go.IntKind.u8) (63 : Int)))) : Nat) : Int))))) : Nat) : Int)) :: []))))
        else
          none
      else
        Option.bind (Ev.Seat.unicode_utf8_appendRuneNonASCII.v4 κ (x0).fst ((x0).snd).fst (((x0).snd).snd).snd) fun x1 =>
          bif ((x1).snd).fst then
            bif (Nat.ble ((List.length ((x1).snd).snd) + (List.length ((Go.IntKind.wrap Go.IntKind.u8 (((BitVec.toNat (HOr.hOr (BitVec.ofInt (Go.IntKind.bits Go.IntKind.u8) (240 : Int)) (BitVec.ofInt (Go.IntKind.bits Go.IntKind.u8) (Go.IntKind.wrap Go.IntKind.u8 (Int.fdiv (x1).fst ((2 : Int) ^ (Min.min (Int.toNat (18 : Int)) (Go.IntKind.bits Go.IntKind.i32)))))))) : Nat) : Int)) :: ((Go.IntKind.wrap Go.IntKind.u8 (((BitVec.toNat (HOr.hOr (BitVec.ofInt (Go.IntKind.bits Go.IntKind.u8) (128 : Int)) (BitVec.ofInt (Go.IntKind.bits Go.IntKind.u8) (Go.IntKind.wrap Go.IntKind.u8 (((BitVec.toNat (HAnd.hAnd (BitVec.ofInt (Go.IntKind.bits Go.IntKind.u8) (Go.IntKind.wrap Go.IntKind.u8 (Int.fdiv (x1).fst ((2 : Int) ^ (Min.min (Int.toNat (12 : Int)) (Go.IntKind.bits Go.IntKind.i32)))))) (BitVec.ofInt (Go.IntKind.bits Go.IntKind.u8) (63 : Int)))) : Nat) : Int))))) : Nat) : Int)) :: ((Go.IntKind.wrap Go.IntKind.u8 (((BitVec.toNat (HOr.hOr (BitVec.ofInt (Go.IntKind.bits Go.IntKind.u8) (128 : Int)) (BitVec.ofInt (Go.IntKind.bits Go.IntKind.u8) (Go.IntKind.wrap Go.IntKind.u8 (((BitVec.toNat (HAnd.hAnd (BitVec.ofInt (Go.IntKind.bits Go.IntKind.u8) (Go.IntKind.wrap Go.IntKind.u8 (Int.fdiv (x1).fst ((2 : Int) ^ (Min.min (Int.toNat (6 : Int)) (Go.IntKind.bits Go.IntKind.i32)))))) (BitVec.ofInt (Go.IntKind.bits Go.IntKind.u8) (63 : Int)))) : Nat) : Int))))) : Nat) : Int)) :: ((Go.IntKind.wrap Go.IntKind.u8 (((BitVec.toNat (HOr.hOr (BitVec.ofInt (Go.IntKind.bits Go.IntKind.u8) (128 : Int)) (BitVec.ofInt (Go.IntKind.bits Go.IntKind.u8) (Go.IntKind.wrap Go.IntKind.u8 (((BitVec.toNat (HAnd.hAnd (BitVec.ofInt (Go.IntKind.bits Go.IntKind.u8) (Go.IntKind.wrap Go.IntKind.u8 (x1).fst)) (BitVec.ofInt (Go.IntKind.bits Go.IntKind.u8) (63 : Int)))) : Nat) : Int))))) : Nat) : Int)) :: [])))))) (Ev.room (0 + 1))) then
              some (((x1).snd).snd ++ ((Go.IntKind.wrap Go.IntKind.u8 (((BitVec.toNat (HOr.hOr (BitVec.ofInt (Go.IntKind.bits Go.IntKind.u8) (240 : Int)) (BitVec.ofInt (Go.IntKind.bits Go.IntKind.u8) (Go.IntKind.wrap Go.IntKind.u8 (Int.fdiv (x1).fst ((2 : Int) ^ (Min.min (Int.toNat (18 : Int)) (Go.IntKind.bits Go.IntKind.i32)))))))) : Nat) : Int)) :: ((Go.IntKind.wrap Go.IntKind.u8 (((BitVec.toNat (HOr.hOr (BitVec.ofInt (Go.IntKind.bits Go.IntKind.u8) (128 : Int)) (BitVec.ofInt (Go.IntKind.bits Go.IntKind.u8) (Go.IntKind.wrap Go.IntKind.u8 (((BitVec.toNat (HAnd.hAnd (BitVec.ofInt (Go.IntKind.bits Go.IntKind.u8) (Go.IntKind.wrap Go.IntKind.u8 (Int.fdiv (x1).fst ((2 : Int) ^ (Min.min (Int.toNat (12 : Int)) (Go.IntKind.bits Go.IntKind.i32)))))) (BitVec.ofInt (Go.IntKind.bits Go.IntKind.u8) (63 : Int)))) : Nat) : Int))))) : Nat) : Int)) :: ((Go.IntKind.wrap Go.IntKind.u8 (((BitVec.toNat (HOr.hOr (BitVec.ofInt (Go.IntKind.bits Go.IntKind.u8) (128 : Int)) (BitVec.ofInt (Go.IntKind.bits Go.IntKind.u8) (Go.IntKind.wrap Go.IntKind.u8 (((BitVec.toNat (HAnd.hAnd (BitVec.ofInt (Go.IntKind.bits Go.IntKind.u8) (Go.IntKind.wrap Go.IntKind.u8 (Int.fdiv (x1).fst ((2 : Int) ^ (Min.min (Int.toNat (6 : Int)) (Go.IntKind.bits Go.IntKind.i32)))))) (BitVec.ofInt (Go.IntKind.bits Go.IntKind.u8) (63 : Int)))) : Nat) : Int))))) : Nat) : Int)) :: ((Go.IntKind.wrap Go.IntKind.u8 (((BitVec.toNat (HOr.hOr (BitVec.ofInt (Go.IntKind.bits Go.IntKind.u8) (128 : Int)) (BitVec.ofInt (Go.IntKind.bits Go.IntKind.u8) (Go.IntKind.wrap Go.IntKind.u8 (((BitVec.toNat (HAnd.hAnd (BitVec.ofInt (Go.IntKind.bits Go.IntKind.u8) (Go.IntKind.wrap Go.IntKind.u8 (x1).fst)) (BitVec.ofInt (Go.IntKind.bits Go.IntKind.u8) (63 : Int)))) : Nat) : Int))))) : Nat) : Int)) :: [])))))
            else
              none
          else
            bif (Nat.ble ((List.length ((x1).snd).snd) + (List.length ((239 : Int) :: ((191 : Int) :: ((189 : Int) :: []))))) (Ev.room (0 + 1))) then
              some (((x1).snd).snd ++ ((239 : Int) :: ((191 : Int) :: ((189 : Int) :: []))))
            else
              none
def unicode_utf8_AppendRune (κ : Nat) (a0 : Int) (a1 : List Int) : Option ((List Int)) :=
  bif (decide ((Go.IntKind.wrap Go.IntKind.u32 a0) ≤ (127 : Int))) then
    bif (Nat.ble ((List.length a1) + (List.length ((Go.IntKind.wrap Go.IntKind.u8 a0) :: []))) (Ev.room (0 + 1))) then
      some (a1 ++ ((Go.IntKind.wrap Go.IntKind.u8 a0) :: []))
    else
      none
  else
    Option.bind (Ev.Seat.unicode_utf8_appendRuneNonASCII κ a0 a1) fun x0 =>
      some x0
def strings_Builder_WriteRune (κ : Nat) (a0 : Int) (a1 : List Int) : Option (Int × (List Int)) :=
  Option.bind (Ev.Seat.unicode_utf8_AppendRune κ a0 a1) fun x0 =>
    some ((Go.IntKind.wrap Go.IntKind.i64 ((((List.length x0) : Nat) : Int) - (((List.length a1) : Nat) : Int))), x0)
def strings_Builder_WriteByte_2 (κ : Nat) (a0 : Int) (a1 : List Int) : Option ((List Int)) :=
  bif (Nat.ble ((List.length a1) + (List.length (a0 :: []))) (Ev.room (0 + 1))) then
    some (a1 ++ (a0 :: []))
  else
    none
def lex_Quote.v14 (κ : Nat) (a0 : ByteArray) (a1 : Int) (a2 : Int) (a3 : Int) (a4 : Int) (a5 : ByteArray) (a6 : Nat) (a7 : List Int) : Option (ByteArray × Int × Int × Int × Bool × ByteArray × Nat × (List Int)) :=
  bif (a2 == (65533 : Int)) then
    some (a0, a1, a2, a4, (decide (a3 < (2 : Int))), a5, a6, a7)
  else
    some (a0, a1, a2, a4, Bool.false, a5, a6, a7)
def lex_Quote.v17 (κ : Nat) (a0 : ByteArray) (a1 : Int) (a2 : Int) (a3 : Int) (a4 : ByteArray) (a5 : Nat) (a6 : List Int) : Option (ByteArray × Int × Int × Int × Bool × ByteArray × Nat × (List Int)) :=
  bif (decide (a3 < (0 : Int))) then
    bif (decide (a2 < (32 : Int))) then
      some (a0, a1, a2, a3, Bool.true, a4, a5, a6)
    else
      some (a0, a1, a2, a3, (a2 == (127 : Int)), a4, a5, a6)
  else
    some (a0, a1, a2, a3, Bool.false, a4, a5, a6)
def lex_Quote.v16 (κ : Nat) (a0 : ByteArray) (a1 : Int) (a2 : Int) (a3 : Int) (a4 : Bool) (a5 : ByteArray) (a6 : Nat) (a7 : List Int) : Option (ByteArray × Int × Int × Int × Bool × ByteArray × Nat × (List Int)) :=
  bif a4 then
    some (a0, a1, a2, a3, a4, a5, a6, a7)
  else
    Option.bind (Ev.Seat.lex_Quote.v17 κ a0 a1 a2 a3 a5 a6 a7) fun x0 =>
      some ((x0).fst, ((x0).snd).fst, (((x0).snd).snd).fst, ((((x0).snd).snd).snd).fst, (((((x0).snd).snd).snd).snd).fst, ((((((x0).snd).snd).snd).snd).snd).fst, (((((((x0).snd).snd).snd).snd).snd).snd).fst, (((((((x0).snd).snd).snd).snd).snd).snd).snd)
def lex_Quote.v21 (κ : Nat) (a0 : ByteArray) (a1 : Int) (a2 : Int) (a3 : Bool) (a4 : ByteArray) (a5 : Nat) (a6 : List Int) : Option (ByteArray × ByteArray × Nat × (List Int)) :=
  bif a3 then
    bif ((((decide ((0 : Int) ≤ (Go.IntKind.wrap Go.IntKind.i64 (a2 + (1 : Int))))) && (decide ((Go.IntKind.wrap Go.IntKind.i64 (a2 + (1 : Int))) ≤ (((ByteArray.size (ByteArray.mk (List.toArray ((34 : UInt8) :: ((92 : UInt8) :: ((110 : UInt8) :: ((116 : UInt8) :: []))))))) : Nat) : Int)))) && (decide ((0 : Int) ≤ a2))) && (decide (a2 ≤ (Go.IntKind.wrap Go.IntKind.i64 (a2 + (1 : Int)))))) then
      bif (Nat.ble ((ByteArray.size (ByteArray.mk (List.toArray ((92 : UInt8) :: [])))) + (ByteArray.size (ByteArray.extract (ByteArray.mk (List.toArray ((34 : UInt8) :: ((92 : UInt8) :: ((110 : UInt8) :: ((116 : UInt8) :: [])))))) (Int.toNat a2) (Int.toNat (Go.IntKind.wrap Go.IntKind.i64 (a2 + (1 : Int))))))) Ev.maxI) then
        Option.bind (Ev.Seat.strings_Builder_WriteString_3 κ ((ByteArray.mk (List.toArray ((92 : UInt8) :: []))) ++ (ByteArray.extract (ByteArray.mk (List.toArray ((34 : UInt8) :: ((92 : UInt8) :: ((110 : UInt8) :: ((116 : UInt8) :: [])))))) (Int.toNat a2) (Int.toNat (Go.IntKind.wrap Go.IntKind.i64 (a2 + (1 : Int)))))) a6) fun x1 =>
          some (a0, a4, a5, (x1).snd)
      else
        none
    else
      none
  else
    Option.bind (Ev.Seat.strings_Builder_WriteRune κ a1 a6) fun x0 =>
      some (a0, a4, a5, (x0).snd)
def lex_Quote.v20 (κ : Nat) (a0 : ByteArray) (a1 : Int) (a2 : Int) (a3 : Int) (a4 : Bool) (a5 : ByteArray) (a6 : Nat) (a7 : List Int) : Option (ByteArray × ByteArray × Nat × (List Int)) :=
  bif a4 then
    bif (decide ((0 : Int) ≤ a1)) then
      Option.bind ((Array.toList (ByteArray.data a0))[(Int.toNat a1)]?) fun x1 =>
        bif (decide ((0 : Int) ≤ a1)) then
          Option.bind ((Array.toList (ByteArray.data a0))[(Int.toNat a1)]?) fun x2 =>
            bif ((((decide ((0 : Int) ≤ (Go.IntKind.wrap Go.IntKind.u8 ((Int.fdiv (((UInt8.toNat x2) : Nat) : Int) ((2 : Int) ^ (Min.min (Int.toNat (4 : Int)) (Go.IntKind.bits Go.IntKind.u8)))) + (1 : Int))))) && (decide ((Go.IntKind.wrap Go.IntKind.u8 ((Int.fdiv (((UInt8.toNat x2) : Nat) : Int) ((2 : Int) ^ (Min.min (Int.toNat (4 : Int)) (Go.IntKind.bits Go.IntKind.u8)))) + (1 : Int))) ≤ (((ByteArray.size (ByteArray.mk (List.toArray ((48 : UInt8) :: ((49 : UInt8) :: ((50 : UInt8) :: ((51 : UInt8) :: ((52 : UInt8) :: ((53 : UInt8) :: ((54 : UInt8) :: ((55 : UInt8) :: ((56 : UInt8) :: ((57 : UInt8) :: ((97 : UInt8) :: ((98 : UInt8) :: ((99 : UInt8) :: ((100 : UInt8) :: ((101 : UInt8) :: ((102 : UInt8) :: []))))))))))))))))))) : Nat) : Int)))) && (decide ((0 : Int) ≤ (Int.fdiv (((UInt8.toNat x1) : Nat) : Int) ((2 : Int) ^ (Min.min (Int.toNat (4 : Int)) (Go.IntKind.bits Go.IntKind.u8))))))) && (decide ((Int.fdiv (((UInt8.toNat x1) : Nat) : Int) ((2 : Int) ^ (Min.min (Int.toNat (4 : Int)) (Go.IntKind.bits Go.IntKind.u8)))) ≤ (Go.IntKind.wrap Go.IntKind.u8 ((Int.fdiv (((UInt8.toNat x2) : Nat) : Int) ((2 : Int) ^ (Min.min (Int.toNat (4 : Int)) (Go.IntKind.bits Go.IntKind.u8)))) + (1 : Int)))))) then
              bif (Nat.ble ((ByteArray.size (ByteArray.mk (List.toArray ((92 : UInt8) :: ((120 : UInt8) :: []))))) + (ByteArray.size (ByteArray.extract (ByteArray.mk (List.toArray ((48 : UInt8) :: ((49 : UInt8) :: ((50 : UInt8) :: ((51 : UInt8) :: ((52 : UInt8) :: ((53 : UInt8) :: ((54 : UInt8) :: ((55 : UInt8) :: ((56 : UInt8) :: ((57 : UInt8) :: ((97 : UInt8) :: ((98 : UInt8) :: ((99 : UInt8) :: ((100 : UInt8) :: ((101 : UInt8) :: ((102 : UInt8) :: [])))))))))))))))))) (Int.toNat (Int.fdiv (((UInt8.toNat x1) : Nat) : Int) ((2 : Int) ^ (Min.min (Int.toNat (4 : Int)) (Go.IntKind.bits Go.IntKind.u8))))) (Int.toNat (Go.IntKind.wrap Go.IntKind.u8 ((Int.fdiv (((UInt8.toNat x2) : Nat) : Int) ((2 : Int) ^ (Min.min (Int.toNat (4 : Int)) (Go.IntKind.bits Go.IntKind.u8)))) + (1 : Int))))))) Ev.maxI) then
                bif (decide ((0 : Int) ≤ a1)) then
                  Option.bind ((Array.toList (ByteArray.data a0))[(Int.toNat a1)]?) fun x3 =>
                    bif (decide ((0 : Int) ≤ a1)) then
                      Option.bind ((Array.toList (ByteArray.data a0))[(Int.toNat a1)]?) fun x4 =>
                        bif (((decide ((Go.IntKind.wrap Go.IntKind.u8 ((Go.IntKind.wrap Go.IntKind.u8 (((BitVec.toNat (HAnd.hAnd (BitVec.ofInt (Go.IntKind.bits Go.IntKind.u8) (((UInt8.toNat x4) : Nat) : Int)) (BitVec.ofInt (Go.IntKind.bits Go.IntKind.u8) (15 : Int)))) : Nat) : Int)) + (1 : Int))) ≤ (((ByteArray.size (ByteArray.mk (List.toArray ((48 : UInt8) :: ((49 : UInt8) :: ((50 : UInt8) :: ((51 : UInt8) :: ((52 : UInt8) :: ((53 : UInt8) :: ((54 : UInt8) :: ((55 : UInt8) :: ((56 : UInt8) :: ((57 : UInt8) :: ((97 : UInt8) :: ((98 : UInt8) :: ((99 : UInt8) :: ((100 : UInt8) :: ((101 : UInt8) :: ((102 : UInt8) :: []))))))))))))))))))) : Nat) : Int))) && (decide ((0 : Int) ≤ (Go.IntKind.wrap Go.IntKind.u8 (((BitVec.toNat (HAnd.hAnd (BitVec.ofInt (Go.IntKind.bits Go.IntKind.u8) (((UInt8.toNat x3) : Nat) : Int)) (BitVec.ofInt (Go.IntKind.bits Go.IntKind.u8) (15 : Int)))) : Nat) : Int))))) && (decide ((Go.IntKind.wrap Go.IntKind.u8 (((BitVec.toNat (HAnd.hAnd (BitVec.ofInt (Go.IntKind.bits Go.IntKind.u8) (((UInt8.toNat x3) : Nat) : Int)) (BitVec.ofInt (Go.IntKind.bits Go.IntKind.u8) (15 : Int)))) : Nat) : Int)) ≤ (Go.IntKind.wrap Go.IntKind.u8 ((Go.IntKind.wrap Go.IntKind.u8 (((BitVec.toNat (HAnd.hAnd (BitVec.ofInt (Go.IntKind.bits Go.IntKind.u8) (((UInt8.toNat x4) : Nat) : Int)) (BitVec.ofInt (Go.IntKind.bits Go.IntKind.u8) (15 : Int)))) : Nat) : Int)) + (1 : Int)))))) then
                          bif (Nat.ble ((ByteArray.size ((ByteArray.mk (List.toArray ((92 : UInt8) :: ((120 : UInt8) :: [])))) ++ (ByteArray.extract (ByteArray.mk (List.toArray ((48 : UInt8) :: ((49 : UInt8) :: ((50 : UInt8) :: ((51 : UInt8) :: ((52 : UInt8) :: ((53 : UInt8) :: ((54 : UInt8) :: ((55 : UInt8) :: ((56 : UInt8) :: ((57 : UInt8) :: ((97 : UInt8) :: ((98 : UInt8) :: ((99 : UInt8) :: ((100 : UInt8) :: ((101 : UInt8) :: ((102 : UInt8) :: [])))))))))))))))))) (Int.toNat (Int.fdiv (((UInt8.toNat x1) : Nat) : Int) ((2 : Int) ^ (Min.min (Int.toNat (4 : Int)) (Go.IntKind.bits Go.IntKind.u8))))) (Int.toNat (Go.IntKind.wrap Go.IntKind.u8 ((Int.fdiv (((UInt8.toNat x2) : Nat) : Int) ((2 : Int) ^ (Min.min (Int.toNat (4 : Int)) (Go.IntKind.bits Go.IntKind.u8)))) + (1 : Int))))))) + (ByteArray.size (ByteArray.extract (ByteArray.mk (List.toArray ((48 : UInt8) :: ((49 : UInt8) :: ((50 : UInt8) :: ((51 : UInt8) :: ((52 : UInt8) :: ((53 : UInt8) :: ((54 : UInt8) :: ((55 : UInt8) :: ((56 : UInt8) :: ((57 : UInt8) :: ((97 : UInt8) :: ((98 : UInt8) :: ((99 : UInt8) :: ((100 : UInt8) :: ((101 : UInt8) :: ((102 : UInt8) :: [])))))))))))))))))) (Int.toNat (Go.IntKind.wrap Go.IntKind.u8 (((BitVec.toNat (HAnd.hAnd (BitVec.ofInt (Go.IntKind.bits Go.IntKind.u8) (((UInt8.toNat x3) : Nat) : Int)) (BitVec.ofInt (Go.IntKind.bits Go.IntKind.u8) (15 : Int)))) : Nat) : Int))) (Int.toNat (Go.IntKind.wrap Go.IntKind.u8 ((Go.IntKind.wrap Go.IntKind.u8 (((BitVec.toNat (HAnd.hAnd (BitVec.ofInt (Go.IntKind.bits Go.IntKind.u8) (((UInt8.toNat x4) : Nat) : Int)) (BitVec.ofInt (Go.IntKind.bits Go.IntKind.u8) (15 : Int)))) : Nat) : Int)) + (1 : Int))))))) Ev.maxI) then
                            Option.bind (Ev.Seat.strings_Builder_WriteString_3 κ (((ByteArray.mk (List.toArray ((92 : UInt8) :: ((120 : UInt8) :: [])))) ++ (ByteArray.extract (ByteArray.mk (List.toArray ((48 : UInt8) :: ((49 : UInt8) :: ((50 : UInt8) :: ((51 : UInt8) :: ((52 : UInt8) :: ((53 : UInt8) :: ((54 : UInt8) :: ((55 : UInt8) :: ((56 : UInt8) :: ((57 : UInt8) :: ((97 : UInt8) :: ((98 : UInt8) :: ((99 : UInt8) :: ((100 : UInt8) :: ((101 : UInt8) :: ((102 : UInt8) :: [])))))))))))))))))) (Int.toNat (Int.fdiv (((UInt8.toNat x1) : Nat) : Int) ((2 : Int) ^ (Min.min (Int.toNat (4 : Int)) (Go.IntKind.bits Go.IntKind.u8))))) (Int.toNat (Go.IntKind.wrap Go.IntKind.u8 ((Int.fdiv (((UInt8.toNat x2) : Nat) : Int) ((2 : Int) ^ (Min.min (Int.toNat (4 : Int)) (Go.IntKind.bits Go.IntKind.u8)))) + (1 : Int)))))) ++ (ByteArray.extract (ByteArray.mk (List.toArray ((48 : UInt8) :: ((49 : UInt8) :: ((50 : UInt8) :: ((51 : UInt8) :: ((52 : UInt8) :: ((53 : UInt8) :: ((54 : UInt8) :: ((55 : UInt8) :: ((56 : UInt8) :: ((57 : UInt8) :: ((97 : UInt8) :: ((98 : UInt8) :: ((99 : UInt8) :: ((100 : UInt8) :: ((101 : UInt8) :: ((102 : UInt8) :: [])))))))))))))))))) (Int.toNat (Go.IntKind.wrap Go.IntKind.u8 (((BitVec.toNat (HAnd.hAnd (BitVec.ofInt (Go.IntKind.bits Go.IntKind.u8) (((UInt8.toNat x3) : Nat) : Int)) (BitVec.ofInt (Go.IntKind.bits Go.IntKind.u8) (15 : Int)))) : Nat) : Int))) (Int.toNat (Go.IntKind.wrap Go.IntKind.u8 ((Go.IntKind.wrap Go.IntKind.u8 (((BitVec.toNat (HAnd.hAnd (BitVec.ofInt (Go.IntKind.bits Go.IntKind.u8) (((UInt8.toNat x4) : Nat) : Int)) (BitVec.ofInt (Go.IntKind.bits Go.IntKind.u8) (15 : Int)))) : Nat) : Int)) + (1 : Int)))))) a7) fun x5 =>
                              some (a0, a5, a6, (x5).snd)
                          else
                            none
                        else
                          none
                    else
                      none
                else
                  none
              else
                none
            else
              none
        else
          none
    else
      none
  else
    Option.bind (Ev.Seat.lex_Quote.v21 κ a0 a2 a3 (decide (a3 ≥ (0 : Int))) a5 a6 a7) fun x0 =>
      some ((x0).fst, ((x0).snd).fst, (((x0).snd).snd).fst, (((x0).snd).snd).snd)
def lex_Quote.v13 (κ : Nat) (a0 : ByteArray) (a1 : Int) (a2 : Int) (a3 : Int) (a4 : Int) (a5 : ByteArray) (a6 : Nat) (a7 : List Int) : Option (ByteArray × ByteArray × Nat × (List Int)) :=
  Option.bind (Ev.Seat.lex_Quote.v14 κ a0 a1 a2 a3 a4 a5 a6 a7) fun x0 =>
    Option.bind (Ev.Seat.lex_Quote.v16 κ (x0).fst ((x0).snd).fst (((x0).snd).snd).fst ((((x0).snd).snd).snd).fst (((((x0).snd).snd).snd).snd).fst ((((((x0).snd).snd).snd).snd).snd).fst (((((((x0).snd).snd).snd).snd).snd).snd).fst (((((((x0).snd).snd).snd).snd).snd).snd).snd) fun x1 =>
      Option.bind (Ev.Seat.lex_Quote.v20 κ (x1).fst ((x1).snd).fst (((x1).snd).snd).fst ((((x1).snd).snd).snd).fst (((((x1).snd).snd).snd).snd).fst ((((((x1).snd).snd).snd).snd).snd).fst (((((((x1).snd).snd).snd).snd).snd).snd).fst (((((((x1).snd).snd).snd).snd).snd).snd).snd) fun x2 =>
        some ((x2).fst, ((x2).snd).fst, (((x2).snd).snd).fst, (((x2).snd).snd).snd)
def lex_Quote.w12 (κ : Nat) (rec : (ByteArray × ByteArray × Nat × (List Int)) → Option ((List Int))) (a0 : ByteArray) (a1 : ByteArray) (a2 : Nat) (a3 : List Int) : Option ((List Int)) :=
  bif (Nat.blt a2 (ByteArray.size a1)) then
    bif (((decide ((((ByteArray.size a0) : Nat) : Int) ≤ (((ByteArray.size a0) : Nat) : Int))) && (decide ((0 : Int) ≤ ((a2 : Nat) : Int)))) && (decide (((a2 : Nat) : Int) ≤ (((ByteArray.size a0) : Nat) : Int)))) then
      Option.bind (Ev.Seat.strings_IndexRune κ (ByteArray.mk (List.toArray ((34 : UInt8) :: ((92 : UInt8) :: ((10 : UInt8) :: ((9 : UInt8) :: [])))))) (((Go.Utf8.decode a1 a2).1 : Nat) : Int)) fun x0 =>
        Option.bind (Ev.Seat.lex_Quote.v13 κ a0 ((a2 : Nat) : Int) (((Go.Utf8.decode a1 a2).1 : Nat) : Int) (((Go.Lib.decodeGo (ByteArray.extract a0 (Int.toNat ((a2 : Nat) : Int)) (Int.toNat (((ByteArray.size a0) : Nat) : Int)))).2 : Nat) : Int) x0 a1 (a2 + (Go.Utf8.decode a1 a2).2) a3) fun x1 =>
          rec ((x1).fst, ((x1).snd).fst, (((x1).snd).snd).fst, (((x1).snd).snd).snd)
    else
      none
  else
    some a3
def lex_Quote.l12 (κ : Nat) : Nat → (ByteArray × ByteArray × Nat × (List Int)) → Option ((List Int))
  | 0, _ => none
  | k + 1, (a0, a1, a2, a3) => lex_Quote.w12 κ (lex_Quote.l12 κ k) a0 a1 a2 a3
def lex_Quote (κ : Nat) (a0 : ByteArray) : Option (ByteArray) :=
  Option.bind (Ev.Seat.lex_Quote.l12 κ κ (Prod.mk a0 (Prod.mk a0 (Prod.mk 0 ((34 : Int) :: []))))) fun x0 =>
    Option.bind (Ev.Seat.strings_Builder_WriteByte_2 κ (34 : Int) x0) fun x1 =>
      Option.bind (Ev.Seat.strings_Builder_String_3 κ x1) fun x2 =>
        some x2
def tollbarlaw05_awake.v0 (κ : Nat) (a0 : Int) (a1 : Int) (a2 : List LexToken) (a3 : Int) (a4 : Int) : Option (Bool × (List LexToken)) :=
  bif (a0 != (0 : Int)) then
    some (Bool.true, a2)
  else
    bif ((((List.length a2) : Nat) : Int) != (4 : Int)) then
      some (Bool.true, a2)
    else
      bif (a1 != (20 : Int)) then
        some (Bool.true, a2)
      else
        some ((!((a3 == (2 : Int)) && (a4 == (2 : Int)))), a2)
def tollbarlaw05_awake.v2 (κ : Nat) (a0 : List LexToken) : Option (Bool) :=
  bif (Nat.blt (Int.toNat (0 : Int)) (List.length a0)) then
    Option.bind (a0[(Int.toNat (0 : Int))]?) fun x0 =>
      bif ((Ev.Seat.LexToken.kind x0) == (1 : Int)) then
        bif (Nat.blt (Int.toNat (1 : Int)) (List.length a0)) then
          Option.bind (a0[(Int.toNat (1 : Int))]?) fun x1 =>
            bif (((Ev.Seat.LexToken.kind x1) == (2 : Int)) && ((Ev.seq (Ev.Seat.LexToken.text x1) (ByteArray.mk (List.toArray ((98 : UInt8) :: ((65 : UInt8) :: []))))) && (((Ev.Seat.LexToken.at__line x1) == (1 : Int)) && ((Ev.Seat.LexToken.at__col x1) == (3 : Int))))) then
              bif (Nat.blt (Int.toNat (2 : Int)) (List.length a0)) then
                Option.bind (a0[(Int.toNat (2 : Int))]?) fun x2 =>
                  bif ((Ev.Seat.LexToken.kind x2) == (5 : Int)) then
                    bif (Nat.blt (Int.toNat (2 : Int)) (List.length a0)) then
                      Option.bind (a0[(Int.toNat (2 : Int))]?) fun x3 =>
                        bif ((Ev.Seat.LexToken.at__col x3) == (10 : Int)) then
                          bif (Nat.blt (Int.toNat (3 : Int)) (List.length a0)) then
                            Option.bind (a0[(Int.toNat (3 : Int))]?) fun x4 =>
                              bif ((Ev.Seat.LexToken.kind x4) == (0 : Int)) then
                                bif (Nat.blt (Int.toNat (3 : Int)) (List.length a0)) then
                                  Option.bind (a0[(Int.toNat (3 : Int))]?) fun x5 =>
                                    bif ((Ev.Seat.LexToken.at__col x5) == (11 : Int)) then
                                      Option.bind (Ev.Seat.lex_Quote κ (ByteArray.mk (List.toArray ((97 : UInt8) :: ((10 : UInt8) :: []))))) fun x6 =>
                                        some (Ev.seq x6 (ByteArray.mk (List.toArray ((34 : UInt8) :: ((97 : UInt8) :: ((92 : UInt8) :: ((110 : UInt8) :: ((34 : UInt8) :: []))))))))
                                    else
                                      some Bool.false
                                else
                                  none
                              else
                                some Bool.false
                          else
                            none
                        else
                          some Bool.false
                    else
                      none
                  else
                    some Bool.false
              else
                none
            else
              some Bool.false
        else
          none
      else
        some Bool.false
  else
    none
def tollbarlaw05_awake (κ : Nat)  : Option (Bool) :=
  Option.bind (Ev.Seat.lex_All κ (ByteArray.mk (List.toArray ((97 : UInt8) :: ((32 : UInt8) :: ((34 : UInt8) :: ((98 : UInt8) :: ((92 : UInt8) :: ((120 : UInt8) :: ((52 : UInt8) :: ((49 : UInt8) :: ((34 : UInt8) :: ((59 : UInt8) :: []))))))))))))) fun x0 =>
    Option.bind (Ev.Seat.lex_All κ (ByteArray.mk (List.toArray ((97 : UInt8) :: ((98 : UInt8) :: ((10 : UInt8) :: ((32 : UInt8) :: ((64 : UInt8) :: [])))))))) fun x1 =>
      Option.bind (Ev.Seat.tollbarlaw05_awake.v0 κ (x0).fst (x1).fst (((x0).snd).snd).snd ((x1).snd).fst (((x1).snd).snd).fst) fun x2 =>
        bif (x2).fst then
          some Bool.false
        else
          Option.bind (Ev.Seat.tollbarlaw05_awake.v2 κ (x2).snd) fun x3 =>
            some x3
def tollbarref05_size (κ : Nat) (a0 : Int) : Option (Int) :=
  bif (decide (a0 < (128 : Int))) then
    some (1 : Int)
  else
    bif (decide (a0 < (2048 : Int))) then
      some (2 : Int)
    else
      bif (decide (a0 < (65536 : Int))) then
        some (3 : Int)
      else
        some (4 : Int)
def tollbarref05_Signs.v18 (κ : Nat) (a0 : ByteArray) (a1 : Int) (a2 : Int) (a3 : Int) (a4 : Int) (a5 : Int) (a6 : List Tollbarref05S) (a7 : ByteArray) (a8 : Nat) : Option (ByteArray × Int × Int × Int × Int × Int × Bool × (List Tollbarref05S) × ByteArray × Nat) :=
  bif (decide ((Go.IntKind.wrap Go.IntKind.i64 (a3 + a5)) ≤ (((ByteArray.size a0) : Nat) : Int))) then
    bif ((((decide ((0 : Int) ≤ (Go.IntKind.wrap Go.IntKind.i64 (a3 + a5)))) && (decide ((Go.IntKind.wrap Go.IntKind.i64 (a3 + a5)) ≤ (((ByteArray.size a0) : Nat) : Int)))) && (decide ((0 : Int) ≤ a3))) && (decide (a3 ≤ (Go.IntKind.wrap Go.IntKind.i64 (a3 + a5))))) then
      some (a0, a1, a2, a3, a4, a5, (Ev.seq (ByteArray.extract a0 (Int.toNat a3) (Int.toNat (Go.IntKind.wrap Go.IntKind.i64 (a3 + a5)))) (Go.Utf8.encode a4)), a6, a7, a8)
    else
      none
  else
    some (a0, a1, a2, a3, a4, a5, Bool.false, a6, a7, a8)
def tollbarref05_Signs.v20 (κ : Nat) (a0 : ByteArray) (a1 : Int) (a2 : Int) (a3 : Int) (a4 : Int) (a5 : Int) (a6 : Bool) (a7 : Bool) (a8 : List Tollbarref05S) (a9 : ByteArray) (a10 : Nat) : Option (ByteArray × Int × Int × Int × Int × Int × Bool × (List Tollbarref05S) × ByteArray × Nat) :=
  bif a7 then
    some (a0, a1, a2, a3, a4, (1 : Int), a6, a8, a9, a10)
  else
    some (a0, a1, a2, a3, a4, a5, a6, a8, a9, a10)
def tollbarref05_Signs.v22 (κ : Nat) (a0 : ByteArray) (a1 : Int) (a2 : Int) (a3 : Bool) (a4 : List Tollbarref05S) (a5 : ByteArray) (a6 : Nat) : Option (ByteArray × Int × Int × (List Tollbarref05S) × ByteArray × Nat) :=
  bif a3 then
    some (a0, (Go.IntKind.wrap Go.IntKind.i64 (a1 + (1 : Int))), (1 : Int), a4, a5, a6)
  else
    some (a0, a1, a2, a4, a5, a6)
def tollbarref05_Signs.v17 (κ : Nat) (a0 : ByteArray) (a1 : Int) (a2 : Int) (a3 : Bool) (a4 : Int) (a5 : Int) (a6 : List Tollbarref05S) (a7 : ByteArray) (a8 : Nat) : Option (ByteArray × Int × Int × (List Tollbarref05S) × ByteArray × Nat) :=
  Option.bind (Ev.Seat.tollbarref05_size κ a5) fun x0 =>
    Option.bind (Ev.Seat.tollbarref05_Signs.v18 κ a0 a1 a2 a4 a5 x0 a6 a7 a8) fun x1 =>
      Option.bind (Ev.Seat.tollbarref05_Signs.v20 κ (x1).fst ((x1).snd).fst (((x1).snd).snd).fst ((((x1).snd).snd).snd).fst (((((x1).snd).snd).snd).snd).fst ((((((x1).snd).snd).snd).snd).snd).fst (((((((x1).snd).snd).snd).snd).snd).snd).fst (!(((((((x1).snd).snd).snd).snd).snd).snd).fst) ((((((((x1).snd).snd).snd).snd).snd).snd).snd).fst (((((((((x1).snd).snd).snd).snd).snd).snd).snd).snd).fst (((((((((x1).snd).snd).snd).snd).snd).snd).snd).snd).snd) fun x2 =>
        bif ((((decide ((0 : Int) ≤ (Go.IntKind.wrap Go.IntKind.i64 (((((x2).snd).snd).snd).fst + ((((((x2).snd).snd).snd).snd).snd).fst)))) && (decide ((Go.IntKind.wrap Go.IntKind.i64 (((((x2).snd).snd).snd).fst + ((((((x2).snd).snd).snd).snd).snd).fst)) ≤ (((ByteArray.size (x2).fst) : Nat) : Int)))) && (decide ((0 : Int) ≤ ((((x2).snd).snd).snd).fst))) && (decide (((((x2).snd).snd).snd).fst ≤ (Go.IntKind.wrap Go.IntKind.i64 (((((x2).snd).snd).snd).fst + ((((((x2).snd).snd).snd).snd).snd).fst))))) then
          bif (Nat.ble ((List.length ((((((((x2).snd).snd).snd).snd).snd).snd).snd).fst) + (List.length ((Ev.Seat.Tollbarref05S.mk (ByteArray.extract (x2).fst (Int.toNat ((((x2).snd).snd).snd).fst) (Int.toNat (Go.IntKind.wrap Go.IntKind.i64 (((((x2).snd).snd).snd).fst + ((((((x2).snd).snd).snd).snd).snd).fst)))) (((((((x2).snd).snd).snd).snd).snd).snd).fst ((x2).snd).fst (((x2).snd).snd).fst) :: []))) (Ev.room (39 + 1))) then
            Option.bind (Ev.Seat.tollbarref05_Signs.v22 κ (x2).fst ((x2).snd).fst (Go.IntKind.wrap Go.IntKind.i64 ((((x2).snd).snd).fst + (1 : Int))) ((((((x2).snd).snd).snd).snd).fst == (10 : Int)) (((((((((x2).snd).snd).snd).snd).snd).snd).snd).fst ++ ((Ev.Seat.Tollbarref05S.mk (ByteArray.extract (x2).fst (Int.toNat ((((x2).snd).snd).snd).fst) (Int.toNat (Go.IntKind.wrap Go.IntKind.i64 (((((x2).snd).snd).snd).fst + ((((((x2).snd).snd).snd).snd).snd).fst)))) (((((((x2).snd).snd).snd).snd).snd).snd).fst ((x2).snd).fst (((x2).snd).snd).fst) :: [])) (((((((((x2).snd).snd).snd).snd).snd).snd).snd).snd).fst (((((((((x2).snd).snd).snd).snd).snd).snd).snd).snd).snd) fun x3 =>
              some ((x3).fst, ((x3).snd).fst, (((x3).snd).snd).fst, ((((x3).snd).snd).snd).fst, (((((x3).snd).snd).snd).snd).fst, (((((x3).snd).snd).snd).snd).snd)
          else
            none
        else
          none
def tollbarref05_Signs.w16 (κ : Nat) (rec : (ByteArray × Int × Int × (List Tollbarref05S) × ByteArray × Nat) → Option (Int × Int × (List Tollbarref05S))) (a0 : ByteArray) (a1 : Int) (a2 : Int) (a3 : List Tollbarref05S) (a4 : ByteArray) (a5 : Nat) : Option (Int × Int × (List Tollbarref05S)) :=
  bif (Nat.blt a5 (ByteArray.size a4)) then
    Option.bind (Ev.Seat.tollbarref05_Signs.v17 κ a0 a1 a2 Bool.true ((a5 : Nat) : Int) (((Go.Utf8.decode a4 a5).1 : Nat) : Int) a3 a4 (a5 + (Go.Utf8.decode a4 a5).2)) fun x0 =>
      rec ((x0).fst, ((x0).snd).fst, (((x0).snd).snd).fst, ((((x0).snd).snd).snd).fst, (((((x0).snd).snd).snd).snd).fst, (((((x0).snd).snd).snd).snd).snd)
  else
    some (a1, a2, a3)
def tollbarref05_Signs.l16 (κ : Nat) : Nat → (ByteArray × Int × Int × (List Tollbarref05S) × ByteArray × Nat) → Option (Int × Int × (List Tollbarref05S))
  | 0, _ => none
  | k + 1, (a0, a1, a2, a3, a4, a5) => tollbarref05_Signs.w16 κ (tollbarref05_Signs.l16 κ k) a0 a1 a2 a3 a4 a5
def tollbarref05_Signs (κ : Nat) (a0 : ByteArray) : Option ((List Tollbarref05S)) :=
  Option.bind (Ev.Seat.tollbarref05_Signs.l16 κ κ (Prod.mk a0 (Prod.mk (1 : Int) (Prod.mk (1 : Int) (Prod.mk [] (Prod.mk a0 0)))))) fun x0 =>
    bif (Nat.ble ((List.length ((x0).snd).snd) + (List.length ((Ev.Seat.Tollbarref05S.mk (ByteArray.mk (List.toArray [])) Bool.false (x0).fst ((x0).snd).fst) :: []))) (Ev.room (39 + 1))) then
      some (((x0).snd).snd ++ ((Ev.Seat.Tollbarref05S.mk (ByteArray.mk (List.toArray [])) Bool.false (x0).fst ((x0).snd).fst) :: []))
    else
      none
def tollbarref05_letter.v0 (κ : Nat) (a0 : Int) : Option (Bool) :=
  bif (decide (a0 ≥ (97 : Int))) then
    bif (decide (a0 ≤ (122 : Int))) then
      some Bool.true
    else
      bif (decide (a0 ≥ (65 : Int))) then
        bif (decide (a0 ≤ (90 : Int))) then
          some Bool.true
        else
          bif (decide (a0 ≥ (48 : Int))) then
            bif (decide (a0 ≤ (57 : Int))) then
              some Bool.true
            else
              bif (a0 == (95 : Int)) then
                some Bool.true
              else
                bif (a0 == (45 : Int)) then
                  some Bool.true
                else
                  some (a0 == (46 : Int))
          else
            bif (a0 == (95 : Int)) then
              some Bool.true
            else
              bif (a0 == (45 : Int)) then
                some Bool.true
              else
                some (a0 == (46 : Int))
      else
        bif (decide (a0 ≥ (48 : Int))) then
          bif (decide (a0 ≤ (57 : Int))) then
            some Bool.true
          else
            bif (a0 == (95 : Int)) then
              some Bool.true
            else
              bif (a0 == (45 : Int)) then
                some Bool.true
              else
                some (a0 == (46 : Int))
        else
          bif (a0 == (95 : Int)) then
            some Bool.true
          else
            bif (a0 == (45 : Int)) then
              some Bool.true
            else
              some (a0 == (46 : Int))
  else
    bif (decide (a0 ≥ (65 : Int))) then
      bif (decide (a0 ≤ (90 : Int))) then
        some Bool.true
      else
        bif (decide (a0 ≥ (48 : Int))) then
          bif (decide (a0 ≤ (57 : Int))) then
            some Bool.true
          else
            bif (a0 == (95 : Int)) then
              some Bool.true
            else
              bif (a0 == (45 : Int)) then
                some Bool.true
              else
                some (a0 == (46 : Int))
        else
          bif (a0 == (95 : Int)) then
            some Bool.true
          else
            bif (a0 == (45 : Int)) then
              some Bool.true
            else
              some (a0 == (46 : Int))
    else
      bif (decide (a0 ≥ (48 : Int))) then
        bif (decide (a0 ≤ (57 : Int))) then
          some Bool.true
        else
          bif (a0 == (95 : Int)) then
            some Bool.true
          else
            bif (a0 == (45 : Int)) then
              some Bool.true
            else
              some (a0 == (46 : Int))
      else
        bif (a0 == (95 : Int)) then
          some Bool.true
        else
          bif (a0 == (45 : Int)) then
            some Bool.true
          else
            some (a0 == (46 : Int))
def tollbarref05_letter (κ : Nat) (a0 : ByteArray) : Option (Bool) :=
  bif ((((ByteArray.size a0) : Nat) : Int) != (1 : Int)) then
    some Bool.false
  else
    Option.bind ((Array.toList (ByteArray.data a0))[(Int.toNat (0 : Int))]?) fun x0 =>
      Option.bind (Ev.Seat.tollbarref05_letter.v0 κ (((UInt8.toNat x0) : Nat) : Int)) fun x1 =>
        some x1
def tollbarref05_digit.w0 (κ : Nat) (rec : (ByteArray × Int) → Option ((Unit) ⊕ (Int))) (a0 : ByteArray) (a1 : Int) : Option ((Unit) ⊕ (Int)) :=
  bif (decide (a1 < (16 : Int))) then
    bif ((((decide ((0 : Int) ≤ (Go.IntKind.wrap Go.IntKind.i64 (a1 + (1 : Int))))) && (decide ((Go.IntKind.wrap Go.IntKind.i64 (a1 + (1 : Int))) ≤ (((ByteArray.size (ByteArray.mk (List.toArray ((48 : UInt8) :: ((49 : UInt8) :: ((50 : UInt8) :: ((51 : UInt8) :: ((52 : UInt8) :: ((53 : UInt8) :: ((54 : UInt8) :: ((55 : UInt8) :: ((56 : UInt8) :: ((57 : UInt8) :: ((97 : UInt8) :: ((98 : UInt8) :: ((99 : UInt8) :: ((100 : UInt8) :: ((101 : UInt8) :: ((102 : UInt8) :: []))))))))))))))))))) : Nat) : Int)))) && (decide ((0 : Int) ≤ a1))) && (decide (a1 ≤ (Go.IntKind.wrap Go.IntKind.i64 (a1 + (1 : Int)))))) then
      bif (Ev.seq a0 (ByteArray.extract (ByteArray.mk (List.toArray ((48 : UInt8) :: ((49 : UInt8) :: ((50 : UInt8) :: ((51 : UInt8) :: ((52 : UInt8) :: ((53 : UInt8) :: ((54 : UInt8) :: ((55 : UInt8) :: ((56 : UInt8) :: ((57 : UInt8) :: ((97 : UInt8) :: ((98 : UInt8) :: ((99 : UInt8) :: ((100 : UInt8) :: ((101 : UInt8) :: ((102 : UInt8) :: [])))))))))))))))))) (Int.toNat a1) (Int.toNat (Go.IntKind.wrap Go.IntKind.i64 (a1 + (1 : Int)))))) then
        some (.inr a1)
      else
        rec (a0, (Go.IntKind.wrap Go.IntKind.i64 (a1 + (1 : Int))))
    else
      none
  else
    some (.inl ())
def tollbarref05_digit.l0 (κ : Nat) : Nat → (ByteArray × Int) → Option ((Unit) ⊕ (Int))
  | 0, _ => none
  | k + 1, (a0, a1) => tollbarref05_digit.w0 κ (tollbarref05_digit.l0 κ k) a0 a1
def tollbarref05_digit (κ : Nat) (a0 : ByteArray) : Option (Int) :=
  Option.bind (Ev.Seat.tollbarref05_digit.l0 κ κ (Prod.mk a0 (0 : Int))) fun x0 =>
    match x0 with
    | .inl x1 =>
      some (-(1 : Int))
    | .inr x2 =>
      some x2
def tollbarref05_part.v0 (κ : Nat) (a0 : List Tollbarref05S) (a1 : Int) (a2 : Int) (a3 : Int) (a4 : ByteArray) (a5 : Bool) (a6 : Int) (a7 : Int) : Option ((List Tollbarref05S) × Int × Bool × Int × Int × ByteArray × Bool × Int × Int) :=
  bif (Ev.seq a4 (ByteArray.mk (List.toArray []))) then
    some (a0, a1, Bool.true, a2, a3, a4, a5, a6, a7)
  else
    bif (Ev.seq a4 (ByteArray.mk (List.toArray ((10 : UInt8) :: [])))) then
      some (a0, a1, Bool.true, a2, a3, a4, a5, a6, a7)
    else
      some (a0, a1, (!a5), a2, a3, a4, a5, a6, a7)
def tollbarref05_part.v2 (κ : Nat) (a0 : List Tollbarref05S) (a1 : Int) (a2 : ByteArray) (a3 : Bool) (a4 : Int) (a5 : Int) (a6 : ByteArray) (a7 : Bool) (a8 : Int) (a9 : Int) (a10 : ByteArray) (a11 : Bool) (a12 : Int) (a13 : Int) : Option ((List Tollbarref05S) × Int × ByteArray × Bool × Int × Int × ByteArray × Bool × Int × Int × ByteArray × Bool × Int × Int) :=
  bif a3 then
    some (a0, a1, a2, a3, a4, a5, a6, a7, a8, a9, a10, a11, a12, a13)
  else
    some (a0, a1, a2, (Ev.seq a2 (ByteArray.mk (List.toArray ((92 : UInt8) :: [])))), a4, a5, a6, a7, a8, a9, a10, a11, a12, a13)
def tollbarref05_part (κ : Nat) (a0 : List Tollbarref05S) (a1 : Int) : Option (ByteArray × Int × Int × Int) :=
  bif (decide ((0 : Int) ≤ a1)) then
    Option.bind (a0[(Int.toNat a1)]?) fun x0 =>
      Option.bind (Ev.Seat.tollbarref05_part.v0 κ a0 a1 (0 : Int) (0 : Int) (Ev.Seat.Tollbarref05S.text x0) (Ev.Seat.Tollbarref05S.rune x0) (Ev.Seat.Tollbarref05S.at__line x0) (Ev.Seat.Tollbarref05S.at__col x0)) fun x1 =>
        bif (((x1).snd).snd).fst then
          some ((ByteArray.mk (List.toArray [])), (0 : Int), ((((((((x1).snd).snd).snd).snd).snd).snd).snd).fst, ((((((((x1).snd).snd).snd).snd).snd).snd).snd).snd)
        else
          bif (!(Ev.seq ((((((x1).snd).snd).snd).snd).snd).fst (ByteArray.mk (List.toArray ((92 : UInt8) :: []))))) then
            some (((((((x1).snd).snd).snd).snd).snd).fst, (1 : Int), ((((((((x1).snd).snd).snd).snd).snd).snd).snd).fst, ((((((((x1).snd).snd).snd).snd).snd).snd).snd).snd)
          else
            bif (decide ((0 : Int) ≤ (Go.IntKind.wrap Go.IntKind.i64 (((x1).snd).fst + (1 : Int))))) then
              Option.bind ((x1).fst[(Int.toNat (Go.IntKind.wrap Go.IntKind.i64 (((x1).snd).fst + (1 : Int))))]?) fun x2 =>
                Option.bind (Ev.Seat.tollbarref05_part.v2 κ (x1).fst ((x1).snd).fst (Ev.Seat.Tollbarref05S.text x2) (Ev.seq (Ev.Seat.Tollbarref05S.text x2) (ByteArray.mk (List.toArray ((34 : UInt8) :: [])))) ((((x1).snd).snd).snd).fst (((((x1).snd).snd).snd).snd).fst ((((((x1).snd).snd).snd).snd).snd).fst (((((((x1).snd).snd).snd).snd).snd).snd).fst ((((((((x1).snd).snd).snd).snd).snd).snd).snd).fst ((((((((x1).snd).snd).snd).snd).snd).snd).snd).snd (Ev.Seat.Tollbarref05S.text x2) (Ev.Seat.Tollbarref05S.rune x2) (Ev.Seat.Tollbarref05S.at__line x2) (Ev.Seat.Tollbarref05S.at__col x2)) fun x3 =>
                  bif ((((x3).snd).snd).snd).fst then
                    some ((((((((((((x3).snd).snd).snd).snd).snd).snd).snd).snd).snd).snd).fst, (2 : Int), (((((((((x3).snd).snd).snd).snd).snd).snd).snd).snd).fst, ((((((((((x3).snd).snd).snd).snd).snd).snd).snd).snd).snd).fst)
                  else
                    bif (Ev.seq (((x3).snd).snd).fst (ByteArray.mk (List.toArray ((110 : UInt8) :: [])))) then
                      some ((ByteArray.mk (List.toArray ((10 : UInt8) :: []))), (2 : Int), (((((((((x3).snd).snd).snd).snd).snd).snd).snd).snd).fst, ((((((((((x3).snd).snd).snd).snd).snd).snd).snd).snd).snd).fst)
                    else
                      bif (Ev.seq (((x3).snd).snd).fst (ByteArray.mk (List.toArray ((116 : UInt8) :: [])))) then
                        some ((ByteArray.mk (List.toArray ((9 : UInt8) :: []))), (2 : Int), (((((((((x3).snd).snd).snd).snd).snd).snd).snd).snd).fst, ((((((((((x3).snd).snd).snd).snd).snd).snd).snd).snd).snd).fst)
                      else
                        bif (Ev.seq (((x3).snd).snd).fst (ByteArray.mk (List.toArray ((120 : UInt8) :: [])))) then
                          bif (decide ((0 : Int) ≤ (Go.IntKind.wrap Go.IntKind.i64 (((x3).snd).fst + (2 : Int))))) then
                            Option.bind ((x3).fst[(Int.toNat (Go.IntKind.wrap Go.IntKind.i64 (((x3).snd).fst + (2 : Int))))]?) fun x4 =>
                              Option.bind (Ev.Seat.tollbarref05_digit κ (Ev.Seat.Tollbarref05S.text x4)) fun x5 =>
                                bif (decide (x5 < (0 : Int))) then
                                  bif (decide ((0 : Int) ≤ (Go.IntKind.wrap Go.IntKind.i64 (((x3).snd).fst + (2 : Int))))) then
                                    Option.bind ((x3).fst[(Int.toNat (Go.IntKind.wrap Go.IntKind.i64 (((x3).snd).fst + (2 : Int))))]?) fun x9 =>
                                      some ((ByteArray.mk (List.toArray [])), (0 : Int), (Ev.Seat.Tollbarref05S.at__line x9), (Ev.Seat.Tollbarref05S.at__col x9))
                                  else
                                    none
                                else
                                  bif (decide ((0 : Int) ≤ (Go.IntKind.wrap Go.IntKind.i64 (((x3).snd).fst + (3 : Int))))) then
                                    Option.bind ((x3).fst[(Int.toNat (Go.IntKind.wrap Go.IntKind.i64 (((x3).snd).fst + (3 : Int))))]?) fun x6 =>
                                      Option.bind (Ev.Seat.tollbarref05_digit κ (Ev.Seat.Tollbarref05S.text x6)) fun x7 =>
                                        bif (decide (x7 < (0 : Int))) then
                                          bif (decide ((0 : Int) ≤ (Go.IntKind.wrap Go.IntKind.i64 (((x3).snd).fst + (3 : Int))))) then
                                            Option.bind ((x3).fst[(Int.toNat (Go.IntKind.wrap Go.IntKind.i64 (((x3).snd).fst + (3 : Int))))]?) fun x8 =>
                                              some ((ByteArray.mk (List.toArray [])), (0 : Int), (Ev.Seat.Tollbarref05S.at__line x8), (Ev.Seat.Tollbarref05S.at__col x8))
                                          else
                                            none
                                        else
                                          some ((ByteArray.mk (List.toArray (List.map (fun x => (UInt8.ofNat (Int.toNat x))) ((Go.IntKind.wrap Go.IntKind.u8 (Go.IntKind.wrap Go.IntKind.i64 ((Go.IntKind.wrap Go.IntKind.i64 ((16 : Int) * x5)) + x7))) :: [])))), (4 : Int), (((((((((x3).snd).snd).snd).snd).snd).snd).snd).snd).fst, ((((((((((x3).snd).snd).snd).snd).snd).snd).snd).snd).snd).fst)
                                  else
                                    none
                          else
                            none
                        else
                          some ((ByteArray.mk (List.toArray [])), (0 : Int), (((((((((((((x3).snd).snd).snd).snd).snd).snd).snd).snd).snd).snd).snd).snd).fst, (((((((((((((x3).snd).snd).snd).snd).snd).snd).snd).snd).snd).snd).snd).snd).snd)
            else
              none
  else
    none
def tollbarref05_All.v80 (κ : Nat) (a0 : Int) (a1 : Int) (a2 : Int) (a3 : List Tollbarref05S) (a4 : List Tollbarref05T) (a5 : ByteArray) (a6 : Bool) (a7 : Int) (a8 : Int) : Option (Int × Bool × Int × Int × (List Tollbarref05S) × (List Tollbarref05T) × ByteArray × Bool × Int × Int) :=
  bif (Ev.seq a5 (ByteArray.mk (List.toArray ((32 : UInt8) :: [])))) then
    some (a0, Bool.true, a1, a2, a3, a4, a5, a6, a7, a8)
  else
    bif (Ev.seq a5 (ByteArray.mk (List.toArray ((9 : UInt8) :: [])))) then
      some (a0, Bool.true, a1, a2, a3, a4, a5, a6, a7, a8)
    else
      bif (Ev.seq a5 (ByteArray.mk (List.toArray ((13 : UInt8) :: [])))) then
        some (a0, Bool.true, a1, a2, a3, a4, a5, a6, a7, a8)
      else
        some (a0, (Ev.seq a5 (ByteArray.mk (List.toArray ((10 : UInt8) :: [])))), a1, a2, a3, a4, a5, a6, a7, a8)
def tollbarref05_All.v87 (κ : Nat) (a0 : Int) (a1 : Int) (a2 : Int) (a3 : List Tollbarref05S) (a4 : List Tollbarref05T) : Option (Int × Bool × Int × Int × (List Tollbarref05S) × (List Tollbarref05T)) :=
  bif ((decide ((0 : Int) ≤ a0)) && (Nat.blt (Int.toNat a0) (List.length a3))) then
    Option.bind (a3[(Int.toNat a0)]?) fun x0 =>
      bif (!(Ev.seq (Ev.Seat.Tollbarref05S.text x0) (ByteArray.mk (List.toArray [])))) then
        bif ((decide ((0 : Int) ≤ a0)) && (Nat.blt (Int.toNat a0) (List.length a3))) then
          Option.bind (a3[(Int.toNat a0)]?) fun x1 =>
            some (a0, (!(Ev.seq (Ev.Seat.Tollbarref05S.text x1) (ByteArray.mk (List.toArray ((10 : UInt8) :: []))))), a1, a2, a3, a4)
        else
          none
      else
        some (a0, Bool.false, a1, a2, a3, a4)
  else
    none
def tollbarref05_All.w86 (κ : Nat) (rec : (Int × Int × Int × (List Tollbarref05S) × (List Tollbarref05T)) → Option (Int × Int × Int × (List Tollbarref05S) × (List Tollbarref05T))) (a0 : Int) (a1 : Int) (a2 : Int) (a3 : List Tollbarref05S) (a4 : List Tollbarref05T) : Option (Int × Int × Int × (List Tollbarref05S) × (List Tollbarref05T)) :=
  Option.bind (Ev.Seat.tollbarref05_All.v87 κ a0 a1 a2 a3 a4) fun x0 =>
    bif ((x0).snd).fst then
      rec ((Go.IntKind.wrap Go.IntKind.i64 ((x0).fst + (1 : Int))), (((x0).snd).snd).fst, ((((x0).snd).snd).snd).fst, (((((x0).snd).snd).snd).snd).fst, (((((x0).snd).snd).snd).snd).snd)
    else
      some ((x0).fst, (((x0).snd).snd).fst, ((((x0).snd).snd).snd).fst, (((((x0).snd).snd).snd).snd).fst, (((((x0).snd).snd).snd).snd).snd)
def tollbarref05_All.l86 (κ : Nat) : Nat → (Int × Int × Int × (List Tollbarref05S) × (List Tollbarref05T)) → Option (Int × Int × Int × (List Tollbarref05S) × (List Tollbarref05T))
  | 0, _ => none
  | k + 1, (a0, a1, a2, a3, a4) => tollbarref05_All.w86 κ (tollbarref05_All.l86 κ k) a0 a1 a2 a3 a4
def tollbarref05_All.w94 (κ : Nat) (rec : (Int × Int × Int × (List Tollbarref05S) × (List Tollbarref05T) × Int × ByteArray × Int × Int) → Option ((Int × Int × Int × (List Tollbarref05S) × (List Tollbarref05T) × Int × ByteArray × Int × Int) ⊕ (Int × Int × Int))) (a0 : Int) (a1 : Int) (a2 : Int) (a3 : List Tollbarref05S) (a4 : List Tollbarref05T) (a5 : Int) (a6 : ByteArray) (a7 : Int) (a8 : Int) : Option ((Int × Int × Int × (List Tollbarref05S) × (List Tollbarref05T) × Int × ByteArray × Int × Int) ⊕ (Int × Int × Int)) :=
  bif ((decide ((0 : Int) ≤ a0)) && (Nat.blt (Int.toNat a0) (List.length a3))) then
    Option.bind (a3[(Int.toNat a0)]?) fun x0 =>
      bif (!(Ev.seq (Ev.Seat.Tollbarref05S.text x0) (ByteArray.mk (List.toArray ((34 : UInt8) :: []))))) then
        Option.bind (Ev.Seat.tollbarref05_part κ a3 a0) fun x1 =>
          bif (((x1).snd).fst == (0 : Int)) then
            some (.inr ((20 : Int), (((x1).snd).snd).fst, (((x1).snd).snd).snd))
          else
            bif (Nat.ble ((ByteArray.size a6) + (ByteArray.size (x1).fst)) Ev.maxI) then
              rec ((Go.IntKind.wrap Go.IntKind.i64 (a0 + ((x1).snd).fst)), a1, a2, a3, a4, a5, (a6 ++ (x1).fst), a7, a8)
            else
              none
      else
        some (.inl (a0, a1, a2, a3, a4, a5, a6, a7, a8))
  else
    none
def tollbarref05_All.l94 (κ : Nat) : Nat → (Int × Int × Int × (List Tollbarref05S) × (List Tollbarref05T) × Int × ByteArray × Int × Int) → Option ((Int × Int × Int × (List Tollbarref05S) × (List Tollbarref05T) × Int × ByteArray × Int × Int) ⊕ (Int × Int × Int))
  | 0, _ => none
  | k + 1, (a0, a1, a2, a3, a4, a5, a6, a7, a8) => tollbarref05_All.w94 κ (tollbarref05_All.l94 κ k) a0 a1 a2 a3 a4 a5 a6 a7 a8
def tollbarref05_All.w96 (κ : Nat) (rec : (Int × Int × Int × (List Tollbarref05S) × (List Tollbarref05T) × Int × ByteArray × Int × Int) → Option (Int × Int × Int × (List Tollbarref05S) × (List Tollbarref05T) × Int × ByteArray × Int × Int)) (a0 : Int) (a1 : Int) (a2 : Int) (a3 : List Tollbarref05S) (a4 : List Tollbarref05T) (a5 : Int) (a6 : ByteArray) (a7 : Int) (a8 : Int) : Option (Int × Int × Int × (List Tollbarref05S) × (List Tollbarref05T) × Int × ByteArray × Int × Int) :=
  bif ((decide ((0 : Int) ≤ a0)) && (Nat.blt (Int.toNat a0) (List.length a3))) then
    Option.bind (a3[(Int.toNat a0)]?) fun x0 =>
      Option.bind (Ev.Seat.tollbarref05_letter κ (Ev.Seat.Tollbarref05S.text x0)) fun x1 =>
        bif x1 then
          bif ((decide ((0 : Int) ≤ a0)) && (Nat.blt (Int.toNat a0) (List.length a3))) then
            Option.bind (a3[(Int.toNat a0)]?) fun x2 =>
              bif (Nat.ble ((ByteArray.size a6) + (ByteArray.size (Ev.Seat.Tollbarref05S.text x2))) Ev.maxI) then
                rec ((Go.IntKind.wrap Go.IntKind.i64 (a0 + (1 : Int))), a1, a2, a3, a4, a5, (a6 ++ (Ev.Seat.Tollbarref05S.text x2)), a7, a8)
              else
                none
          else
            none
        else
          some (a0, a1, a2, a3, a4, a5, a6, a7, a8)
  else
    none
def tollbarref05_All.l96 (κ : Nat) : Nat → (Int × Int × Int × (List Tollbarref05S) × (List Tollbarref05T) × Int × ByteArray × Int × Int) → Option (Int × Int × Int × (List Tollbarref05S) × (List Tollbarref05T) × Int × ByteArray × Int × Int)
  | 0, _ => none
  | k + 1, (a0, a1, a2, a3, a4, a5, a6, a7, a8) => tollbarref05_All.w96 κ (tollbarref05_All.l96 κ k) a0 a1 a2 a3 a4 a5 a6 a7 a8
def tollbarref05_All.v93 (κ : Nat) (a0 : Int) (a1 : Bool) (a2 : Int) (a3 : Int) (a4 : List Tollbarref05S) (a5 : List Tollbarref05T) (a6 : ByteArray) (a7 : Bool) (a8 : Int) (a9 : Int) : Option ((Int × Int × Int) ⊕ (Int × Int × Int × (List Tollbarref05S) × (List Tollbarref05T))) :=
  bif a1 then
    Option.bind (Ev.Seat.tollbarref05_All.l94 κ κ (Prod.mk a0 (Prod.mk a2 (Prod.mk a3 (Prod.mk a4 (Prod.mk a5 (Prod.mk (2 : Int) (Prod.mk (ByteArray.mk (List.toArray [])) (Prod.mk a8 a9))))))))) fun x2 =>
      match x2 with
      | .inl x3 =>
        bif (Nat.ble ((List.length (((((x3).snd).snd).snd).snd).fst) + (List.length ((Ev.Seat.Tollbarref05T.mk ((((((x3).snd).snd).snd).snd).snd).fst (((((((x3).snd).snd).snd).snd).snd).snd).fst ((((((((x3).snd).snd).snd).snd).snd).snd).snd).fst ((((((((x3).snd).snd).snd).snd).snd).snd).snd).snd) :: []))) (Ev.room (39 + 1))) then
          some (.inr ((Go.IntKind.wrap Go.IntKind.i64 ((x3).fst + (1 : Int))), ((x3).snd).fst, (((x3).snd).snd).fst, ((((x3).snd).snd).snd).fst, ((((((x3).snd).snd).snd).snd).fst ++ ((Ev.Seat.Tollbarref05T.mk ((((((x3).snd).snd).snd).snd).snd).fst (((((((x3).snd).snd).snd).snd).snd).snd).fst ((((((((x3).snd).snd).snd).snd).snd).snd).snd).fst ((((((((x3).snd).snd).snd).snd).snd).snd).snd).snd) :: []))))
        else
          none
      | .inr x4 =>
        some (.inl ((x4).fst, ((x4).snd).fst, ((x4).snd).snd))
  else
    Option.bind (Ev.Seat.tollbarref05_letter κ a6) fun x0 =>
      bif x0 then
        Option.bind (Ev.Seat.tollbarref05_All.l96 κ κ (Prod.mk a0 (Prod.mk a2 (Prod.mk a3 (Prod.mk a4 (Prod.mk a5 (Prod.mk (1 : Int) (Prod.mk a6 (Prod.mk a8 a9))))))))) fun x1 =>
          bif (Nat.ble ((List.length (((((x1).snd).snd).snd).snd).fst) + (List.length ((Ev.Seat.Tollbarref05T.mk ((((((x1).snd).snd).snd).snd).snd).fst (((((((x1).snd).snd).snd).snd).snd).snd).fst ((((((((x1).snd).snd).snd).snd).snd).snd).snd).fst ((((((((x1).snd).snd).snd).snd).snd).snd).snd).snd) :: []))) (Ev.room (39 + 1))) then
            some (.inr ((x1).fst, ((x1).snd).fst, (((x1).snd).snd).fst, ((((x1).snd).snd).snd).fst, ((((((x1).snd).snd).snd).snd).fst ++ ((Ev.Seat.Tollbarref05T.mk ((((((x1).snd).snd).snd).snd).snd).fst (((((((x1).snd).snd).snd).snd).snd).snd).fst ((((((((x1).snd).snd).snd).snd).snd).snd).snd).fst ((((((((x1).snd).snd).snd).snd).snd).snd).snd).snd) :: []))))
          else
            none
      else
        some (.inl ((20 : Int), a8, a9))
def tollbarref05_All.v92 (κ : Nat) (a0 : Int) (a1 : Bool) (a2 : Int) (a3 : Int) (a4 : List Tollbarref05S) (a5 : List Tollbarref05T) (a6 : ByteArray) (a7 : Bool) (a8 : Int) (a9 : Int) : Option ((Int × Int × Int) ⊕ (Int × Int × Int × (List Tollbarref05S) × (List Tollbarref05T))) :=
  bif a1 then
    bif (Nat.ble ((List.length a5) + (List.length ((Ev.Seat.Tollbarref05T.mk (5 : Int) (ByteArray.mk (List.toArray [])) a8 a9) :: []))) (Ev.room (39 + 1))) then
      some (.inr (a0, a2, a3, a4, (a5 ++ ((Ev.Seat.Tollbarref05T.mk (5 : Int) (ByteArray.mk (List.toArray [])) a8 a9) :: []))))
    else
      none
  else
    Option.bind (Ev.Seat.tollbarref05_All.v93 κ a0 (Ev.seq a6 (ByteArray.mk (List.toArray ((34 : UInt8) :: [])))) a2 a3 a4 a5 a6 a7 a8 a9) fun x0 =>
      match x0 with
      | .inl x1 =>
        some (.inl ((x1).fst, ((x1).snd).fst, ((x1).snd).snd))
      | .inr x2 =>
        some (.inr ((x2).fst, ((x2).snd).fst, (((x2).snd).snd).fst, ((((x2).snd).snd).snd).fst, ((((x2).snd).snd).snd).snd))
def tollbarref05_All.v91 (κ : Nat) (a0 : Int) (a1 : Bool) (a2 : Int) (a3 : Int) (a4 : List Tollbarref05S) (a5 : List Tollbarref05T) (a6 : ByteArray) (a7 : Bool) (a8 : Int) (a9 : Int) : Option ((Int × Int × Int) ⊕ (Int × Int × Int × (List Tollbarref05S) × (List Tollbarref05T))) :=
  bif a1 then
    bif (Nat.ble ((List.length a5) + (List.length ((Ev.Seat.Tollbarref05T.mk (4 : Int) (ByteArray.mk (List.toArray [])) a8 a9) :: []))) (Ev.room (39 + 1))) then
      some (.inr (a0, a2, a3, a4, (a5 ++ ((Ev.Seat.Tollbarref05T.mk (4 : Int) (ByteArray.mk (List.toArray [])) a8 a9) :: []))))
    else
      none
  else
    Option.bind (Ev.Seat.tollbarref05_All.v92 κ a0 (Ev.seq a6 (ByteArray.mk (List.toArray ((59 : UInt8) :: [])))) a2 a3 a4 a5 a6 a7 a8 a9) fun x0 =>
      match x0 with
      | .inl x1 =>
        some (.inl ((x1).fst, ((x1).snd).fst, ((x1).snd).snd))
      | .inr x2 =>
        some (.inr ((x2).fst, ((x2).snd).fst, (((x2).snd).snd).fst, ((((x2).snd).snd).snd).fst, ((((x2).snd).snd).snd).snd))
def tollbarref05_All.v90 (κ : Nat) (a0 : Int) (a1 : Bool) (a2 : Int) (a3 : Int) (a4 : List Tollbarref05S) (a5 : List Tollbarref05T) (a6 : ByteArray) (a7 : Bool) (a8 : Int) (a9 : Int) : Option ((Int × Int × Int) ⊕ (Int × Int × Int × (List Tollbarref05S) × (List Tollbarref05T))) :=
  bif a1 then
    bif (Nat.ble ((List.length a5) + (List.length ((Ev.Seat.Tollbarref05T.mk (3 : Int) (ByteArray.mk (List.toArray [])) a8 a9) :: []))) (Ev.room (39 + 1))) then
      some (.inr (a0, a2, a3, a4, (a5 ++ ((Ev.Seat.Tollbarref05T.mk (3 : Int) (ByteArray.mk (List.toArray [])) a8 a9) :: []))))
    else
      none
  else
    Option.bind (Ev.Seat.tollbarref05_All.v91 κ a0 (Ev.seq a6 (ByteArray.mk (List.toArray ((125 : UInt8) :: [])))) a2 a3 a4 a5 a6 a7 a8 a9) fun x0 =>
      match x0 with
      | .inl x1 =>
        some (.inl ((x1).fst, ((x1).snd).fst, ((x1).snd).snd))
      | .inr x2 =>
        some (.inr ((x2).fst, ((x2).snd).fst, (((x2).snd).snd).fst, ((((x2).snd).snd).snd).fst, ((((x2).snd).snd).snd).snd))
def tollbarref05_All.v83 (κ : Nat) (a0 : Int) (a1 : Bool) (a2 : Int) (a3 : Int) (a4 : List Tollbarref05S) (a5 : List Tollbarref05T) (a6 : ByteArray) (a7 : Bool) (a8 : Int) (a9 : Int) : Option ((Int × Int × Int) ⊕ (Int × Int × Int × (List Tollbarref05S) × (List Tollbarref05T))) :=
  bif a1 then
    Option.bind (Ev.Seat.tollbarref05_All.l86 κ κ (Prod.mk a0 (Prod.mk a2 (Prod.mk a3 (Prod.mk a4 a5))))) fun x3 =>
      some (.inr ((x3).fst, ((x3).snd).fst, (((x3).snd).snd).fst, ((((x3).snd).snd).snd).fst, ((((x3).snd).snd).snd).snd))
  else
    Option.bind (Ev.Seat.tollbarref05_All.v90 κ a0 (Ev.seq a6 (ByteArray.mk (List.toArray ((123 : UInt8) :: [])))) a2 a3 a4 a5 a6 a7 a8 a9) fun x0 =>
      match x0 with
      | .inl x1 =>
        some (.inl ((x1).fst, ((x1).snd).fst, ((x1).snd).snd))
      | .inr x2 =>
        some (.inr ((x2).fst, ((x2).snd).fst, (((x2).snd).snd).fst, ((((x2).snd).snd).snd).fst, ((((x2).snd).snd).snd).snd))
def tollbarref05_All.v82 (κ : Nat) (a0 : Int) (a1 : Bool) (a2 : Int) (a3 : Int) (a4 : List Tollbarref05S) (a5 : List Tollbarref05T) (a6 : ByteArray) (a7 : Bool) (a8 : Int) (a9 : Int) : Option ((Int × Int × Int) ⊕ (Int × Int × Int × (List Tollbarref05S) × (List Tollbarref05T))) :=
  bif a1 then
    some (.inr (a0, a2, a3, a4, a5))
  else
    Option.bind (Ev.Seat.tollbarref05_All.v83 κ a0 (Ev.seq a6 (ByteArray.mk (List.toArray ((35 : UInt8) :: [])))) a2 a3 a4 a5 a6 a7 a8 a9) fun x0 =>
      match x0 with
      | .inl x1 =>
        some (.inl ((x1).fst, ((x1).snd).fst, ((x1).snd).snd))
      | .inr x2 =>
        some (.inr ((x2).fst, ((x2).snd).fst, (((x2).snd).snd).fst, ((((x2).snd).snd).snd).fst, ((((x2).snd).snd).snd).snd))
def tollbarref05_All.v79 (κ : Nat) (a0 : Int) (a1 : Int) (a2 : Int) (a3 : List Tollbarref05S) (a4 : List Tollbarref05T) (a5 : ByteArray) (a6 : Bool) (a7 : Int) (a8 : Int) : Option ((Int × Int × Int) ⊕ (Int × Int × Int × (List Tollbarref05S) × (List Tollbarref05T))) :=
  Option.bind (Ev.Seat.tollbarref05_All.v80 κ a0 a1 a2 a3 a4 a5 a6 a7 a8) fun x0 =>
    Option.bind (Ev.Seat.tollbarref05_All.v82 κ (x0).fst ((x0).snd).fst (((x0).snd).snd).fst ((((x0).snd).snd).snd).fst (((((x0).snd).snd).snd).snd).fst ((((((x0).snd).snd).snd).snd).snd).fst (((((((x0).snd).snd).snd).snd).snd).snd).fst ((((((((x0).snd).snd).snd).snd).snd).snd).snd).fst (((((((((x0).snd).snd).snd).snd).snd).snd).snd).snd).fst (((((((((x0).snd).snd).snd).snd).snd).snd).snd).snd).snd) fun x1 =>
      match x1 with
      | .inl x2 =>
        some (.inl ((x2).fst, ((x2).snd).fst, ((x2).snd).snd))
      | .inr x3 =>
        some (.inr ((x3).fst, ((x3).snd).fst, (((x3).snd).snd).fst, ((((x3).snd).snd).snd).fst, ((((x3).snd).snd).snd).snd))
def tollbarref05_All.w78 (κ : Nat) (rec : (Int × Int × Int × (List Tollbarref05S) × (List Tollbarref05T)) → Option ((Int × Int × Int × (List Tollbarref05S) × (List Tollbarref05T)) ⊕ (Int × Int × Int))) (a0 : Int) (a1 : Int) (a2 : Int) (a3 : List Tollbarref05S) (a4 : List Tollbarref05T) : Option ((Int × Int × Int × (List Tollbarref05S) × (List Tollbarref05T)) ⊕ (Int × Int × Int)) :=
  bif ((decide ((0 : Int) ≤ a0)) && (Nat.blt (Int.toNat a0) (List.length a3))) then
    Option.bind (a3[(Int.toNat a0)]?) fun x0 =>
      bif (!(Ev.seq (Ev.Seat.Tollbarref05S.text x0) (ByteArray.mk (List.toArray [])))) then
        bif ((decide ((0 : Int) ≤ a0)) && (Nat.blt (Int.toNat a0) (List.length a3))) then
          Option.bind (a3[(Int.toNat a0)]?) fun x1 =>
            Option.bind (Ev.Seat.tollbarref05_All.v79 κ (Go.IntKind.wrap Go.IntKind.i64 (a0 + (1 : Int))) a1 a2 a3 a4 (Ev.Seat.Tollbarref05S.text x1) (Ev.Seat.Tollbarref05S.rune x1) (Ev.Seat.Tollbarref05S.at__line x1) (Ev.Seat.Tollbarref05S.at__col x1)) fun x2 =>
              match x2 with
              | .inl x3 =>
                some (.inr ((x3).fst, ((x3).snd).fst, ((x3).snd).snd))
              | .inr x4 =>
                rec ((x4).fst, ((x4).snd).fst, (((x4).snd).snd).fst, ((((x4).snd).snd).snd).fst, ((((x4).snd).snd).snd).snd)
        else
          none
      else
        some (.inl (a0, a1, a2, a3, a4))
  else
    none
def tollbarref05_All.l78 (κ : Nat) : Nat → (Int × Int × Int × (List Tollbarref05S) × (List Tollbarref05T)) → Option ((Int × Int × Int × (List Tollbarref05S) × (List Tollbarref05T)) ⊕ (Int × Int × Int))
  | 0, _ => none
  | k + 1, (a0, a1, a2, a3, a4) => tollbarref05_All.w78 κ (tollbarref05_All.l78 κ k) a0 a1 a2 a3 a4
def tollbarref05_All (κ : Nat) (a0 : ByteArray) : Option (Int × Int × Int × (List Tollbarref05T)) :=
  bif (decide ((((ByteArray.size a0) : Nat) : Int) > (8192 : Int))) then
    some ((14 : Int), (0 : Int), (0 : Int), [])
  else
    Option.bind (Ev.Seat.tollbarref05_Signs κ a0) fun x0 =>
      Option.bind (Ev.Seat.tollbarref05_All.l78 κ κ (Prod.mk (0 : Int) (Prod.mk (0 : Int) (Prod.mk (0 : Int) (Prod.mk x0 []))))) fun x1 =>
        match x1 with
        | .inl x2 =>
          bif ((decide ((0 : Int) ≤ (x2).fst)) && (Nat.blt (Int.toNat (x2).fst) (List.length ((((x2).snd).snd).snd).fst))) then
            Option.bind (((((x2).snd).snd).snd).fst[(Int.toNat (x2).fst)]?) fun x3 =>
              bif (Nat.ble ((List.length ((((x2).snd).snd).snd).snd) + (List.length ((Ev.Seat.Tollbarref05T.mk (0 : Int) (ByteArray.mk (List.toArray [])) (Ev.Seat.Tollbarref05S.at__line x3) (Ev.Seat.Tollbarref05S.at__col x3)) :: []))) (Ev.room (39 + 1))) then
                some ((0 : Int), (0 : Int), (0 : Int), (((((x2).snd).snd).snd).snd ++ ((Ev.Seat.Tollbarref05T.mk (0 : Int) (ByteArray.mk (List.toArray [])) (Ev.Seat.Tollbarref05S.at__line x3) (Ev.Seat.Tollbarref05S.at__col x3)) :: [])))
              else
                none
          else
            none
        | .inr x4 =>
          some ((x4).fst, ((x4).snd).fst, ((x4).snd).snd, [])
def tollbarlaw05_plain.w0 (κ : Nat) (rec : ((List LexToken) × Int × (List Tollbarref05T)) → Option ((List Tollbarref05T))) (a0 : List LexToken) (a1 : Int) (a2 : List Tollbarref05T) : Option ((List Tollbarref05T)) :=
  bif (decide (a1 < (((List.length a0) : Nat) : Int))) then
    bif (decide ((0 : Int) ≤ a1)) then
      Option.bind (a0[(Int.toNat a1)]?) fun x0 =>
        bif (decide ((0 : Int) ≤ a1)) then
          Option.bind (a0[(Int.toNat a1)]?) fun x1 =>
            bif (decide ((0 : Int) ≤ a1)) then
              Option.bind (a0[(Int.toNat a1)]?) fun x2 =>
                bif (Nat.ble ((List.length a2) + (List.length ((Ev.Seat.Tollbarref05T.mk (Ev.Seat.LexToken.kind x0) (Ev.Seat.LexToken.text x1) (Ev.Seat.LexToken.at__line x2) (Ev.Seat.LexToken.at__col x2)) :: []))) (Ev.room (39 + 1))) then
                  rec (a0, (Go.IntKind.wrap Go.IntKind.i64 (a1 + (1 : Int))), (a2 ++ ((Ev.Seat.Tollbarref05T.mk (Ev.Seat.LexToken.kind x0) (Ev.Seat.LexToken.text x1) (Ev.Seat.LexToken.at__line x2) (Ev.Seat.LexToken.at__col x2)) :: [])))
                else
                  none
            else
              none
        else
          none
    else
      none
  else
    some a2
def tollbarlaw05_plain.l0 (κ : Nat) : Nat → ((List LexToken) × Int × (List Tollbarref05T)) → Option ((List Tollbarref05T))
  | 0, _ => none
  | k + 1, (a0, a1, a2) => tollbarlaw05_plain.w0 κ (tollbarlaw05_plain.l0 κ k) a0 a1 a2
def tollbarlaw05_plain (κ : Nat) (a0 : List LexToken) : Option ((List Tollbarref05T)) :=
  Option.bind (Ev.Seat.tollbarlaw05_plain.l0 κ κ (Prod.mk a0 (Prod.mk (0 : Int) []))) fun x0 =>
    some x0
def tollbarref05_Same.w0 (κ : Nat) (rec : ((List Tollbarref05T) × (List Tollbarref05T) × Int) → Option ((Unit) ⊕ (Bool))) (a0 : List Tollbarref05T) (a1 : List Tollbarref05T) (a2 : Int) : Option ((Unit) ⊕ (Bool)) :=
  bif (decide (a2 < (((List.length a0) : Nat) : Int))) then
    bif (decide ((0 : Int) ≤ a2)) then
      Option.bind (a0[(Int.toNat a2)]?) fun x0 =>
        bif (decide ((0 : Int) ≤ a2)) then
          Option.bind (a1[(Int.toNat a2)]?) fun x1 =>
            bif (!(((Ev.Seat.Tollbarref05T.kind x0) == (Ev.Seat.Tollbarref05T.kind x1)) && ((Ev.seq (Ev.Seat.Tollbarref05T.text x0) (Ev.Seat.Tollbarref05T.text x1)) && (((Ev.Seat.Tollbarref05T.at__line x0) == (Ev.Seat.Tollbarref05T.at__line x1)) && ((Ev.Seat.Tollbarref05T.at__col x0) == (Ev.Seat.Tollbarref05T.at__col x1)))))) then
              some (.inr Bool.false)
            else
              rec (a0, a1, (Go.IntKind.wrap Go.IntKind.i64 (a2 + (1 : Int))))
        else
          none
    else
      none
  else
    some (.inl ())
def tollbarref05_Same.l0 (κ : Nat) : Nat → ((List Tollbarref05T) × (List Tollbarref05T) × Int) → Option ((Unit) ⊕ (Bool))
  | 0, _ => none
  | k + 1, (a0, a1, a2) => tollbarref05_Same.w0 κ (tollbarref05_Same.l0 κ k) a0 a1 a2
def tollbarref05_Same (κ : Nat) (a0 : List Tollbarref05T) (a1 : List Tollbarref05T) : Option (Bool) :=
  bif ((((List.length a0) : Nat) : Int) != (((List.length a1) : Nat) : Int)) then
    some Bool.false
  else
    Option.bind (Ev.Seat.tollbarref05_Same.l0 κ κ (Prod.mk a0 (Prod.mk a1 (0 : Int)))) fun x0 =>
      match x0 with
      | .inl x1 =>
        some Bool.true
      | .inr x2 =>
        some x2
def tollbarlaw05_LexTells.v0 (κ : Nat) (a0 : Int) (a1 : Int) (a2 : List LexToken) (a3 : Int) (a4 : Int) (a5 : List Tollbarref05T) (a6 : Int) (a7 : Int) : Option (Bool) :=
  Option.bind (Ev.Seat.tollbarlaw05_plain κ a2) fun x0 =>
    Option.bind (Ev.Seat.tollbarref05_Same κ x0 a5) fun x1 =>
      bif x1 then
        bif (a0 == a1) then
          some ((a3 == a6) && (a4 == a7))
        else
          some Bool.false
      else
        some Bool.false
def tollbarlaw05_LexTells (κ : Nat) (a0 : ByteArray) : Option (Bool) :=
  Option.bind (Ev.Seat.tollbarlaw05_awake κ) fun x0 =>
    bif (!x0) then
      some Bool.false
    else
      bif (decide ((((ByteArray.size a0) : Nat) : Int) > (9000 : Int))) then
        some Bool.true
      else
        Option.bind (Ev.Seat.lex_All κ a0) fun x1 =>
          Option.bind (Ev.Seat.tollbarref05_All κ a0) fun x2 =>
            Option.bind (Ev.Seat.tollbarlaw05_LexTells.v0 κ (x1).fst (x2).fst (((x1).snd).snd).snd ((x1).snd).fst (((x1).snd).snd).fst (((x2).snd).snd).snd ((x2).snd).fst (((x2).snd).snd).fst) fun x3 =>
              some x3
def tollbarref05_Plain.w0 (κ : Nat) (rec : (ByteArray × Int) → Option ((ByteArray) ⊕ (Bool))) (a0 : ByteArray) (a1 : Int) : Option ((ByteArray) ⊕ (Bool)) :=
  bif (decide (a1 < (((ByteArray.size a0) : Nat) : Int))) then
    bif ((((decide ((0 : Int) ≤ (Go.IntKind.wrap Go.IntKind.i64 (a1 + (1 : Int))))) && (decide ((Go.IntKind.wrap Go.IntKind.i64 (a1 + (1 : Int))) ≤ (((ByteArray.size a0) : Nat) : Int)))) && (decide ((0 : Int) ≤ a1))) && (decide (a1 ≤ (Go.IntKind.wrap Go.IntKind.i64 (a1 + (1 : Int)))))) then
      Option.bind (Ev.Seat.tollbarref05_letter κ (ByteArray.extract a0 (Int.toNat a1) (Int.toNat (Go.IntKind.wrap Go.IntKind.i64 (a1 + (1 : Int)))))) fun x0 =>
        bif (!x0) then
          some (.inr Bool.false)
        else
          rec (a0, (Go.IntKind.wrap Go.IntKind.i64 (a1 + (1 : Int))))
    else
      none
  else
    some (.inl a0)
def tollbarref05_Plain.l0 (κ : Nat) : Nat → (ByteArray × Int) → Option ((ByteArray) ⊕ (Bool))
  | 0, _ => none
  | k + 1, (a0, a1) => tollbarref05_Plain.w0 κ (tollbarref05_Plain.l0 κ k) a0 a1
def tollbarref05_Plain (κ : Nat) (a0 : ByteArray) : Option (Bool) :=
  Option.bind (Ev.Seat.tollbarref05_Plain.l0 κ κ (Prod.mk a0 (0 : Int))) fun x0 =>
    match x0 with
    | .inl x1 =>
      some (!(Ev.seq x1 (ByteArray.mk (List.toArray []))))
    | .inr x2 =>
      some x2
def tollbarref05_Quote.v16 (κ : Nat) (a0 : ByteArray) (a1 : Int) (a2 : ByteArray) (a3 : List Tollbarref05S) : Option (ByteArray × Int × ByteArray × Bool × (List Tollbarref05S)) :=
  bif (Ev.seq a2 (ByteArray.mk (List.toArray ((34 : UInt8) :: [])))) then
    some (a0, a1, a2, Bool.true, a3)
  else
    some (a0, a1, a2, (Ev.seq a2 (ByteArray.mk (List.toArray ((92 : UInt8) :: [])))), a3)
def tollbarref05_Quote.v21 (κ : Nat) (a0 : ByteArray) (a1 : Int) (a2 : ByteArray) (a3 : List Tollbarref05S) : Option (ByteArray × Int × ByteArray × Bool × (List Tollbarref05S)) :=
  bif ((decide ((0 : Int) ≤ a1)) && (Nat.blt (Int.toNat a1) (List.length a3))) then
    Option.bind (a3[(Int.toNat a1)]?) fun x0 =>
      bif (!(Ev.Seat.Tollbarref05S.rune x0)) then
        some (a0, a1, a2, Bool.true, a3)
      else
        Option.bind ((Array.toList (ByteArray.data a2))[(Int.toNat (0 : Int))]?) fun x1 =>
          bif (decide ((((UInt8.toNat x1) : Nat) : Int) < (32 : Int))) then
            some (a0, a1, a2, Bool.true, a3)
          else
            Option.bind ((Array.toList (ByteArray.data a2))[(Int.toNat (0 : Int))]?) fun x2 =>
              some (a0, a1, a2, ((((UInt8.toNat x2) : Nat) : Int) == (127 : Int)), a3)
  else
    none
def tollbarref05_Quote.v23 (κ : Nat) (a0 : ByteArray) (a1 : Int) (a2 : ByteArray) (a3 : Bool) (a4 : List Tollbarref05S) : Option (ByteArray × Int × (List Tollbarref05S)) :=
  bif a3 then
    Option.bind ((Array.toList (ByteArray.data a2))[(Int.toNat (0 : Int))]?) fun x0 =>
      bif ((((decide ((0 : Int) ≤ (Go.IntKind.wrap Go.IntKind.i64 ((Go.IntKind.wrap Go.IntKind.i64 (Int.tdiv (Go.IntKind.wrap Go.IntKind.i64 (((UInt8.toNat x0) : Nat) : Int)) (16 : Int))) + (1 : Int))))) && (decide ((Go.IntKind.wrap Go.IntKind.i64 ((Go.IntKind.wrap Go.IntKind.i64 (Int.tdiv (Go.IntKind.wrap Go.IntKind.i64 (((UInt8.toNat x0) : Nat) : Int)) (16 : Int))) + (1 : Int))) ≤ (((ByteArray.size (ByteArray.mk (List.toArray ((48 : UInt8) :: ((49 : UInt8) :: ((50 : UInt8) :: ((51 : UInt8) :: ((52 : UInt8) :: ((53 : UInt8) :: ((54 : UInt8) :: ((55 : UInt8) :: ((56 : UInt8) :: ((57 : UInt8) :: ((97 : UInt8) :: ((98 : UInt8) :: ((99 : UInt8) :: ((100 : UInt8) :: ((101 : UInt8) :: ((102 : UInt8) :: []))))))))))))))))))) : Nat) : Int)))) && (decide ((0 : Int) ≤ (Go.IntKind.wrap Go.IntKind.i64 (Int.tdiv (Go.IntKind.wrap Go.IntKind.i64 (((UInt8.toNat x0) : Nat) : Int)) (16 : Int)))))) && (decide ((Go.IntKind.wrap Go.IntKind.i64 (Int.tdiv (Go.IntKind.wrap Go.IntKind.i64 (((UInt8.toNat x0) : Nat) : Int)) (16 : Int))) ≤ (Go.IntKind.wrap Go.IntKind.i64 ((Go.IntKind.wrap Go.IntKind.i64 (Int.tdiv (Go.IntKind.wrap Go.IntKind.i64 (((UInt8.toNat x0) : Nat) : Int)) (16 : Int))) + (1 : Int)))))) then
        bif (Nat.ble ((ByteArray.size (ByteArray.mk (List.toArray ((92 : UInt8) :: ((120 : UInt8) :: []))))) + (ByteArray.size (ByteArray.extract (ByteArray.mk (List.toArray ((48 : UInt8) :: ((49 : UInt8) :: ((50 : UInt8) :: ((51 : UInt8) :: ((52 : UInt8) :: ((53 : UInt8) :: ((54 : UInt8) :: ((55 : UInt8) :: ((56 : UInt8) :: ((57 : UInt8) :: ((97 : UInt8) :: ((98 : UInt8) :: ((99 : UInt8) :: ((100 : UInt8) :: ((101 : UInt8) :: ((102 : UInt8) :: [])))))))))))))))))) (Int.toNat (Go.IntKind.wrap Go.IntKind.i64 (Int.tdiv (Go.IntKind.wrap Go.IntKind.i64 (((UInt8.toNat x0) : Nat) : Int)) (16 : Int)))) (Int.toNat (Go.IntKind.wrap Go.IntKind.i64 ((Go.IntKind.wrap Go.IntKind.i64 (Int.tdiv (Go.IntKind.wrap Go.IntKind.i64 (((UInt8.toNat x0) : Nat) : Int)) (16 : Int))) + (1 : Int))))))) Ev.maxI) then
          bif ((((decide ((0 : Int) ≤ (Go.IntKind.wrap Go.IntKind.i64 ((Int.tmod (Go.IntKind.wrap Go.IntKind.i64 (((UInt8.toNat x0) : Nat) : Int)) (16 : Int)) + (1 : Int))))) && (decide ((Go.IntKind.wrap Go.IntKind.i64 ((Int.tmod (Go.IntKind.wrap Go.IntKind.i64 (((UInt8.toNat x0) : Nat) : Int)) (16 : Int)) + (1 : Int))) ≤ (((ByteArray.size (ByteArray.mk (List.toArray ((48 : UInt8) :: ((49 : UInt8) :: ((50 : UInt8) :: ((51 : UInt8) :: ((52 : UInt8) :: ((53 : UInt8) :: ((54 : UInt8) :: ((55 : UInt8) :: ((56 : UInt8) :: ((57 : UInt8) :: ((97 : UInt8) :: ((98 : UInt8) :: ((99 : UInt8) :: ((100 : UInt8) :: ((101 : UInt8) :: ((102 : UInt8) :: []))))))))))))))))))) : Nat) : Int)))) && (decide ((0 : Int) ≤ (Int.tmod (Go.IntKind.wrap Go.IntKind.i64 (((UInt8.toNat x0) : Nat) : Int)) (16 : Int))))) && (decide ((Int.tmod (Go.IntKind.wrap Go.IntKind.i64 (((UInt8.toNat x0) : Nat) : Int)) (16 : Int)) ≤ (Go.IntKind.wrap Go.IntKind.i64 ((Int.tmod (Go.IntKind.wrap Go.IntKind.i64 (((UInt8.toNat x0) : Nat) : Int)) (16 : Int)) + (1 : Int)))))) then
            bif (Nat.ble ((ByteArray.size ((ByteArray.mk (List.toArray ((92 : UInt8) :: ((120 : UInt8) :: [])))) ++ (ByteArray.extract (ByteArray.mk (List.toArray ((48 : UInt8) :: ((49 : UInt8) :: ((50 : UInt8) :: ((51 : UInt8) :: ((52 : UInt8) :: ((53 : UInt8) :: ((54 : UInt8) :: ((55 : UInt8) :: ((56 : UInt8) :: ((57 : UInt8) :: ((97 : UInt8) :: ((98 : UInt8) :: ((99 : UInt8) :: ((100 : UInt8) :: ((101 : UInt8) :: ((102 : UInt8) :: [])))))))))))))))))) (Int.toNat (Go.IntKind.wrap Go.IntKind.i64 (Int.tdiv (Go.IntKind.wrap Go.IntKind.i64 (((UInt8.toNat x0) : Nat) : Int)) (16 : Int)))) (Int.toNat (Go.IntKind.wrap Go.IntKind.i64 ((Go.IntKind.wrap Go.IntKind.i64 (Int.tdiv (Go.IntKind.wrap Go.IntKind.i64 (((UInt8.toNat x0) : Nat) : Int)) (16 : Int))) + (1 : Int))))))) + (ByteArray.size (ByteArray.extract (ByteArray.mk (List.toArray ((48 : UInt8) :: ((49 : UInt8) :: ((50 : UInt8) :: ((51 : UInt8) :: ((52 : UInt8) :: ((53 : UInt8) :: ((54 : UInt8) :: ((55 : UInt8) :: ((56 : UInt8) :: ((57 : UInt8) :: ((97 : UInt8) :: ((98 : UInt8) :: ((99 : UInt8) :: ((100 : UInt8) :: ((101 : UInt8) :: ((102 : UInt8) :: [])))))))))))))))))) (Int.toNat (Int.tmod (Go.IntKind.wrap Go.IntKind.i64 (((UInt8.toNat x0) : Nat) : Int)) (16 : Int))) (Int.toNat (Go.IntKind.wrap Go.IntKind.i64 ((Int.tmod (Go.IntKind.wrap Go.IntKind.i64 (((UInt8.toNat x0) : Nat) : Int)) (16 : Int)) + (1 : Int))))))) Ev.maxI) then
              bif (Nat.ble ((ByteArray.size a0) + (ByteArray.size (((ByteArray.mk (List.toArray ((92 : UInt8) :: ((120 : UInt8) :: [])))) ++ (ByteArray.extract (ByteArray.mk (List.toArray ((48 : UInt8) :: ((49 : UInt8) :: ((50 : UInt8) :: ((51 : UInt8) :: ((52 : UInt8) :: ((53 : UInt8) :: ((54 : UInt8) :: ((55 : UInt8) :: ((56 : UInt8) :: ((57 : UInt8) :: ((97 : UInt8) :: ((98 : UInt8) :: ((99 : UInt8) :: ((100 : UInt8) :: ((101 : UInt8) :: ((102 : UInt8) :: [])))))))))))))))))) (Int.toNat (Go.IntKind.wrap Go.IntKind.i64 (Int.tdiv (Go.IntKind.wrap Go.IntKind.i64 (((UInt8.toNat x0) : Nat) : Int)) (16 : Int)))) (Int.toNat (Go.IntKind.wrap Go.IntKind.i64 ((Go.IntKind.wrap Go.IntKind.i64 (Int.tdiv (Go.IntKind.wrap Go.IntKind.i64 (((UInt8.toNat x0) : Nat) : Int)) (16 : Int))) + (1 : Int)))))) ++ (ByteArray.extract (ByteArray.mk (List.toArray ((48 : UInt8) :: ((49 : UInt8) :: ((50 : UInt8) :: ((51 : UInt8) :: ((52 : UInt8) :: ((53 : UInt8) :: ((54 : UInt8) :: ((55 : UInt8) :: ((56 : UInt8) :: ((57 : UInt8) :: ((97 : UInt8) :: ((98 : UInt8) :: ((99 : UInt8) :: ((100 : UInt8) :: ((101 : UInt8) :: ((102 : UInt8) :: [])))))))))))))))))) (Int.toNat (Int.tmod (Go.IntKind.wrap Go.IntKind.i64 (((UInt8.toNat x0) : Nat) : Int)) (16 : Int))) (Int.toNat (Go.IntKind.wrap Go.IntKind.i64 ((Int.tmod (Go.IntKind.wrap Go.IntKind.i64 (((UInt8.toNat x0) : Nat) : Int)) (16 : Int)) + (1 : Int)))))))) Ev.maxI) then
                some ((a0 ++ (((ByteArray.mk (List.toArray ((92 : UInt8) :: ((120 : UInt8) :: [])))) ++ (ByteArray.extract (ByteArray.mk (List.toArray ((48 : UInt8) :: ((49 : UInt8) :: ((50 : UInt8) :: ((51 : UInt8) :: ((52 : UInt8) :: ((53 : UInt8) :: ((54 : UInt8) :: ((55 : UInt8) :: ((56 : UInt8) :: ((57 : UInt8) :: ((97 : UInt8) :: ((98 : UInt8) :: ((99 : UInt8) :: ((100 : UInt8) :: ((101 : UInt8) :: ((102 : UInt8) :: [])))))))))))))))))) (Int.toNat (Go.IntKind.wrap Go.IntKind.i64 (Int.tdiv (Go.IntKind.wrap Go.IntKind.i64 (((UInt8.toNat x0) : Nat) : Int)) (16 : Int)))) (Int.toNat (Go.IntKind.wrap Go.IntKind.i64 ((Go.IntKind.wrap Go.IntKind.i64 (Int.tdiv (Go.IntKind.wrap Go.IntKind.i64 (((UInt8.toNat x0) : Nat) : Int)) (16 : Int))) + (1 : Int)))))) ++ (ByteArray.extract (ByteArray.mk (List.toArray ((48 : UInt8) :: ((49 : UInt8) :: ((50 : UInt8) :: ((51 : UInt8) :: ((52 : UInt8) :: ((53 : UInt8) :: ((54 : UInt8) :: ((55 : UInt8) :: ((56 : UInt8) :: ((57 : UInt8) :: ((97 : UInt8) :: ((98 : UInt8) :: ((99 : UInt8) :: ((100 : UInt8) :: ((101 : UInt8) :: ((102 : UInt8) :: [])))))))))))))))))) (Int.toNat (Int.tmod (Go.IntKind.wrap Go.IntKind.i64 (((UInt8.toNat x0) : Nat) : Int)) (16 : Int))) (Int.toNat (Go.IntKind.wrap Go.IntKind.i64 ((Int.tmod (Go.IntKind.wrap Go.IntKind.i64 (((UInt8.toNat x0) : Nat) : Int)) (16 : Int)) + (1 : Int))))))), a1, a4)
              else
                none
            else
              none
          else
            none
        else
          none
      else
        none
  else
    bif (Nat.ble ((ByteArray.size a0) + (ByteArray.size a2)) Ev.maxI) then
      some ((a0 ++ a2), a1, a4)
    else
      none
def tollbarref05_Quote.v20 (κ : Nat) (a0 : ByteArray) (a1 : Int) (a2 : ByteArray) (a3 : Bool) (a4 : List Tollbarref05S) : Option (ByteArray × Int × (List Tollbarref05S)) :=
  bif a3 then
    bif (Nat.ble ((ByteArray.size a0) + (ByteArray.size (ByteArray.mk (List.toArray ((92 : UInt8) :: ((116 : UInt8) :: [])))))) Ev.maxI) then
      some ((a0 ++ (ByteArray.mk (List.toArray ((92 : UInt8) :: ((116 : UInt8) :: []))))), a1, a4)
    else
      none
  else
    Option.bind (Ev.Seat.tollbarref05_Quote.v21 κ a0 a1 a2 a4) fun x0 =>
      Option.bind (Ev.Seat.tollbarref05_Quote.v23 κ (x0).fst ((x0).snd).fst (((x0).snd).snd).fst ((((x0).snd).snd).snd).fst ((((x0).snd).snd).snd).snd) fun x1 =>
        some ((x1).fst, ((x1).snd).fst, ((x1).snd).snd)
def tollbarref05_Quote.v19 (κ : Nat) (a0 : ByteArray) (a1 : Int) (a2 : ByteArray) (a3 : Bool) (a4 : List Tollbarref05S) : Option (ByteArray × Int × (List Tollbarref05S)) :=
  bif a3 then
    bif (Nat.ble ((ByteArray.size a0) + (ByteArray.size (ByteArray.mk (List.toArray ((92 : UInt8) :: ((110 : UInt8) :: [])))))) Ev.maxI) then
      some ((a0 ++ (ByteArray.mk (List.toArray ((92 : UInt8) :: ((110 : UInt8) :: []))))), a1, a4)
    else
      none
  else
    Option.bind (Ev.Seat.tollbarref05_Quote.v20 κ a0 a1 a2 (Ev.seq a2 (ByteArray.mk (List.toArray ((9 : UInt8) :: [])))) a4) fun x0 =>
      some ((x0).fst, ((x0).snd).fst, ((x0).snd).snd)
def tollbarref05_Quote.v18 (κ : Nat) (a0 : ByteArray) (a1 : Int) (a2 : ByteArray) (a3 : Bool) (a4 : List Tollbarref05S) : Option (ByteArray × Int × (List Tollbarref05S)) :=
  bif a3 then
    bif (Nat.ble ((ByteArray.size (ByteArray.mk (List.toArray ((92 : UInt8) :: [])))) + (ByteArray.size a2)) Ev.maxI) then
      bif (Nat.ble ((ByteArray.size a0) + (ByteArray.size ((ByteArray.mk (List.toArray ((92 : UInt8) :: []))) ++ a2))) Ev.maxI) then
        some ((a0 ++ ((ByteArray.mk (List.toArray ((92 : UInt8) :: []))) ++ a2)), a1, a4)
      else
        none
    else
      none
  else
    Option.bind (Ev.Seat.tollbarref05_Quote.v19 κ a0 a1 a2 (Ev.seq a2 (ByteArray.mk (List.toArray ((10 : UInt8) :: [])))) a4) fun x0 =>
      some ((x0).fst, ((x0).snd).fst, ((x0).snd).snd)
def tollbarref05_Quote.v15 (κ : Nat) (a0 : ByteArray) (a1 : Int) (a2 : ByteArray) (a3 : List Tollbarref05S) : Option (ByteArray × Int × (List Tollbarref05S)) :=
  Option.bind (Ev.Seat.tollbarref05_Quote.v16 κ a0 a1 a2 a3) fun x0 =>
    Option.bind (Ev.Seat.tollbarref05_Quote.v18 κ (x0).fst ((x0).snd).fst (((x0).snd).snd).fst ((((x0).snd).snd).snd).fst ((((x0).snd).snd).snd).snd) fun x1 =>
      some ((x1).fst, ((x1).snd).fst, ((x1).snd).snd)
def tollbarref05_Quote.w14 (κ : Nat) (rec : (ByteArray × Int × (List Tollbarref05S)) → Option (ByteArray)) (a0 : ByteArray) (a1 : Int) (a2 : List Tollbarref05S) : Option (ByteArray) :=
  bif ((decide ((0 : Int) ≤ a1)) && (Nat.blt (Int.toNat a1) (List.length a2))) then
    Option.bind (a2[(Int.toNat a1)]?) fun x0 =>
      bif (!(Ev.seq (Ev.Seat.Tollbarref05S.text x0) (ByteArray.mk (List.toArray [])))) then
        bif ((decide ((0 : Int) ≤ a1)) && (Nat.blt (Int.toNat a1) (List.length a2))) then
          Option.bind (a2[(Int.toNat a1)]?) fun x1 =>
            Option.bind (Ev.Seat.tollbarref05_Quote.v15 κ a0 a1 (Ev.Seat.Tollbarref05S.text x1) a2) fun x2 =>
              rec ((x2).fst, (Go.IntKind.wrap Go.IntKind.i64 (((x2).snd).fst + (1 : Int))), ((x2).snd).snd)
        else
          none
      else
        some a0
  else
    none
def tollbarref05_Quote.l14 (κ : Nat) : Nat → (ByteArray × Int × (List Tollbarref05S)) → Option (ByteArray)
  | 0, _ => none
  | k + 1, (a0, a1, a2) => tollbarref05_Quote.w14 κ (tollbarref05_Quote.l14 κ k) a0 a1 a2
def tollbarref05_Quote (κ : Nat) (a0 : ByteArray) : Option (ByteArray) :=
  Option.bind (Ev.Seat.tollbarref05_Signs κ a0) fun x0 =>
    Option.bind (Ev.Seat.tollbarref05_Quote.l14 κ κ (Prod.mk (ByteArray.mk (List.toArray ((34 : UInt8) :: []))) (Prod.mk (0 : Int) x0))) fun x1 =>
      bif (Nat.ble ((ByteArray.size x1) + (ByteArray.size (ByteArray.mk (List.toArray ((34 : UInt8) :: []))))) Ev.maxI) then
        some (x1 ++ (ByteArray.mk (List.toArray ((34 : UInt8) :: []))))
      else
        none
def tollbarlaw05_LexQuotes.v0 (κ : Nat) (a0 : ByteArray) (a1 : ByteArray) (a2 : Int) (a3 : List LexToken) : Option (ByteArray × Bool × (List LexToken)) :=
  Option.bind (Ev.Seat.lex_Plain κ a0) fun x0 =>
    Option.bind (Ev.Seat.tollbarref05_Plain κ a0) fun x1 =>
      bif (!(x0 == x1)) then
        some (a0, Bool.true, a3)
      else
        Option.bind (Ev.Seat.tollbarref05_Quote κ a0) fun x2 =>
          bif (!(Ev.seq a1 x2)) then
            some (a0, Bool.true, a3)
          else
            bif (a2 != (0 : Int)) then
              some (a0, Bool.true, a3)
            else
              some (a0, ((((List.length a3) : Nat) : Int) != (2 : Int)), a3)
def tollbarlaw05_LexQuotes.v3 (κ : Nat) (a0 : ByteArray) (a1 : Int) (a2 : List LexToken) (a3 : List LexToken) : Option (ByteArray × Bool × (List LexToken)) :=
  bif (a1 != (0 : Int)) then
    some (a0, Bool.true, a2)
  else
    bif ((((List.length a3) : Nat) : Int) != (2 : Int)) then
      some (a0, Bool.true, a2)
    else
      bif (Nat.blt (Int.toNat (0 : Int)) (List.length a3)) then
        Option.bind (a3[(Int.toNat (0 : Int))]?) fun x0 =>
          bif ((Ev.Seat.LexToken.kind x0) != (1 : Int)) then
            some (a0, Bool.true, a2)
          else
            bif (Nat.blt (Int.toNat (0 : Int)) (List.length a3)) then
              Option.bind (a3[(Int.toNat (0 : Int))]?) fun x1 =>
                some (a0, (!(Ev.seq (Ev.Seat.LexToken.text x1) a0)), a2)
            else
              none
      else
        none
def tollbarlaw05_LexQuotes.v2 (κ : Nat) (a0 : ByteArray) (a1 : Bool) (a2 : List LexToken) : Option ((ByteArray × (List LexToken)) ⊕ (Bool)) :=
  bif a1 then
    Option.bind (Ev.Seat.lex_All κ a0) fun x0 =>
      Option.bind (Ev.Seat.tollbarlaw05_LexQuotes.v3 κ a0 (x0).fst a2 (((x0).snd).snd).snd) fun x1 =>
        bif ((x1).snd).fst then
          some (.inr Bool.false)
        else
          some (.inl ((x1).fst, ((x1).snd).snd))
  else
    some (.inl (a0, a2))
def tollbarlaw05_LexQuotes.v6 (κ : Nat) (a0 : ByteArray) (a1 : List LexToken) : Option (Bool) :=
  bif (Nat.blt (Int.toNat (0 : Int)) (List.length a1)) then
    Option.bind (a1[(Int.toNat (0 : Int))]?) fun x0 =>
      bif ((Ev.Seat.LexToken.kind x0) == (2 : Int)) then
        bif (Nat.blt (Int.toNat (0 : Int)) (List.length a1)) then
          Option.bind (a1[(Int.toNat (0 : Int))]?) fun x1 =>
            bif (Ev.seq (Ev.Seat.LexToken.text x1) a0) then
              bif (Nat.blt (Int.toNat (0 : Int)) (List.length a1)) then
                Option.bind (a1[(Int.toNat (0 : Int))]?) fun x2 =>
                  bif (((Ev.Seat.LexToken.at__line x2) == (1 : Int)) && ((Ev.Seat.LexToken.at__col x2) == (1 : Int))) then
                    bif (Nat.blt (Int.toNat (1 : Int)) (List.length a1)) then
                      Option.bind (a1[(Int.toNat (1 : Int))]?) fun x3 =>
                        some ((Ev.Seat.LexToken.kind x3) == (0 : Int))
                    else
                      none
                  else
                    some Bool.false
              else
                none
            else
              some Bool.false
        else
          none
      else
        some Bool.false
  else
    none
def tollbarlaw05_LexQuotes (κ : Nat) (a0 : ByteArray) : Option (Bool) :=
  Option.bind (Ev.Seat.tollbarlaw05_awake κ) fun x0 =>
    bif (!x0) then
      some Bool.false
    else
      bif (decide ((((ByteArray.size a0) : Nat) : Int) > (1000 : Int))) then
        some Bool.true
      else
        Option.bind (Ev.Seat.lex_Quote κ a0) fun x1 =>
          Option.bind (Ev.Seat.lex_All κ x1) fun x2 =>
            Option.bind (Ev.Seat.tollbarlaw05_LexQuotes.v0 κ a0 x1 (x2).fst (((x2).snd).snd).snd) fun x3 =>
              bif ((x3).snd).fst then
                some Bool.false
              else
                Option.bind (Ev.Seat.lex_Plain κ (x3).fst) fun x4 =>
                  Option.bind (Ev.Seat.tollbarlaw05_LexQuotes.v2 κ (x3).fst x4 ((x3).snd).snd) fun x5 =>
                    match x5 with
                    | .inl x6 =>
                      Option.bind (Ev.Seat.tollbarlaw05_LexQuotes.v6 κ (x6).fst (x6).snd) fun x7 =>
                        some x7
                    | .inr x8 =>
                      some x8
def tollbarlaw05_LexFronts.v0 (κ : Nat) (a0 : ByteArray) (a1 : ByteArray) : Option (ByteArray × ByteArray × Bool) :=
  bif (decide ((((ByteArray.size a0) : Nat) : Int) > (1000 : Int))) then
    some (a0, a1, Bool.true)
  else
    some (a0, a1, (decide ((((ByteArray.size a1) : Nat) : Int) > (1000 : Int))))
def tollbarlaw05_LexFronts.v5 (κ : Nat) (a0 : Int) (a1 : List LexToken) (a2 : Int) (a3 : Int) (a4 : Int) (a5 : Int) (a6 : Int) (a7 : Int) : Option (Int × Bool × (List LexToken) × Int × Int) :=
  bif (decide (a6 < a4)) then
    some (a0, Bool.true, a1, a2, a3)
  else
    bif (a6 == a4) then
      some (a0, (decide (a7 ≤ a5)), a1, a2, a3)
    else
      some (a0, Bool.false, a1, a2, a3)
def tollbarlaw05_LexFronts.w4 (κ : Nat) (rec : (Int × (List LexToken) × Int × Int) → Option (((List LexToken) × Int × Int) ⊕ (Bool))) (a0 : Int) (a1 : List LexToken) (a2 : Int) (a3 : Int) : Option (((List LexToken) × Int × Int) ⊕ (Bool)) :=
  bif (decide (a0 < (((List.length a1) : Nat) : Int))) then
    bif ((decide ((0 : Int) ≤ (Go.IntKind.wrap Go.IntKind.i64 (a0 - (1 : Int))))) && (Nat.blt (Int.toNat (Go.IntKind.wrap Go.IntKind.i64 (a0 - (1 : Int)))) (List.length a1))) then
      Option.bind (a1[(Int.toNat (Go.IntKind.wrap Go.IntKind.i64 (a0 - (1 : Int))))]?) fun x0 =>
        bif ((decide ((0 : Int) ≤ a0)) && (Nat.blt (Int.toNat a0) (List.length a1))) then
          Option.bind (a1[(Int.toNat a0)]?) fun x1 =>
            Option.bind (Ev.Seat.tollbarlaw05_LexFronts.v5 κ a0 a1 a2 a3 (Ev.Seat.LexToken.at__line x0) (Ev.Seat.LexToken.at__col x0) (Ev.Seat.LexToken.at__line x1) (Ev.Seat.LexToken.at__col x1)) fun x2 =>
              bif ((x2).snd).fst then
                some (.inr Bool.false)
              else
                rec ((Go.IntKind.wrap Go.IntKind.i64 ((x2).fst + (1 : Int))), (((x2).snd).snd).fst, ((((x2).snd).snd).snd).fst, ((((x2).snd).snd).snd).snd)
        else
          none
    else
      none
  else
    some (.inl (a1, a2, a3))
def tollbarlaw05_LexFronts.l4 (κ : Nat) : Nat → (Int × (List LexToken) × Int × Int) → Option (((List LexToken) × Int × Int) ⊕ (Bool))
  | 0, _ => none
  | k + 1, (a0, a1, a2, a3) => tollbarlaw05_LexFronts.w4 κ (tollbarlaw05_LexFronts.l4 κ k) a0 a1 a2 a3
def tollbarlaw05_LexFronts.v8 (κ : Nat) (a0 : List LexToken) (a1 : Int) (a2 : Int) : Option (Bool) :=
  bif (decide ((((List.length a0) : Nat) : Int) > (0 : Int))) then
    bif ((decide ((0 : Int) ≤ (Go.IntKind.wrap Go.IntKind.i64 ((((List.length a0) : Nat) : Int) - (1 : Int))))) && (Nat.blt (Int.toNat (Go.IntKind.wrap Go.IntKind.i64 ((((List.length a0) : Nat) : Int) - (1 : Int)))) (List.length a0))) then
      Option.bind (a0[(Int.toNat (Go.IntKind.wrap Go.IntKind.i64 ((((List.length a0) : Nat) : Int) - (1 : Int))))]?) fun x0 =>
        bif ((Ev.Seat.LexToken.kind x0) == (0 : Int)) then
          some ((a1 == (0 : Int)) && (a2 == (0 : Int)))
        else
          some Bool.false
    else
      none
  else
    some Bool.false
def tollbarlaw05_LexFronts.v16 (κ : Nat) (a0 : ByteArray) (a1 : ByteArray) (a2 : Int) (a3 : Int) (a4 : Int) (a5 : Bool) (a6 : List LexToken) (a7 : Int) (a8 : Int) (a9 : ByteArray) (a10 : Nat) : Option (ByteArray × ByteArray × Int × Int × Int × (List LexToken) × Int × Int × ByteArray × Nat) :=
  bif a5 then
    some (a0, a1, a2, (Go.IntKind.wrap Go.IntKind.i64 (a3 + (1 : Int))), (1 : Int), a6, a7, a8, a9, a10)
  else
    some (a0, a1, a2, a3, a4, a6, a7, a8, a9, a10)
def tollbarlaw05_LexFronts.v15 (κ : Nat) (a0 : ByteArray) (a1 : ByteArray) (a2 : Int) (a3 : Int) (a4 : Int) (a5 : Bool) (a6 : Int) (a7 : Int) (a8 : List LexToken) (a9 : Int) (a10 : Int) (a11 : ByteArray) (a12 : Nat) : Option (ByteArray × ByteArray × Int × Int × Int × (List LexToken) × Int × Int × ByteArray × Nat) :=
  Option.bind (Ev.Seat.tollbarlaw05_LexFronts.v16 κ a0 a1 a2 a3 (Go.IntKind.wrap Go.IntKind.i64 (a4 + (1 : Int))) (a7 == (10 : Int)) a8 a9 a10 a11 a12) fun x0 =>
    some ((x0).fst, ((x0).snd).fst, (((x0).snd).snd).fst, ((((x0).snd).snd).snd).fst, (((((x0).snd).snd).snd).snd).fst, ((((((x0).snd).snd).snd).snd).snd).fst, (((((((x0).snd).snd).snd).snd).snd).snd).fst, ((((((((x0).snd).snd).snd).snd).snd).snd).snd).fst, (((((((((x0).snd).snd).snd).snd).snd).snd).snd).snd).fst, (((((((((x0).snd).snd).snd).snd).snd).snd).snd).snd).snd)
def tollbarlaw05_LexFronts.w14 (κ : Nat) (rec : (ByteArray × ByteArray × Int × Int × Int × (List LexToken) × Int × Int × ByteArray × Nat) → Option (ByteArray × ByteArray × Int × Int × Int × (List LexToken) × Int × Int)) (a0 : ByteArray) (a1 : ByteArray) (a2 : Int) (a3 : Int) (a4 : Int) (a5 : List LexToken) (a6 : Int) (a7 : Int) (a8 : ByteArray) (a9 : Nat) : Option (ByteArray × ByteArray × Int × Int × Int × (List LexToken) × Int × Int) :=
  bif (Nat.blt a9 (ByteArray.size a8)) then
    Option.bind (Ev.Seat.tollbarlaw05_LexFronts.v15 κ a0 a1 a2 a3 a4 Bool.true ((a9 : Nat) : Int) (((Go.Utf8.decode a8 a9).1 : Nat) : Int) a5 a6 a7 a8 (a9 + (Go.Utf8.decode a8 a9).2)) fun x0 =>
      rec ((x0).fst, ((x0).snd).fst, (((x0).snd).snd).fst, ((((x0).snd).snd).snd).fst, (((((x0).snd).snd).snd).snd).fst, ((((((x0).snd).snd).snd).snd).snd).fst, (((((((x0).snd).snd).snd).snd).snd).snd).fst, ((((((((x0).snd).snd).snd).snd).snd).snd).snd).fst, (((((((((x0).snd).snd).snd).snd).snd).snd).snd).snd).fst, (((((((((x0).snd).snd).snd).snd).snd).snd).snd).snd).snd)
  else
    some (a0, a1, a2, a3, a4, a5, a6, a7)
def tollbarlaw05_LexFronts.l14 (κ : Nat) : Nat → (ByteArray × ByteArray × Int × Int × Int × (List LexToken) × Int × Int × ByteArray × Nat) → Option (ByteArray × ByteArray × Int × Int × Int × (List LexToken) × Int × Int)
  | 0, _ => none
  | k + 1, (a0, a1, a2, a3, a4, a5, a6, a7, a8, a9) => tollbarlaw05_LexFronts.w14 κ (tollbarlaw05_LexFronts.l14 κ k) a0 a1 a2 a3 a4 a5 a6 a7 a8 a9
def tollbarlaw05_LexFronts.v20 (κ : Nat) (a0 : ByteArray) (a1 : ByteArray) (a2 : Int) (a3 : Int) (a4 : Int) (a5 : List LexToken) (a6 : Int) (a7 : Int) : Option (ByteArray × ByteArray × Int × Int × Int × Bool × Int × Int) :=
  bif (a2 != (20 : Int)) then
    some (a0, a1, a2, a3, a4, Bool.true, a6, a7)
  else
    bif (decide ((((List.length a5) : Nat) : Int) > (0 : Int))) then
      some (a0, a1, a2, a3, a4, Bool.true, a6, a7)
    else
      bif (decide (a6 < (1 : Int))) then
        some (a0, a1, a2, a3, a4, Bool.true, a6, a7)
      else
        bif (decide (a7 < (1 : Int))) then
          some (a0, a1, a2, a3, a4, Bool.true, a6, a7)
        else
          some (a0, a1, a2, a3, a4, (decide (a6 > a3)), a6, a7)
def tollbarlaw05_LexFronts.v22 (κ : Nat) (a0 : ByteArray) (a1 : ByteArray) (a2 : Int) (a3 : Int) (a4 : Int) (a5 : Int) (a6 : Int) : Option (ByteArray × ByteArray × Int × Bool × Int × Int) :=
  bif (a5 == a3) then
    some (a0, a1, a2, (a6 == a4), a5, a6)
  else
    some (a0, a1, a2, Bool.false, a5, a6)
def tollbarlaw05_LexFronts.v24 (κ : Nat) (a0 : Int) (a1 : Int) (a2 : Int) (a3 : Int) (a4 : Int) (a5 : Int) : Option (Bool) :=
  bif (a1 == a0) then
    some ((a4 == a2) && (a5 == a3))
  else
    some Bool.false
def tollbarlaw05_LexFronts (κ : Nat) (a0 : ByteArray) (a1 : ByteArray) : Option (Bool) :=
  Option.bind (Ev.Seat.tollbarlaw05_awake κ) fun x0 =>
    bif (!x0) then
      some Bool.false
    else
      Option.bind (Ev.Seat.tollbarlaw05_LexFronts.v0 κ a0 a1) fun x1 =>
        bif ((x1).snd).snd then
          some Bool.true
        else
          Option.bind (Ev.Seat.lex_All κ (x1).fst) fun x2 =>
            bif ((x2).fst == (0 : Int)) then
              Option.bind (Ev.Seat.tollbarlaw05_LexFronts.l4 κ κ (Prod.mk (1 : Int) (Prod.mk (((x2).snd).snd).snd (Prod.mk ((x2).snd).fst (((x2).snd).snd).fst)))) fun x8 =>
                match x8 with
                | .inl x9 =>
                  Option.bind (Ev.Seat.tollbarlaw05_LexFronts.v8 κ (x9).fst ((x9).snd).fst ((x9).snd).snd) fun x10 =>
                    some x10
                | .inr x11 =>
                  some x11
            else
              Option.bind (Ev.Seat.tollbarlaw05_LexFronts.l14 κ κ (Prod.mk (x1).fst (Prod.mk ((x1).snd).fst (Prod.mk (x2).fst (Prod.mk (1 : Int) (Prod.mk (1 : Int) (Prod.mk (((x2).snd).snd).snd (Prod.mk ((x2).snd).fst (Prod.mk (((x2).snd).snd).fst (Prod.mk (x1).fst 0)))))))))) fun x3 =>
                Option.bind (Ev.Seat.tollbarlaw05_LexFronts.v20 κ (x3).fst ((x3).snd).fst (((x3).snd).snd).fst ((((x3).snd).snd).snd).fst (((((x3).snd).snd).snd).snd).fst ((((((x3).snd).snd).snd).snd).snd).fst (((((((x3).snd).snd).snd).snd).snd).snd).fst (((((((x3).snd).snd).snd).snd).snd).snd).snd) fun x4 =>
                  bif ((((((x4).snd).snd).snd).snd).snd).fst then
                    some Bool.false
                  else
                    Option.bind (Ev.Seat.tollbarlaw05_LexFronts.v22 κ (x4).fst ((x4).snd).fst (((x4).snd).snd).fst ((((x4).snd).snd).snd).fst (((((x4).snd).snd).snd).snd).fst (((((((x4).snd).snd).snd).snd).snd).snd).fst (((((((x4).snd).snd).snd).snd).snd).snd).snd) fun x5 =>
                      bif ((((x5).snd).snd).snd).fst then
                        some Bool.true
                      else
                        bif (Nat.ble ((ByteArray.size (x5).fst) + (ByteArray.size (ByteArray.mk (List.toArray ((10 : UInt8) :: []))))) Ev.maxI) then
                          bif (Nat.ble ((ByteArray.size ((x5).fst ++ (ByteArray.mk (List.toArray ((10 : UInt8) :: []))))) + (ByteArray.size ((x5).snd).fst)) Ev.maxI) then
                            Option.bind (Ev.Seat.lex_All κ (((x5).fst ++ (ByteArray.mk (List.toArray ((10 : UInt8) :: [])))) ++ ((x5).snd).fst)) fun x6 =>
                              Option.bind (Ev.Seat.tollbarlaw05_LexFronts.v24 κ (((x5).snd).snd).fst (x6).fst (((((x5).snd).snd).snd).snd).fst (((((x5).snd).snd).snd).snd).snd ((x6).snd).fst (((x6).snd).snd).fst) fun x7 =>
                                some x7
                          else
                            none
                        else
                          none
def tollbarlaw05_LexJoins.v0 (κ : Nat) (a0 : ByteArray) (a1 : ByteArray) : Option (ByteArray × ByteArray × Bool) :=
  bif (decide ((((ByteArray.size a0) : Nat) : Int) > (1000 : Int))) then
    some (a0, a1, Bool.true)
  else
    some (a0, a1, (decide ((((ByteArray.size a1) : Nat) : Int) > (1000 : Int))))
def tollbarlaw05_LexJoins.v2 (κ : Nat) (a0 : Int) (a1 : Int) (a2 : List LexToken) : Option (Bool) :=
  bif ((((List.length a2) : Nat) : Int) == (0 : Int)) then
    some (a1 == a0)
  else
    some Bool.false
def tollbarlaw05_LexJoins.v4 (κ : Nat) (a0 : Int) (a1 : Int) (a2 : Int) (a3 : Int) (a4 : Int) (a5 : Int) (a6 : Int) : Option (Bool) :=
  bif (a1 == a0) then
    bif (a5 == (Go.IntKind.wrap Go.IntKind.i64 (a3 + a2))) then
      some (a6 == a4)
    else
      some Bool.false
  else
    some Bool.false
def tollbarlaw05_LexJoins.v6 (κ : Nat) (a0 : Int) (a1 : Int) (a2 : List LexToken) (a3 : List LexToken) (a4 : List LexToken) : Option (Int × Bool × (List LexToken) × (List LexToken) × (List LexToken)) :=
  bif (a0 != (0 : Int)) then
    some (a1, Bool.true, a2, a3, a4)
  else
    some (a1, ((((List.length a4) : Nat) : Int) != (Go.IntKind.wrap Go.IntKind.i64 ((Go.IntKind.wrap Go.IntKind.i64 ((((List.length a2) : Nat) : Int) + (((List.length a3) : Nat) : Int))) - (1 : Int)))), a2, a3, a4)
def tollbarlaw05_LexJoins.v11 (κ : Nat) (a0 : Int) (a1 : Int) (a2 : Bool) (a3 : List LexToken) (a4 : List LexToken) (a5 : List LexToken) (a6 : Int) (a7 : ByteArray) (a8 : Int) (a9 : Int) : Option (Int × Int × (List LexToken) × (List LexToken) × (List LexToken) × Int × ByteArray × Int × Int) :=
  bif a2 then
    bif ((decide ((0 : Int) ≤ a1)) && (Nat.blt (Int.toNat a1) (List.length a3))) then
      Option.bind (a3[(Int.toNat a1)]?) fun x1 =>
        some (a0, a1, a3, a4, a5, (Ev.Seat.LexToken.kind x1), (Ev.Seat.LexToken.text x1), (Ev.Seat.LexToken.at__line x1), (Ev.Seat.LexToken.at__col x1))
    else
      none
  else
    bif ((decide ((0 : Int) ≤ (Go.IntKind.wrap Go.IntKind.i64 ((Go.IntKind.wrap Go.IntKind.i64 (a1 - (((List.length a3) : Nat) : Int))) + (1 : Int))))) && (Nat.blt (Int.toNat (Go.IntKind.wrap Go.IntKind.i64 ((Go.IntKind.wrap Go.IntKind.i64 (a1 - (((List.length a3) : Nat) : Int))) + (1 : Int)))) (List.length a4))) then
      Option.bind (a4[(Int.toNat (Go.IntKind.wrap Go.IntKind.i64 ((Go.IntKind.wrap Go.IntKind.i64 (a1 - (((List.length a3) : Nat) : Int))) + (1 : Int))))]?) fun x0 =>
        some (a0, a1, a3, a4, a5, (Ev.Seat.LexToken.kind x0), (Ev.Seat.LexToken.text x0), (Go.IntKind.wrap Go.IntKind.i64 ((Ev.Seat.LexToken.at__line x0) + a0)), (Ev.Seat.LexToken.at__col x0))
    else
      none
def tollbarlaw05_LexJoins.w10 (κ : Nat) (rec : (Int × Int × (List LexToken) × (List LexToken) × (List LexToken)) → Option ((Unit) ⊕ (Bool))) (a0 : Int) (a1 : Int) (a2 : List LexToken) (a3 : List LexToken) (a4 : List LexToken) : Option ((Unit) ⊕ (Bool)) :=
  bif (decide (a1 < (((List.length a4) : Nat) : Int))) then
    Option.bind (Ev.Seat.tollbarlaw05_LexJoins.v11 κ a0 a1 (decide (a1 < (Go.IntKind.wrap Go.IntKind.i64 ((((List.length a2) : Nat) : Int) - (1 : Int))))) a2 a3 a4 (0 : Int) (ByteArray.mk (List.toArray [])) (0 : Int) (0 : Int)) fun x0 =>
      bif ((decide ((0 : Int) ≤ ((x0).snd).fst)) && (Nat.blt (Int.toNat ((x0).snd).fst) (List.length (((((x0).snd).snd).snd).snd).fst))) then
        Option.bind ((((((x0).snd).snd).snd).snd).fst[(Int.toNat ((x0).snd).fst)]?) fun x1 =>
          bif (!(((Ev.Seat.LexToken.kind x1) == ((((((x0).snd).snd).snd).snd).snd).fst) && ((Ev.seq (Ev.Seat.LexToken.text x1) (((((((x0).snd).snd).snd).snd).snd).snd).fst) && (((Ev.Seat.LexToken.at__line x1) == ((((((((x0).snd).snd).snd).snd).snd).snd).snd).fst) && ((Ev.Seat.LexToken.at__col x1) == ((((((((x0).snd).snd).snd).snd).snd).snd).snd).snd))))) then
            some (.inr Bool.false)
          else
            rec ((x0).fst, (Go.IntKind.wrap Go.IntKind.i64 (((x0).snd).fst + (1 : Int))), (((x0).snd).snd).fst, ((((x0).snd).snd).snd).fst, (((((x0).snd).snd).snd).snd).fst)
      else
        none
  else
    some (.inl ())
def tollbarlaw05_LexJoins.l10 (κ : Nat) : Nat → (Int × Int × (List LexToken) × (List LexToken) × (List LexToken)) → Option ((Unit) ⊕ (Bool))
  | 0, _ => none
  | k + 1, (a0, a1, a2, a3, a4) => tollbarlaw05_LexJoins.w10 κ (tollbarlaw05_LexJoins.l10 κ k) a0 a1 a2 a3 a4
def tollbarlaw05_LexJoins (κ : Nat) (a0 : ByteArray) (a1 : ByteArray) : Option (Bool) :=
  Option.bind (Ev.Seat.tollbarlaw05_awake κ) fun x0 =>
    bif (!x0) then
      some Bool.false
    else
      Option.bind (Ev.Seat.tollbarlaw05_LexJoins.v0 κ a0 a1) fun x1 =>
        bif ((x1).snd).snd then
          some Bool.true
        else
          Option.bind (Ev.Seat.lex_All κ (x1).fst) fun x2 =>
            Option.bind (Ev.Seat.lex_All κ ((x1).snd).fst) fun x3 =>
              bif (Nat.ble ((ByteArray.size (x1).fst) + (ByteArray.size (ByteArray.mk (List.toArray ((10 : UInt8) :: []))))) Ev.maxI) then
                bif (Nat.ble ((ByteArray.size ((x1).fst ++ (ByteArray.mk (List.toArray ((10 : UInt8) :: []))))) + (ByteArray.size ((x1).snd).fst)) Ev.maxI) then
                  Option.bind (Ev.Seat.lex_All κ (((x1).fst ++ (ByteArray.mk (List.toArray ((10 : UInt8) :: [])))) ++ ((x1).snd).fst)) fun x4 =>
                    bif ((x2).fst != (0 : Int)) then
                      Option.bind (Ev.Seat.tollbarlaw05_LexJoins.v2 κ (x2).fst (x4).fst (((x4).snd).snd).snd) fun x11 =>
                        some x11
                    else
                      bif ((decide ((0 : Int) ≤ (Go.IntKind.wrap Go.IntKind.i64 ((((List.length (((x2).snd).snd).snd) : Nat) : Int) - (1 : Int))))) && (Nat.blt (Int.toNat (Go.IntKind.wrap Go.IntKind.i64 ((((List.length (((x2).snd).snd).snd) : Nat) : Int) - (1 : Int)))) (List.length (((x2).snd).snd).snd))) then
                        Option.bind ((((x2).snd).snd).snd[(Int.toNat (Go.IntKind.wrap Go.IntKind.i64 ((((List.length (((x2).snd).snd).snd) : Nat) : Int) - (1 : Int))))]?) fun x5 =>
                          bif ((x3).fst != (0 : Int)) then
                            Option.bind (Ev.Seat.tollbarlaw05_LexJoins.v4 κ (x3).fst (x4).fst (Ev.Seat.LexToken.at__line x5) ((x3).snd).fst (((x3).snd).snd).fst ((x4).snd).fst (((x4).snd).snd).fst) fun x10 =>
                              some x10
                          else
                            Option.bind (Ev.Seat.tollbarlaw05_LexJoins.v6 κ (x4).fst (Ev.Seat.LexToken.at__line x5) (((x2).snd).snd).snd (((x3).snd).snd).snd (((x4).snd).snd).snd) fun x6 =>
                              bif ((x6).snd).fst then
                                some Bool.false
                              else
                                Option.bind (Ev.Seat.tollbarlaw05_LexJoins.l10 κ κ (Prod.mk (x6).fst (Prod.mk (0 : Int) (Prod.mk (((x6).snd).snd).fst (Prod.mk ((((x6).snd).snd).snd).fst ((((x6).snd).snd).snd).snd))))) fun x7 =>
                                  match x7 with
                                  | .inl x8 =>
                                    some Bool.true
                                  | .inr x9 =>
                                    some x9
                      else
                        none
                else
                  none
              else
                none
def tollbarlaw05_LexBetween.v0 (κ : Nat) (a0 : List LexToken) (a1 : List ByteArray) : Option ((List LexToken) × (List ByteArray) × Bool) :=
  bif (decide ((((List.length a0) : Nat) : Int) > (40 : Int))) then
    some (a0, a1, Bool.true)
  else
    some (a0, a1, (decide ((((List.length a1) : Nat) : Int) < (((List.length a0) : Nat) : Int))))
def tollbarlaw05_LexBetween.w17 (κ : Nat) (rec : ((List LexToken) × (List ByteArray) × ByteArray × Int × Int) → Option (((List LexToken) × (List ByteArray) × ByteArray × Int) ⊕ (Bool))) (a0 : List LexToken) (a1 : List ByteArray) (a2 : ByteArray) (a3 : Int) (a4 : Int) : Option (((List LexToken) × (List ByteArray) × ByteArray × Int) ⊕ (Bool)) :=
  bif (decide ((0 : Int) ≤ a3)) then
    Option.bind (a1[(Int.toNat a3)]?) fun x0 =>
      bif (decide (a4 < (((ByteArray.size x0) : Nat) : Int))) then
        bif (decide ((0 : Int) ≤ a3)) then
          Option.bind (a1[(Int.toNat a3)]?) fun x1 =>
            bif (decide ((0 : Int) ≤ a4)) then
              Option.bind ((Array.toList (ByteArray.data x1))[(Int.toNat a4)]?) fun x2 =>
                bif ((((UInt8.toNat x2) : Nat) : Int) == (10 : Int)) then
                  some (.inr Bool.true)
                else
                  rec (a0, a1, a2, a3, (Go.IntKind.wrap Go.IntKind.i64 (a4 + (1 : Int))))
            else
              none
        else
          none
      else
        some (.inl (a0, a1, a2, a3))
  else
    none
def tollbarlaw05_LexBetween.l17 (κ : Nat) : Nat → ((List LexToken) × (List ByteArray) × ByteArray × Int × Int) → Option (((List LexToken) × (List ByteArray) × ByteArray × Int) ⊕ (Bool))
  | 0, _ => none
  | k + 1, (a0, a1, a2, a3, a4) => tollbarlaw05_LexBetween.w17 κ (tollbarlaw05_LexBetween.l17 κ k) a0 a1 a2 a3 a4
def tollbarlaw05_LexBetween.v19 (κ : Nat) (a0 : List LexToken) (a1 : List ByteArray) (a2 : ByteArray) (a3 : Int) : Option ((List LexToken) × (List ByteArray) × ByteArray × Int × Bool) :=
  bif (decide ((0 : Int) ≤ a3)) then
    Option.bind (a0[(Int.toNat a3)]?) fun x0 =>
      bif (decide ((((ByteArray.size (Ev.Seat.LexToken.text x0)) : Nat) : Int) > (60 : Int))) then
        some (a0, a1, a2, a3, Bool.true)
      else
        bif (decide ((0 : Int) ≤ a3)) then
          Option.bind (a1[(Int.toNat a3)]?) fun x1 =>
            some (a0, a1, a2, a3, (decide ((((ByteArray.size x1) : Nat) : Int) > (60 : Int))))
        else
          none
  else
    none
def tollbarlaw05_LexBetween.v25 (κ : Nat) (a0 : List LexToken) (a1 : List ByteArray) (a2 : ByteArray) (a3 : Int) (a4 : Int) (a5 : Bool) : Option ((Bool) ⊕ ((List LexToken) × (List ByteArray) × ByteArray × Int)) :=
  bif a5 then
    bif (Nat.ble ((ByteArray.size a2) + (ByteArray.size (ByteArray.mk (List.toArray ((125 : UInt8) :: []))))) Ev.maxI) then
      some (.inr (a0, a1, (a2 ++ (ByteArray.mk (List.toArray ((125 : UInt8) :: [])))), a3))
    else
      none
  else
    bif (a4 == (5 : Int)) then
      bif (Nat.ble ((ByteArray.size a2) + (ByteArray.size (ByteArray.mk (List.toArray ((59 : UInt8) :: []))))) Ev.maxI) then
        some (.inr (a0, a1, (a2 ++ (ByteArray.mk (List.toArray ((59 : UInt8) :: [])))), a3))
      else
        none
    else
      some (.inl Bool.true)
def tollbarlaw05_LexBetween.v24 (κ : Nat) (a0 : List LexToken) (a1 : List ByteArray) (a2 : ByteArray) (a3 : Int) (a4 : Int) (a5 : Bool) : Option ((Bool) ⊕ ((List LexToken) × (List ByteArray) × ByteArray × Int)) :=
  bif a5 then
    bif (Nat.ble ((ByteArray.size a2) + (ByteArray.size (ByteArray.mk (List.toArray ((123 : UInt8) :: []))))) Ev.maxI) then
      some (.inr (a0, a1, (a2 ++ (ByteArray.mk (List.toArray ((123 : UInt8) :: [])))), a3))
    else
      none
  else
    Option.bind (Ev.Seat.tollbarlaw05_LexBetween.v25 κ a0 a1 a2 a3 a4 (a4 == (4 : Int))) fun x0 =>
      match x0 with
      | .inl x1 =>
        some (.inl x1)
      | .inr x2 =>
        some (.inr ((x2).fst, ((x2).snd).fst, (((x2).snd).snd).fst, (((x2).snd).snd).snd))
def tollbarlaw05_LexBetween.v23 (κ : Nat) (a0 : List LexToken) (a1 : List ByteArray) (a2 : ByteArray) (a3 : Int) (a4 : Int) (a5 : Bool) : Option ((Bool) ⊕ ((List LexToken) × (List ByteArray) × ByteArray × Int)) :=
  bif a5 then
    bif (decide ((0 : Int) ≤ a3)) then
      Option.bind (a0[(Int.toNat a3)]?) fun x3 =>
        Option.bind (Ev.Seat.lex_Quote κ (Ev.Seat.LexToken.text x3)) fun x4 =>
          bif (Nat.ble ((ByteArray.size a2) + (ByteArray.size x4)) Ev.maxI) then
            some (.inr (a0, a1, (a2 ++ x4), a3))
          else
            none
    else
      none
  else
    Option.bind (Ev.Seat.tollbarlaw05_LexBetween.v24 κ a0 a1 a2 a3 a4 (a4 == (3 : Int))) fun x0 =>
      match x0 with
      | .inl x1 =>
        some (.inl x1)
      | .inr x2 =>
        some (.inr ((x2).fst, ((x2).snd).fst, (((x2).snd).snd).fst, (((x2).snd).snd).snd))
def tollbarlaw05_LexBetween.v22 (κ : Nat) (a0 : List LexToken) (a1 : List ByteArray) (a2 : ByteArray) (a3 : Int) (a4 : Int) (a5 : Bool) : Option ((Bool) ⊕ ((List LexToken) × (List ByteArray) × ByteArray × Int)) :=
  bif a5 then
    bif (decide ((0 : Int) ≤ a3)) then
      Option.bind (a0[(Int.toNat a3)]?) fun x3 =>
        Option.bind (Ev.Seat.lex_Plain κ (Ev.Seat.LexToken.text x3)) fun x4 =>
          bif (!x4) then
            some (.inl Bool.true)
          else
            bif (decide ((0 : Int) ≤ a3)) then
              Option.bind (a0[(Int.toNat a3)]?) fun x5 =>
                bif (Nat.ble ((ByteArray.size a2) + (ByteArray.size (Ev.Seat.LexToken.text x5))) Ev.maxI) then
                  some (.inr (a0, a1, (a2 ++ (Ev.Seat.LexToken.text x5)), a3))
                else
                  none
            else
              none
    else
      none
  else
    Option.bind (Ev.Seat.tollbarlaw05_LexBetween.v23 κ a0 a1 a2 a3 a4 (a4 == (2 : Int))) fun x0 =>
      match x0 with
      | .inl x1 =>
        some (.inl x1)
      | .inr x2 =>
        some (.inr ((x2).fst, ((x2).snd).fst, (((x2).snd).snd).fst, (((x2).snd).snd).snd))
def tollbarlaw05_LexBetween.v21 (κ : Nat) (a0 : List LexToken) (a1 : List ByteArray) (a2 : ByteArray) (a3 : Int) (a4 : Int) : Option ((Bool) ⊕ ((List LexToken) × (List ByteArray) × ByteArray × Int)) :=
  Option.bind (Ev.Seat.tollbarlaw05_LexBetween.v22 κ a0 a1 a2 a3 a4 (a4 == (1 : Int))) fun x0 =>
    match x0 with
    | .inl x1 =>
      some (.inl x1)
    | .inr x2 =>
      some (.inr ((x2).fst, ((x2).snd).fst, (((x2).snd).snd).fst, (((x2).snd).snd).snd))
def tollbarlaw05_LexBetween.w16 (κ : Nat) (rec : ((List LexToken) × (List ByteArray) × ByteArray × Int) → Option (((List LexToken) × ByteArray) ⊕ (Bool))) (a0 : List LexToken) (a1 : List ByteArray) (a2 : ByteArray) (a3 : Int) : Option (((List LexToken) × ByteArray) ⊕ (Bool)) :=
  bif (decide (a3 < (((List.length a0) : Nat) : Int))) then
    Option.bind (Ev.Seat.tollbarlaw05_LexBetween.l17 κ κ (Prod.mk a0 (Prod.mk a1 (Prod.mk a2 (Prod.mk a3 (0 : Int)))))) fun x0 =>
      match x0 with
      | .inl x1 =>
        Option.bind (Ev.Seat.tollbarlaw05_LexBetween.v19 κ (x1).fst ((x1).snd).fst (((x1).snd).snd).fst (((x1).snd).snd).snd) fun x2 =>
          bif ((((x2).snd).snd).snd).snd then
            some (.inr Bool.true)
          else
            bif (decide ((0 : Int) ≤ ((((x2).snd).snd).snd).fst)) then
              Option.bind (((x2).snd).fst[(Int.toNat ((((x2).snd).snd).snd).fst)]?) fun x3 =>
                bif (Nat.ble ((ByteArray.size (ByteArray.mk (List.toArray ((9 : UInt8) :: ((32 : UInt8) :: ((35 : UInt8) :: [])))))) + (ByteArray.size x3)) Ev.maxI) then
                  bif (Nat.ble ((ByteArray.size ((ByteArray.mk (List.toArray ((9 : UInt8) :: ((32 : UInt8) :: ((35 : UInt8) :: []))))) ++ x3)) + (ByteArray.size (ByteArray.mk (List.toArray ((10 : UInt8) :: ((32 : UInt8) :: [])))))) Ev.maxI) then
                    bif (Nat.ble ((ByteArray.size (((x2).snd).snd).fst) + (ByteArray.size (((ByteArray.mk (List.toArray ((9 : UInt8) :: ((32 : UInt8) :: ((35 : UInt8) :: []))))) ++ x3) ++ (ByteArray.mk (List.toArray ((10 : UInt8) :: ((32 : UInt8) :: []))))))) Ev.maxI) then
                      bif (decide ((0 : Int) ≤ ((((x2).snd).snd).snd).fst)) then
                        Option.bind ((x2).fst[(Int.toNat ((((x2).snd).snd).snd).fst)]?) fun x4 =>
                          Option.bind (Ev.Seat.tollbarlaw05_LexBetween.v21 κ (x2).fst ((x2).snd).fst ((((x2).snd).snd).fst ++ (((ByteArray.mk (List.toArray ((9 : UInt8) :: ((32 : UInt8) :: ((35 : UInt8) :: []))))) ++ x3) ++ (ByteArray.mk (List.toArray ((10 : UInt8) :: ((32 : UInt8) :: [])))))) ((((x2).snd).snd).snd).fst (Ev.Seat.LexToken.kind x4)) fun x5 =>
                            match x5 with
                            | .inl x6 =>
                              some (.inr x6)
                            | .inr x7 =>
                              rec ((x7).fst, ((x7).snd).fst, (((x7).snd).snd).fst, (Go.IntKind.wrap Go.IntKind.i64 ((((x7).snd).snd).snd + (1 : Int))))
                      else
                        none
                    else
                      none
                  else
                    none
                else
                  none
            else
              none
      | .inr x8 =>
        some (.inr x8)
  else
    some (.inl (a0, a2))
def tollbarlaw05_LexBetween.l16 (κ : Nat) : Nat → ((List LexToken) × (List ByteArray) × ByteArray × Int) → Option (((List LexToken) × ByteArray) ⊕ (Bool))
  | 0, _ => none
  | k + 1, (a0, a1, a2, a3) => tollbarlaw05_LexBetween.w16 κ (tollbarlaw05_LexBetween.l16 κ k) a0 a1 a2 a3
def tollbarlaw05_LexBetween.v32 (κ : Nat) (a0 : List LexToken) (a1 : Int) (a2 : List LexToken) : Option ((List LexToken) × Bool × (List LexToken)) :=
  bif (a1 != (0 : Int)) then
    some (a0, Bool.true, a2)
  else
    some (a0, ((((List.length a2) : Nat) : Int) != (Go.IntKind.wrap Go.IntKind.i64 ((((List.length a0) : Nat) : Int) + (1 : Int)))), a2)
def tollbarlaw05_LexBetween.v39 (κ : Nat) (a0 : List LexToken) (a1 : Int) (a2 : ByteArray) (a3 : Bool) (a4 : List LexToken) : Option ((List LexToken) × Int × ByteArray × (List LexToken)) :=
  bif a3 then
    some (a0, a1, (ByteArray.mk (List.toArray [])), a4)
  else
    some (a0, a1, a2, a4)
def tollbarlaw05_LexBetween.v41 (κ : Nat) (a0 : List LexToken) (a1 : Int) (a2 : ByteArray) (a3 : List LexToken) : Option ((List LexToken) × Int × Bool × (List LexToken)) :=
  bif ((decide ((0 : Int) ≤ a1)) && (Nat.blt (Int.toNat a1) (List.length a3))) then
    Option.bind (a3[(Int.toNat a1)]?) fun x0 =>
      bif (decide ((0 : Int) ≤ a1)) then
        Option.bind (a0[(Int.toNat a1)]?) fun x1 =>
          bif ((Ev.Seat.LexToken.kind x0) != (Ev.Seat.LexToken.kind x1)) then
            some (a0, a1, Bool.true, a3)
          else
            bif ((decide ((0 : Int) ≤ a1)) && (Nat.blt (Int.toNat a1) (List.length a3))) then
              Option.bind (a3[(Int.toNat a1)]?) fun x2 =>
                bif (!(Ev.seq (Ev.Seat.LexToken.text x2) a2)) then
                  some (a0, a1, Bool.true, a3)
                else
                  bif ((decide ((0 : Int) ≤ a1)) && (Nat.blt (Int.toNat a1) (List.length a3))) then
                    Option.bind (a3[(Int.toNat a1)]?) fun x3 =>
                      bif ((Ev.Seat.LexToken.at__line x3) != (Go.IntKind.wrap Go.IntKind.i64 (a1 + (2 : Int)))) then
                        some (a0, a1, Bool.true, a3)
                      else
                        bif ((decide ((0 : Int) ≤ a1)) && (Nat.blt (Int.toNat a1) (List.length a3))) then
                          Option.bind (a3[(Int.toNat a1)]?) fun x4 =>
                            some (a0, a1, ((Ev.Seat.LexToken.at__col x4) != (2 : Int)), a3)
                        else
                          none
                  else
                    none
            else
              none
      else
        none
  else
    none
def tollbarlaw05_LexBetween.w38 (κ : Nat) (rec : ((List LexToken) × Int × (List LexToken)) → Option (((List LexToken) × (List LexToken)) ⊕ (Bool))) (a0 : List LexToken) (a1 : Int) (a2 : List LexToken) : Option (((List LexToken) × (List LexToken)) ⊕ (Bool)) :=
  bif (decide (a1 < (((List.length a0) : Nat) : Int))) then
    bif (decide ((0 : Int) ≤ a1)) then
      Option.bind (a0[(Int.toNat a1)]?) fun x0 =>
        bif (decide ((0 : Int) ≤ a1)) then
          Option.bind (a0[(Int.toNat a1)]?) fun x1 =>
            Option.bind (Ev.Seat.tollbarlaw05_LexBetween.v39 κ a0 a1 (Ev.Seat.LexToken.text x0) (decide ((Ev.Seat.LexToken.kind x1) > (2 : Int))) a2) fun x2 =>
              Option.bind (Ev.Seat.tollbarlaw05_LexBetween.v41 κ (x2).fst ((x2).snd).fst (((x2).snd).snd).fst (((x2).snd).snd).snd) fun x3 =>
                bif (((x3).snd).snd).fst then
                  some (.inr Bool.false)
                else
                  rec ((x3).fst, (Go.IntKind.wrap Go.IntKind.i64 (((x3).snd).fst + (1 : Int))), (((x3).snd).snd).snd)
        else
          none
    else
      none
  else
    some (.inl (a0, a2))
def tollbarlaw05_LexBetween.l38 (κ : Nat) : Nat → ((List LexToken) × Int × (List LexToken)) → Option (((List LexToken) × (List LexToken)) ⊕ (Bool))
  | 0, _ => none
  | k + 1, (a0, a1, a2) => tollbarlaw05_LexBetween.w38 κ (tollbarlaw05_LexBetween.l38 κ k) a0 a1 a2
def tollbarlaw05_LexBetween (κ : Nat) (a0 : List LexToken) (a1 : List ByteArray) : Option (Bool) :=
  Option.bind (Ev.Seat.tollbarlaw05_awake κ) fun x0 =>
    bif (!x0) then
      some Bool.false
    else
      Option.bind (Ev.Seat.tollbarlaw05_LexBetween.v0 κ a0 a1) fun x1 =>
        bif ((x1).snd).snd then
          some Bool.true
        else
          Option.bind (Ev.Seat.tollbarlaw05_LexBetween.l16 κ κ (Prod.mk (x1).fst (Prod.mk ((x1).snd).fst (Prod.mk (ByteArray.mk (List.toArray [])) (0 : Int))))) fun x2 =>
            match x2 with
            | .inl x3 =>
              bif (decide ((((ByteArray.size (x3).snd) : Nat) : Int) > (8000 : Int))) then
                some Bool.true
              else
                Option.bind (Ev.Seat.lex_All κ (x3).snd) fun x4 =>
                  Option.bind (Ev.Seat.tollbarlaw05_LexBetween.v32 κ (x3).fst (x4).fst (((x4).snd).snd).snd) fun x5 =>
                    bif ((x5).snd).fst then
                      some Bool.false
                    else
                      Option.bind (Ev.Seat.tollbarlaw05_LexBetween.l38 κ κ (Prod.mk (x5).fst (Prod.mk (0 : Int) ((x5).snd).snd))) fun x6 =>
                        match x6 with
                        | .inl x7 =>
                          bif (Nat.blt (Int.toNat (((List.length (x7).fst) : Nat) : Int)) (List.length (x7).snd)) then
                            Option.bind ((x7).snd[(Int.toNat (((List.length (x7).fst) : Nat) : Int))]?) fun x8 =>
                              some ((Ev.Seat.LexToken.kind x8) == (0 : Int))
                          else
                            none
                        | .inr x9 =>
                          some x9
            | .inr x10 =>
              some x10
end Go.Proofs.YtfoeekaanngoiaaDoor.Ev.Seat
