import Derived.Test.YtooefkbecoopdaaDoorEvSeat
set_option linter.unusedVariables false
set_option linter.unusedSimpArgs false
namespace Go.Proofs.YtooefkbecoopdaaDoor.Ev.Seat
open Go Ev Go.Proofs
def internal_stringslite_HasPrefix.v0 (κ : Nat) (a0 : ByteArray) (a1 : ByteArray) : Option (Bool) :=
  bif (decide ((((ByteArray.size a0) : Nat) : Int) ≥ (((ByteArray.size a1) : Nat) : Int))) then
    bif (((decide ((((ByteArray.size a1) : Nat) : Int) ≤ (((ByteArray.size a0) : Nat) : Int))) && (decide ((0 : Int) ≤ (0 : Int)))) && (decide ((0 : Int) ≤ (((ByteArray.size a1) : Nat) : Int)))) then
      some (Ev.seq (ByteArray.extract a0 (Int.toNat (0 : Int)) (Int.toNat (((ByteArray.size a1) : Nat) : Int))) a1)
    else
      none
  else
    some Bool.false
def internal_stringslite_HasPrefix (κ : Nat) (a0 : ByteArray) (a1 : ByteArray) : Option (Bool) :=
  Option.bind (Ev.Seat.internal_stringslite_HasPrefix.v0 κ a0 a1) fun x0 =>
    some x0
def strings_HasPrefix (κ : Nat) (a0 : ByteArray) (a1 : ByteArray) : Option (Bool) :=
  Option.bind (Ev.Seat.internal_stringslite_HasPrefix κ a0 a1) fun x0 =>
    some x0
def path_reader_fail.v0 (κ : Nat) (a0 : Int) (a1 : Bool) (a2 : ByteArray) (a3 : Int) (a4 : Int) (a5 : Int) : Option (ByteArray × Int × Int × Int) :=
  bif a1 then
    some (a2, a3, a0, (Go.IntKind.wrap Go.IntKind.i64 (a3 - (((ByteArray.size a2) : Nat) : Int))))
  else
    some (a2, a3, a4, a5)
def path_reader_fail (κ : Nat) (a0 : Int) (a1 : ByteArray) (a2 : Int) (a3 : Int) (a4 : Int) : Option (ByteArray × Int × Int × Int) :=
  Option.bind (Ev.Seat.path_reader_fail.v0 κ a0 (a3 == (0 : Int)) a1 a2 a3 a4) fun x0 =>
    some ((x0).fst, ((x0).snd).fst, (((x0).snd).snd).fst, (((x0).snd).snd).snd)
def internal_stringslite_CutPrefix (κ : Nat) (a0 : ByteArray) (a1 : ByteArray) : Option (ByteArray × Bool) :=
  Option.bind (Ev.Seat.internal_stringslite_HasPrefix κ a0 a1) fun x0 =>
    bif (!x0) then
      some (a0, Bool.false)
    else
      bif (((decide ((((ByteArray.size a0) : Nat) : Int) ≤ (((ByteArray.size a0) : Nat) : Int))) && (decide ((0 : Int) ≤ (((ByteArray.size a1) : Nat) : Int)))) && (decide ((((ByteArray.size a1) : Nat) : Int) ≤ (((ByteArray.size a0) : Nat) : Int)))) then
        some ((ByteArray.extract a0 (Int.toNat (((ByteArray.size a1) : Nat) : Int)) (Int.toNat (((ByteArray.size a0) : Nat) : Int))), Bool.true)
      else
        none
def strings_CutPrefix (κ : Nat) (a0 : ByteArray) (a1 : ByteArray) : Option (ByteArray × Bool) :=
  Option.bind (Ev.Seat.internal_stringslite_CutPrefix κ a0 a1) fun x0 =>
    some ((x0).fst, (x0).snd)
def path_reader_sign (κ : Nat) (a0 : ByteArray) (a1 : ByteArray) (a2 : Int) (a3 : Int) (a4 : Int) : Option (ByteArray × Int × Int × Int) :=
  Option.bind (Ev.Seat.strings_CutPrefix κ a1 a0) fun x0 =>
    bif (!(x0).snd) then
      Option.bind (Ev.Seat.path_reader_fail κ (21 : Int) a1 a2 a3 a4) fun x1 =>
        some ((x1).fst, ((x1).snd).fst, (((x1).snd).snd).fst, (((x1).snd).snd).snd)
    else
      some ((x0).fst, a2, a3, a4)
def scalar_Ident.v0 (κ : Nat) (a0 : ByteArray) : Option (Bool) :=
  bif (!(Ev.seq a0 (ByteArray.mk (List.toArray [])))) then
    bif (decide ((((ByteArray.size a0) : Nat) : Int) ≤ (12 : Int))) then
      bif (((decide ((1 : Int) ≤ (((ByteArray.size a0) : Nat) : Int))) && (decide ((0 : Int) ≤ (0 : Int)))) && (decide ((0 : Int) ≤ (1 : Int)))) then
        bif (Go.Lib.contains (Array.toList (ByteArray.data (ByteArray.mk (List.toArray ((97 : UInt8) :: ((98 : UInt8) :: ((99 : UInt8) :: ((100 : UInt8) :: ((101 : UInt8) :: ((102 : UInt8) :: ((103 : UInt8) :: ((104 : UInt8) :: ((105 : UInt8) :: ((106 : UInt8) :: ((107 : UInt8) :: ((108 : UInt8) :: ((109 : UInt8) :: ((110 : UInt8) :: ((111 : UInt8) :: ((112 : UInt8) :: ((113 : UInt8) :: ((114 : UInt8) :: ((115 : UInt8) :: ((116 : UInt8) :: ((117 : UInt8) :: ((118 : UInt8) :: ((119 : UInt8) :: ((120 : UInt8) :: ((121 : UInt8) :: ((122 : UInt8) :: [])))))))))))))))))))))))))))))) (Array.toList (ByteArray.data (ByteArray.extract a0 (Int.toNat (0 : Int)) (Int.toNat (1 : Int)))))) then
          Option.bind (Ev.Seat.strings_Trim κ a0 (ByteArray.mk (List.toArray ((97 : UInt8) :: ((98 : UInt8) :: ((99 : UInt8) :: ((100 : UInt8) :: ((101 : UInt8) :: ((102 : UInt8) :: ((103 : UInt8) :: ((104 : UInt8) :: ((105 : UInt8) :: ((106 : UInt8) :: ((107 : UInt8) :: ((108 : UInt8) :: ((109 : UInt8) :: ((110 : UInt8) :: ((111 : UInt8) :: ((112 : UInt8) :: ((113 : UInt8) :: ((114 : UInt8) :: ((115 : UInt8) :: ((116 : UInt8) :: ((117 : UInt8) :: ((118 : UInt8) :: ((119 : UInt8) :: ((120 : UInt8) :: ((121 : UInt8) :: ((122 : UInt8) :: ((48 : UInt8) :: ((49 : UInt8) :: ((50 : UInt8) :: ((51 : UInt8) :: ((52 : UInt8) :: ((53 : UInt8) :: ((54 : UInt8) :: ((55 : UInt8) :: ((56 : UInt8) :: ((57 : UInt8) :: ((45 : UInt8) :: [])))))))))))))))))))))))))))))))))))))))) fun x0 =>
            some (Ev.seq x0 (ByteArray.mk (List.toArray [])))
        else
          some Bool.false
      else
        none
    else
      some Bool.false
  else
    some Bool.false
def scalar_Ident (κ : Nat) (a0 : ByteArray) : Option (Bool) :=
  Option.bind (Ev.Seat.scalar_Ident.v0 κ a0) fun x0 =>
    some x0
def path_reader_name.v0 (κ : Nat) (a0 : ByteArray) (a1 : ByteArray) (a2 : Bool) (a3 : ByteArray) (a4 : Int) (a5 : Int) (a6 : Int) : Option (ByteArray × ByteArray × ByteArray × Int × Int × Int) :=
  bif a2 then
    Option.bind (Ev.Seat.path_reader_fail κ (22 : Int) a3 a4 a5 a6) fun x0 =>
      some (a0, a1, (x0).fst, ((x0).snd).fst, (((x0).snd).snd).fst, (((x0).snd).snd).snd)
  else
    some (a0, a1, a3, a4, a5, a6)
def path_reader_name (κ : Nat) (a0 : ByteArray) (a1 : Int) (a2 : Int) (a3 : Int) : Option (ByteArray × ByteArray × Int × Int × Int) :=
  bif ((((decide ((0 : Int) ≤ (Go.IntKind.wrap Go.IntKind.i64 ((((ByteArray.size a0) : Nat) : Int) - (((ByteArray.size (ByteArray.mk (List.toArray (Go.Lib.trimLeftS (Array.toList (ByteArray.data a0)) (Array.toList (ByteArray.data (ByteArray.mk (List.toArray ((97 : UInt8) :: ((98 : UInt8) :: ((99 : UInt8) :: ((100 : UInt8) :: ((101 : UInt8) :: ((102 : UInt8) :: ((103 : UInt8) :: ((104 : UInt8) :: ((105 : UInt8) :: ((106 : UInt8) :: ((107 : UInt8) :: ((108 : UInt8) :: ((109 : UInt8) :: ((110 : UInt8) :: ((111 : UInt8) :: ((112 : UInt8) :: ((113 : UInt8) :: ((114 : UInt8) :: ((115 : UInt8) :: ((116 : UInt8) :: ((117 : UInt8) :: ((118 : UInt8) :: ((119 : UInt8) :: ((120 : UInt8) :: ((121 : UInt8) :: ((122 : UInt8) :: ((48 : UInt8) :: ((49 : UInt8) :: ((50 : UInt8) :: ((51 : UInt8) :: ((52 : UInt8) :: ((53 : UInt8) :: ((54 : UInt8) :: ((55 : UInt8) :: ((56 : UInt8) :: ((57 : UInt8) :: ((45 : UInt8) :: []))))))))))))))))))))))))))))))))))))))))))))) : Nat) : Int))))) && (decide ((Go.IntKind.wrap Go.IntKind.i64 ((((ByteArray.size a0) : Nat) : Int) - (((ByteArray.size (ByteArray.mk (List.toArray (Go.Lib.trimLeftS (Array.toList (ByteArray.data a0)) (Array.toList (ByteArray.data (ByteArray.mk (List.toArray ((97 : UInt8) :: ((98 : UInt8) :: ((99 : UInt8) :: ((100 : UInt8) :: ((101 : UInt8) :: ((102 : UInt8) :: ((103 : UInt8) :: ((104 : UInt8) :: ((105 : UInt8) :: ((106 : UInt8) :: ((107 : UInt8) :: ((108 : UInt8) :: ((109 : UInt8) :: ((110 : UInt8) :: ((111 : UInt8) :: ((112 : UInt8) :: ((113 : UInt8) :: ((114 : UInt8) :: ((115 : UInt8) :: ((116 : UInt8) :: ((117 : UInt8) :: ((118 : UInt8) :: ((119 : UInt8) :: ((120 : UInt8) :: ((121 : UInt8) :: ((122 : UInt8) :: ((48 : UInt8) :: ((49 : UInt8) :: ((50 : UInt8) :: ((51 : UInt8) :: ((52 : UInt8) :: ((53 : UInt8) :: ((54 : UInt8) :: ((55 : UInt8) :: ((56 : UInt8) :: ((57 : UInt8) :: ((45 : UInt8) :: []))))))))))))))))))))))))))))))))))))))))))))) : Nat) : Int))) ≤ (((ByteArray.size a0) : Nat) : Int)))) && (decide ((0 : Int) ≤ (0 : Int)))) && (decide ((0 : Int) ≤ (Go.IntKind.wrap Go.IntKind.i64 ((((ByteArray.size a0) : Nat) : Int) - (((ByteArray.size (ByteArray.mk (List.toArray (Go.Lib.trimLeftS (Array.toList (ByteArray.data a0)) (Array.toList (ByteArray.data (ByteArray.mk (List.toArray ((97 : UInt8) :: ((98 : UInt8) :: ((99 : UInt8) :: ((100 : UInt8) :: ((101 : UInt8) :: ((102 : UInt8) :: ((103 : UInt8) :: ((104 : UInt8) :: ((105 : UInt8) :: ((106 : UInt8) :: ((107 : UInt8) :: ((108 : UInt8) :: ((109 : UInt8) :: ((110 : UInt8) :: ((111 : UInt8) :: ((112 : UInt8) :: ((113 : UInt8) :: ((114 : UInt8) :: ((115 : UInt8) :: ((116 : UInt8) :: ((117 : UInt8) :: ((118 : UInt8) :: ((119 : UInt8) :: ((120 : UInt8) :: ((121 : UInt8) :: ((122 : UInt8) :: ((48 : UInt8) :: ((49 : UInt8) :: ((50 : UInt8) :: ((51 : UInt8) :: ((52 : UInt8) :: ((53 : UInt8) :: ((54 : UInt8) :: ((55 : UInt8) :: ((56 : UInt8) :: ((57 : UInt8) :: ((45 : UInt8) :: []))))))))))))))))))))))))))))))))))))))))))))) : Nat) : Int)))))) then
    Option.bind (Ev.Seat.scalar_Ident κ (ByteArray.extract a0 (Int.toNat (0 : Int)) (Int.toNat (Go.IntKind.wrap Go.IntKind.i64 ((((ByteArray.size a0) : Nat) : Int) - (((ByteArray.size (ByteArray.mk (List.toArray (Go.Lib.trimLeftS (Array.toList (ByteArray.data a0)) (Array.toList (ByteArray.data (ByteArray.mk (List.toArray ((97 : UInt8) :: ((98 : UInt8) :: ((99 : UInt8) :: ((100 : UInt8) :: ((101 : UInt8) :: ((102 : UInt8) :: ((103 : UInt8) :: ((104 : UInt8) :: ((105 : UInt8) :: ((106 : UInt8) :: ((107 : UInt8) :: ((108 : UInt8) :: ((109 : UInt8) :: ((110 : UInt8) :: ((111 : UInt8) :: ((112 : UInt8) :: ((113 : UInt8) :: ((114 : UInt8) :: ((115 : UInt8) :: ((116 : UInt8) :: ((117 : UInt8) :: ((118 : UInt8) :: ((119 : UInt8) :: ((120 : UInt8) :: ((121 : UInt8) :: ((122 : UInt8) :: ((48 : UInt8) :: ((49 : UInt8) :: ((50 : UInt8) :: ((51 : UInt8) :: ((52 : UInt8) :: ((53 : UInt8) :: ((54 : UInt8) :: ((55 : UInt8) :: ((56 : UInt8) :: ((57 : UInt8) :: ((45 : UInt8) :: []))))))))))))))))))))))))))))))))))))))))))))) : Nat) : Int)))))) fun x0 =>
      Option.bind (Ev.Seat.path_reader_name.v0 κ (ByteArray.mk (List.toArray (Go.Lib.trimLeftS (Array.toList (ByteArray.data a0)) (Array.toList (ByteArray.data (ByteArray.mk (List.toArray ((97 : UInt8) :: ((98 : UInt8) :: ((99 : UInt8) :: ((100 : UInt8) :: ((101 : UInt8) :: ((102 : UInt8) :: ((103 : UInt8) :: ((104 : UInt8) :: ((105 : UInt8) :: ((106 : UInt8) :: ((107 : UInt8) :: ((108 : UInt8) :: ((109 : UInt8) :: ((110 : UInt8) :: ((111 : UInt8) :: ((112 : UInt8) :: ((113 : UInt8) :: ((114 : UInt8) :: ((115 : UInt8) :: ((116 : UInt8) :: ((117 : UInt8) :: ((118 : UInt8) :: ((119 : UInt8) :: ((120 : UInt8) :: ((121 : UInt8) :: ((122 : UInt8) :: ((48 : UInt8) :: ((49 : UInt8) :: ((50 : UInt8) :: ((51 : UInt8) :: ((52 : UInt8) :: ((53 : UInt8) :: ((54 : UInt8) :: ((55 : UInt8) :: ((56 : UInt8) :: ((57 : UInt8) :: ((45 : UInt8) :: [])))))))))))))))))))))))))))))))))))))))))))) (ByteArray.extract a0 (Int.toNat (0 : Int)) (Int.toNat (Go.IntKind.wrap Go.IntKind.i64 ((((ByteArray.size a0) : Nat) : Int) - (((ByteArray.size (ByteArray.mk (List.toArray (Go.Lib.trimLeftS (Array.toList (ByteArray.data a0)) (Array.toList (ByteArray.data (ByteArray.mk (List.toArray ((97 : UInt8) :: ((98 : UInt8) :: ((99 : UInt8) :: ((100 : UInt8) :: ((101 : UInt8) :: ((102 : UInt8) :: ((103 : UInt8) :: ((104 : UInt8) :: ((105 : UInt8) :: ((106 : UInt8) :: ((107 : UInt8) :: ((108 : UInt8) :: ((109 : UInt8) :: ((110 : UInt8) :: ((111 : UInt8) :: ((112 : UInt8) :: ((113 : UInt8) :: ((114 : UInt8) :: ((115 : UInt8) :: ((116 : UInt8) :: ((117 : UInt8) :: ((118 : UInt8) :: ((119 : UInt8) :: ((120 : UInt8) :: ((121 : UInt8) :: ((122 : UInt8) :: ((48 : UInt8) :: ((49 : UInt8) :: ((50 : UInt8) :: ((51 : UInt8) :: ((52 : UInt8) :: ((53 : UInt8) :: ((54 : UInt8) :: ((55 : UInt8) :: ((56 : UInt8) :: ((57 : UInt8) :: ((45 : UInt8) :: []))))))))))))))))))))))))))))))))))))))))))))) : Nat) : Int))))) (!x0) a0 a1 a2 a3) fun x1 =>
        some (((x1).snd).fst, (x1).fst, ((((x1).snd).snd).snd).fst, (((((x1).snd).snd).snd).snd).fst, (((((x1).snd).snd).snd).snd).snd)
  else
    none
def path_reader_step.v0 (κ : Nat) (a0 : Int) (a1 : ByteArray) (a2 : Int) (a3 : Int) (a4 : Int) (a5 : ByteArray) (a6 : ByteArray) : Option (Bool × ByteArray × Int × Int × Int × ByteArray × ByteArray) :=
  bif (decide (a0 ≥ (6 : Int))) then
    Option.bind (Ev.Seat.strings_HasPrefix κ a1 (ByteArray.mk (List.toArray ((47 : UInt8) :: [])))) fun x0 =>
      some (x0, a1, a2, a3, a4, a5, a6)
  else
    some (Bool.false, a1, a2, a3, a4, a5, a6)
def path_reader_step.v2 (κ : Nat) (a0 : Bool) (a1 : ByteArray) (a2 : Int) (a3 : Int) (a4 : Int) (a5 : ByteArray) (a6 : ByteArray) : Option (ByteArray × Int × Int × Int × ByteArray × ByteArray) :=
  bif a0 then
    Option.bind (Ev.Seat.path_reader_fail κ (13 : Int) a1 a2 a3 a4) fun x0 =>
      some ((x0).fst, ((x0).snd).fst, (((x0).snd).snd).fst, (((x0).snd).snd).snd, a5, a6)
  else
    some (a1, a2, a3, a4, a5, a6)
def path_reader_step.v4 (κ : Nat) (a0 : Bool) (a1 : ByteArray) (a2 : Int) (a3 : Int) (a4 : Int) (a5 : ByteArray) (a6 : ByteArray) (a7 : ByteArray) (a8 : ByteArray) : Option (ByteArray × Int × Int × Int × ByteArray × ByteArray × ByteArray × ByteArray) :=
  bif a0 then
    Option.bind (Ev.Seat.path_reader_sign κ (ByteArray.mk (List.toArray ((91 : UInt8) :: []))) a1 a2 a3 a4) fun x0 =>
      Option.bind (Ev.Seat.path_reader_name κ (x0).fst ((x0).snd).fst (((x0).snd).snd).fst (((x0).snd).snd).snd) fun x1 =>
        Option.bind (Ev.Seat.path_reader_sign κ (ByteArray.mk (List.toArray ((93 : UInt8) :: []))) ((x1).snd).fst (((x1).snd).snd).fst ((((x1).snd).snd).snd).fst ((((x1).snd).snd).snd).snd) fun x2 =>
          some ((x2).fst, ((x2).snd).fst, (((x2).snd).snd).fst, (((x2).snd).snd).snd, a5, a6, a7, (x1).fst)
  else
    some (a1, a2, a3, a4, a5, a6, a7, a8)
def path_reader_step (κ : Nat) (a0 : Int) (a1 : ByteArray) (a2 : Int) (a3 : Int) (a4 : Int) : Option (ByteArray × ByteArray × ByteArray × Int × Int × Int) :=
  Option.bind (Ev.Seat.path_reader_step.v0 κ a0 a1 a2 a3 a4 (ByteArray.mk (List.toArray [])) (ByteArray.mk (List.toArray []))) fun x0 =>
    Option.bind (Ev.Seat.path_reader_step.v2 κ (x0).fst ((x0).snd).fst (((x0).snd).snd).fst ((((x0).snd).snd).snd).fst (((((x0).snd).snd).snd).snd).fst ((((((x0).snd).snd).snd).snd).snd).fst ((((((x0).snd).snd).snd).snd).snd).snd) fun x1 =>
      Option.bind (Ev.Seat.path_reader_sign κ (ByteArray.mk (List.toArray ((47 : UInt8) :: []))) (x1).fst ((x1).snd).fst (((x1).snd).snd).fst ((((x1).snd).snd).snd).fst) fun x2 =>
        Option.bind (Ev.Seat.path_reader_name κ (x2).fst ((x2).snd).fst (((x2).snd).snd).fst (((x2).snd).snd).snd) fun x3 =>
          Option.bind (Ev.Seat.strings_HasPrefix κ ((x3).snd).fst (ByteArray.mk (List.toArray ((91 : UInt8) :: [])))) fun x4 =>
            Option.bind (Ev.Seat.path_reader_step.v4 κ x4 ((x3).snd).fst (((x3).snd).snd).fst ((((x3).snd).snd).snd).fst ((((x3).snd).snd).snd).snd (((((x1).snd).snd).snd).snd).fst (((((x1).snd).snd).snd).snd).snd (x3).fst (ByteArray.mk (List.toArray []))) fun x5 =>
              some ((((((((x5).snd).snd).snd).snd).snd).snd).fst, (((((((x5).snd).snd).snd).snd).snd).snd).snd, (x5).fst, ((x5).snd).fst, (((x5).snd).snd).fst, ((((x5).snd).snd).snd).fst)
def path_Parse.v3 (κ : Nat) (a0 : ByteArray) (a1 : Int) (a2 : Int) (a3 : Int) (a4 : List ApiStep) : Option (Bool × ByteArray × Int × Int × Int × (List ApiStep)) :=
  bif (!(Ev.seq a0 (ByteArray.mk (List.toArray [])))) then
    some ((a2 == (0 : Int)), a0, a1, a2, a3, a4)
  else
    some (Bool.false, a0, a1, a2, a3, a4)
def path_Parse.w2 (κ : Nat) (rec : (ByteArray × Int × Int × Int × (List ApiStep)) → Option (ByteArray × Int × Int × Int × (List ApiStep))) (a0 : ByteArray) (a1 : Int) (a2 : Int) (a3 : Int) (a4 : List ApiStep) : Option (ByteArray × Int × Int × Int × (List ApiStep)) :=
  Option.bind (Ev.Seat.path_Parse.v3 κ a0 a1 a2 a3 a4) fun x0 =>
    bif (x0).fst then
      Option.bind (Ev.Seat.path_reader_step κ (((List.length (((((x0).snd).snd).snd).snd).snd) : Nat) : Int) ((x0).snd).fst (((x0).snd).snd).fst ((((x0).snd).snd).snd).fst (((((x0).snd).snd).snd).snd).fst) fun x1 =>
        bif (Nat.ble ((List.length (((((x0).snd).snd).snd).snd).snd) + (List.length ((Ev.Seat.ApiStep.mk (x1).fst ((x1).snd).fst) :: []))) (Ev.room (31 + 1))) then
          rec ((((x1).snd).snd).fst, ((((x1).snd).snd).snd).fst, (((((x1).snd).snd).snd).snd).fst, (((((x1).snd).snd).snd).snd).snd, ((((((x0).snd).snd).snd).snd).snd ++ ((Ev.Seat.ApiStep.mk (x1).fst ((x1).snd).fst) :: [])))
        else
          none
    else
      some (((x0).snd).fst, (((x0).snd).snd).fst, ((((x0).snd).snd).snd).fst, (((((x0).snd).snd).snd).snd).fst, (((((x0).snd).snd).snd).snd).snd)
def path_Parse.l2 (κ : Nat) : Nat → (ByteArray × Int × Int × Int × (List ApiStep)) → Option (ByteArray × Int × Int × Int × (List ApiStep))
  | 0, _ => none
  | k + 1, (a0, a1, a2, a3, a4) => path_Parse.w2 κ (path_Parse.l2 κ k) a0 a1 a2 a3 a4
def path_Parse (κ : Nat) (a0 : ByteArray) : Option (Int × Int × (List ApiStep)) :=
  bif (Ev.seq a0 (ByteArray.mk (List.toArray ((47 : UInt8) :: [])))) then
    some ((0 : Int), (0 : Int), [])
  else
    Option.bind (Ev.Seat.path_reader_step κ (0 : Int) a0 (((ByteArray.size a0) : Nat) : Int) (0 : Int) (0 : Int)) fun x0 =>
      Option.bind (Ev.Seat.path_Parse.l2 κ κ (Prod.mk (((x0).snd).snd).fst (Prod.mk ((((x0).snd).snd).snd).fst (Prod.mk (((((x0).snd).snd).snd).snd).fst (Prod.mk (((((x0).snd).snd).snd).snd).snd ((Ev.Seat.ApiStep.mk (x0).fst ((x0).snd).fst) :: [])))))) fun x1 =>
        bif ((((x1).snd).snd).fst != (0 : Int)) then
          some ((((x1).snd).snd).fst, ((((x1).snd).snd).snd).fst, [])
        else
          some ((0 : Int), (0 : Int), ((((x1).snd).snd).snd).snd)
def spec_Find_1 (κ : Nat) (a0 : ByteArray) (a1 : Int) (a2 : Int) (a3 : Int) (a4 : Int) (a5 : List ByteArray) (a6 : Bool) (a7 : Int) (a8 : List SpecSpec) (a9 : ByteArray) : Option (Bool × ByteArray) :=
  some ((Ev.seq a0 a9), a9)
def slices_IndexFunc.w0 (κ : Nat) (rec : ((List SpecSpec) × Int × Int × ByteArray) → Option ((ByteArray) ⊕ (Int × ByteArray))) (a0 : List SpecSpec) (a1 : Int) (a2 : Int) (a3 : ByteArray) : Option ((ByteArray) ⊕ (Int × ByteArray)) :=
  bif (decide (a2 < a1)) then
    bif (decide ((0 : Int) ≤ a2)) then
      Option.bind (a0[(Int.toNat a2)]?) fun x0 =>
        bif (Ev.seq (Ev.Seat.SpecSpec.name x0) a3) then
          some (.inr (a2, a3))
        else
          rec (a0, a1, (Go.IntKind.wrap Go.IntKind.i64 (a2 + (1 : Int))), a3)
    else
      none
  else
    some (.inl a3)
def slices_IndexFunc.l0 (κ : Nat) : Nat → ((List SpecSpec) × Int × Int × ByteArray) → Option ((ByteArray) ⊕ (Int × ByteArray))
  | 0, _ => none
  | k + 1, (a0, a1, a2, a3) => slices_IndexFunc.w0 κ (slices_IndexFunc.l0 κ k) a0 a1 a2 a3
def slices_IndexFunc (κ : Nat) (a0 : List SpecSpec) (a1 : ByteArray) : Option (Int × ByteArray) :=
  Option.bind (Ev.Seat.slices_IndexFunc.l0 κ κ (Prod.mk a0 (Prod.mk (((List.length a0) : Nat) : Int) (Prod.mk (0 : Int) a1)))) fun x0 =>
    match x0 with
    | .inl x1 =>
      some ((-(1 : Int)), x1)
    | .inr x2 =>
      some ((x2).fst, (x2).snd)
def spec_Find (κ : Nat) (a0 : ByteArray) (a1 : Int) (a2 : Int) (a3 : Int) (a4 : Int) (a5 : List ByteArray) (a6 : Bool) (a7 : Int) (a8 : List SpecSpec) (a9 : ByteArray) : Option (Int) :=
  Option.bind (Ev.Seat.slices_IndexFunc κ a8 a9) fun x0 =>
    some (x0).fst
def path_At.v3 (κ : Nat) (a0 : Bool) (a1 : List ApiStep) (a2 : Int) (a3 : Int) (a4 : ByteArray) (a5 : Int) (a6 : Int) (a7 : Int) (a8 : Int) (a9 : Bool) (a10 : Int) (a11 : ByteArray) (a12 : Int) (a13 : Int) (a14 : Int) (a15 : Int) (a16 : List ByteArray) (a17 : Bool) (a18 : Int) (a19 : List SpecSpec) (a20 : ByteArray) (a21 : ByteArray) : Option ((List ApiStep) × Int × Int × Bool × ByteArray × Int × Int × Int × Int × Bool × Int × ByteArray × Int × Int × Int × Int × (List ByteArray) × Bool × Int × (List SpecSpec)) :=
  bif a0 then
    Option.bind (Ev.Seat.scalar_Ident κ a21) fun x0 =>
      bif (!x0) then
        some (a1, a2, a3, Bool.true, a4, a5, a6, a7, a8, a9, a10, a11, a12, a13, a14, a15, a16, a17, a18, a19)
      else
        bif (!a0) then
          some (a1, a2, a3, (!(Ev.seq a21 (ByteArray.mk (List.toArray [])))), a4, a5, a6, a7, a8, a9, a10, a11, a12, a13, a14, a15, a16, a17, a18, a19)
        else
          some (a1, a2, a3, Bool.false, a4, a5, a6, a7, a8, a9, a10, a11, a12, a13, a14, a15, a16, a17, a18, a19)
  else
    bif (!a0) then
      some (a1, a2, a3, (!(Ev.seq a21 (ByteArray.mk (List.toArray [])))), a4, a5, a6, a7, a8, a9, a10, a11, a12, a13, a14, a15, a16, a17, a18, a19)
    else
      some (a1, a2, a3, Bool.false, a4, a5, a6, a7, a8, a9, a10, a11, a12, a13, a14, a15, a16, a17, a18, a19)
def path_At.w2 (κ : Nat) (rec : ((List ApiStep) × Int × Int × ByteArray × Int × Int × Int × Int × Bool × Int × ByteArray × Int × Int × Int × Int × (List ByteArray) × Bool × Int × (List SpecSpec)) → Option ((ByteArray × Int × Int × Int × Int × Bool × Int × ByteArray × Int × Int × Int × Int × (List ByteArray) × Bool × Int × (List SpecSpec)) ⊕ (Int × ByteArray × Int × Int × Int × Int × Bool × Int))) (a0 : List ApiStep) (a1 : Int) (a2 : Int) (a3 : ByteArray) (a4 : Int) (a5 : Int) (a6 : Int) (a7 : Int) (a8 : Bool) (a9 : Int) (a10 : ByteArray) (a11 : Int) (a12 : Int) (a13 : Int) (a14 : Int) (a15 : List ByteArray) (a16 : Bool) (a17 : Int) (a18 : List SpecSpec) : Option ((ByteArray × Int × Int × Int × Int × Bool × Int × ByteArray × Int × Int × Int × Int × (List ByteArray) × Bool × Int × (List SpecSpec)) ⊕ (Int × ByteArray × Int × Int × Int × Int × Bool × Int)) :=
  bif (decide (a2 < a1)) then
    bif (decide ((0 : Int) ≤ a2)) then
      Option.bind (a0[(Int.toNat a2)]?) fun x0 =>
        Option.bind (Ev.Seat.spec_Find κ a10 a11 a12 a13 a14 a15 a16 a17 a18 (Ev.Seat.ApiStep.name x0)) fun x1 =>
          bif (decide (x1 < (0 : Int))) then
            some (.inr ((22 : Int), (ByteArray.mk (List.toArray [])), (0 : Int), (0 : Int), (0 : Int), (0 : Int), Bool.false, (0 : Int)))
          else
            bif (decide ((0 : Int) ≤ x1)) then
              Option.bind (a18[(Int.toNat x1)]?) fun x2 =>
                Option.bind (Ev.Seat.path_At.v3 κ ((Ev.Seat.SpecSpec.kind x2) == (3 : Int)) a0 a1 a2 a3 a4 a5 a6 a7 a8 a9 (Ev.Seat.SpecSpec.name x2) (Ev.Seat.SpecSpec.kind x2) (Ev.Seat.SpecSpec.type_ x2) (Ev.Seat.SpecSpec.min x2) (Ev.Seat.SpecSpec.max x2) (Ev.Seat.SpecSpec.names x2) (Ev.Seat.SpecSpec.must x2) (Ev.Seat.SpecSpec.most x2) (Ev.Seat.SpecSpec.kids x2) (Ev.Seat.ApiStep.name x0) (Ev.Seat.ApiStep.key x0)) fun x3 =>
                  bif ((((x3).snd).snd).snd).fst then
                    some (.inr ((23 : Int), (ByteArray.mk (List.toArray [])), (0 : Int), (0 : Int), (0 : Int), (0 : Int), Bool.false, (0 : Int)))
                  else
                    rec ((x3).fst, ((x3).snd).fst, (Go.IntKind.wrap Go.IntKind.i64 ((((x3).snd).snd).fst + (1 : Int))), (((((x3).snd).snd).snd).snd).fst, ((((((x3).snd).snd).snd).snd).snd).fst, (((((((x3).snd).snd).snd).snd).snd).snd).fst, ((((((((x3).snd).snd).snd).snd).snd).snd).snd).fst, (((((((((x3).snd).snd).snd).snd).snd).snd).snd).snd).fst, ((((((((((x3).snd).snd).snd).snd).snd).snd).snd).snd).snd).fst, (((((((((((x3).snd).snd).snd).snd).snd).snd).snd).snd).snd).snd).fst, ((((((((((((x3).snd).snd).snd).snd).snd).snd).snd).snd).snd).snd).snd).fst, (((((((((((((x3).snd).snd).snd).snd).snd).snd).snd).snd).snd).snd).snd).snd).fst, ((((((((((((((x3).snd).snd).snd).snd).snd).snd).snd).snd).snd).snd).snd).snd).snd).fst, (((((((((((((((x3).snd).snd).snd).snd).snd).snd).snd).snd).snd).snd).snd).snd).snd).snd).fst, ((((((((((((((((x3).snd).snd).snd).snd).snd).snd).snd).snd).snd).snd).snd).snd).snd).snd).snd).fst, (((((((((((((((((x3).snd).snd).snd).snd).snd).snd).snd).snd).snd).snd).snd).snd).snd).snd).snd).snd).fst, ((((((((((((((((((x3).snd).snd).snd).snd).snd).snd).snd).snd).snd).snd).snd).snd).snd).snd).snd).snd).snd).fst, (((((((((((((((((((x3).snd).snd).snd).snd).snd).snd).snd).snd).snd).snd).snd).snd).snd).snd).snd).snd).snd).snd).fst, (((((((((((((((((((x3).snd).snd).snd).snd).snd).snd).snd).snd).snd).snd).snd).snd).snd).snd).snd).snd).snd).snd).snd)
            else
              none
    else
      none
  else
    some (.inl (a3, a4, a5, a6, a7, a8, a9, a10, a11, a12, a13, a14, a15, a16, a17, a18))
def path_At.l2 (κ : Nat) : Nat → ((List ApiStep) × Int × Int × ByteArray × Int × Int × Int × Int × Bool × Int × ByteArray × Int × Int × Int × Int × (List ByteArray) × Bool × Int × (List SpecSpec)) → Option ((ByteArray × Int × Int × Int × Int × Bool × Int × ByteArray × Int × Int × Int × Int × (List ByteArray) × Bool × Int × (List SpecSpec)) ⊕ (Int × ByteArray × Int × Int × Int × Int × Bool × Int))
  | 0, _ => none
  | k + 1, (a0, a1, a2, a3, a4, a5, a6, a7, a8, a9, a10, a11, a12, a13, a14, a15, a16, a17, a18) => path_At.w2 κ (path_At.l2 κ k) a0 a1 a2 a3 a4 a5 a6 a7 a8 a9 a10 a11 a12 a13 a14 a15 a16 a17 a18
def path_At (κ : Nat) (a0 : Int) (a1 : List ApiStep) : Option (ByteArray × Int × Int × Int × Int × (List ByteArray) × Bool × Int × (List SpecSpec) × Int) :=
  Option.bind (Ev.Seat.spec_Root a0) fun x0 =>
    bif (x0.2 != (0 : Int)) then
      some ((ByteArray.mk (List.toArray [])), (0 : Int), (0 : Int), (0 : Int), (0 : Int), [], Bool.false, (0 : Int), [], x0.2)
    else
      Option.bind (Ev.Seat.path_At.l2 κ κ (Prod.mk a1 (Prod.mk (((List.length a1) : Nat) : Int) (Prod.mk (0 : Int) (Prod.mk (ByteArray.mk (List.toArray [])) (Prod.mk (0 : Int) (Prod.mk (0 : Int) (Prod.mk (0 : Int) (Prod.mk (0 : Int) (Prod.mk Bool.false (Prod.mk (0 : Int) (Prod.mk (Ev.Seat.SpecSpec.name x0.1) (Prod.mk (Ev.Seat.SpecSpec.kind x0.1) (Prod.mk (Ev.Seat.SpecSpec.type_ x0.1) (Prod.mk (Ev.Seat.SpecSpec.min x0.1) (Prod.mk (Ev.Seat.SpecSpec.max x0.1) (Prod.mk (Ev.Seat.SpecSpec.names x0.1) (Prod.mk (Ev.Seat.SpecSpec.must x0.1) (Prod.mk (Ev.Seat.SpecSpec.most x0.1) (Ev.Seat.SpecSpec.kids x0.1)))))))))))))))))))) fun x1 =>
        match x1 with
        | .inl x2 =>
          some (((((((((x2).snd).snd).snd).snd).snd).snd).snd).fst, (((((((((x2).snd).snd).snd).snd).snd).snd).snd).snd).fst, ((((((((((x2).snd).snd).snd).snd).snd).snd).snd).snd).snd).fst, (((((((((((x2).snd).snd).snd).snd).snd).snd).snd).snd).snd).snd).fst, ((((((((((((x2).snd).snd).snd).snd).snd).snd).snd).snd).snd).snd).snd).fst, (((((((((((((x2).snd).snd).snd).snd).snd).snd).snd).snd).snd).snd).snd).snd).fst, ((((((((((((((x2).snd).snd).snd).snd).snd).snd).snd).snd).snd).snd).snd).snd).snd).fst, (((((((((((((((x2).snd).snd).snd).snd).snd).snd).snd).snd).snd).snd).snd).snd).snd).snd).fst, (((((((((((((((x2).snd).snd).snd).snd).snd).snd).snd).snd).snd).snd).snd).snd).snd).snd).snd, (0 : Int))
        | .inr x3 =>
          some (((x3).snd).fst, (((x3).snd).snd).fst, ((((x3).snd).snd).snd).fst, (((((x3).snd).snd).snd).snd).fst, ((((((x3).snd).snd).snd).snd).snd).fst, [], (((((((x3).snd).snd).snd).snd).snd).snd).fst, (((((((x3).snd).snd).snd).snd).snd).snd).snd, [], (x3).fst)
def strings_Builder_copyCheck.v0 (κ : Nat) (a0 : Bool) : Option (Unit) :=
  bif a0 then
    some ()
  else
    none
def strings_Builder_copyCheck (κ : Nat)  : Option (Unit) :=
  some ()
def strings_Builder_WriteString (κ : Nat) (a0 : ByteArray) : Option (Int × (List Int)) :=
  bif (Nat.ble (List.length (List.map (fun b => (((UInt8.toNat b) : Nat) : Int)) (Array.toList (ByteArray.data a0)))) (Ev.room (0 + 1))) then
    some ((((ByteArray.size a0) : Nat) : Int), (List.map (fun b => (((UInt8.toNat b) : Nat) : Int)) (Array.toList (ByteArray.data a0))))
  else
    none
def strings_Builder_copyCheck_2.v0 (κ : Nat) (a0 : Bool) (a1 : List Int) : Option ((List Int)) :=
  bif a0 then
    some a1
  else
    some a1
def strings_Builder_copyCheck_2 (κ : Nat) (a0 : List Int) : Option ((List Int)) :=
  some a0
def strings_Builder_WriteString_2 (κ : Nat) (a0 : ByteArray) (a1 : List Int) : Option (Int × (List Int)) :=
  bif (Nat.ble ((List.length a1) + (List.length (List.map (fun b => (((UInt8.toNat b) : Nat) : Int)) (Array.toList (ByteArray.data a0))))) (Ev.room (0 + 1))) then
    some ((((ByteArray.size a0) : Nat) : Int), (a1 ++ (List.map (fun b => (((UInt8.toNat b) : Nat) : Int)) (Array.toList (ByteArray.data a0)))))
  else
    none
def strings_Builder_copyCheck_3.v0 (κ : Nat) (a0 : Bool) (a1 : List Int) : Option ((List Int)) :=
  bif a0 then
    some a1
  else
    none
def strings_Builder_copyCheck_3 (κ : Nat) (a0 : List Int) : Option ((List Int)) :=
  some a0
def strings_Builder_WriteString_3 (κ : Nat) (a0 : ByteArray) (a1 : List Int) : Option (Int × (List Int)) :=
  bif (Nat.ble ((List.length a1) + (List.length (List.map (fun b => (((UInt8.toNat b) : Nat) : Int)) (Array.toList (ByteArray.data a0))))) (Ev.room (0 + 1))) then
    some ((((ByteArray.size a0) : Nat) : Int), (a1 ++ (List.map (fun b => (((UInt8.toNat b) : Nat) : Int)) (Array.toList (ByteArray.data a0)))))
  else
    none
def strings_Builder_String (κ : Nat) (a0 : List Int) : Option (ByteArray) :=
  bif ((decide ((((List.length a0) : Nat) : Int) = (((List.length a0) : Nat) : Int))) && (Nat.ble (List.length a0) Ev.maxI)) then
    some (Ev.bytesOfA Ev.Seat.C a0)
  else
    none
def strings_Builder_String_2 (κ : Nat) (a0 : List Int) : Option (ByteArray) :=
  bif ((decide ((((List.length a0) : Nat) : Int) = (((List.length a0) : Nat) : Int))) && (Nat.ble (List.length a0) Ev.maxI)) then
    some (Ev.bytesOfA Ev.Seat.C a0)
  else
    none
def path_Show.v25 (κ : Nat) (a0 : List ApiStep) (a1 : Int) (a2 : Int) (a3 : ByteArray) (a4 : ByteArray) (a5 : List Int) : Option ((List ApiStep) × Int × Int × Bool × ByteArray × ByteArray × (List Int)) :=
  Option.bind (Ev.Seat.scalar_Ident κ a3) fun x0 =>
    bif (!x0) then
      some (a0, a1, a2, Bool.true, a3, a4, a5)
    else
      bif (!(Ev.seq a4 (ByteArray.mk (List.toArray [])))) then
        Option.bind (Ev.Seat.scalar_Ident κ a4) fun x1 =>
          some (a0, a1, a2, (!x1), a3, a4, a5)
      else
        some (a0, a1, a2, Bool.false, a3, a4, a5)
def path_Show.v27 (κ : Nat) (a0 : List ApiStep) (a1 : Int) (a2 : Int) (a3 : Bool) (a4 : ByteArray) (a5 : ByteArray) (a6 : List Int) : Option ((List ApiStep) × Int × Int × (List Int)) :=
  bif a3 then
    bif (Nat.ble ((ByteArray.size (ByteArray.mk (List.toArray ((91 : UInt8) :: [])))) + (ByteArray.size a5)) Ev.maxI) then
      bif (Nat.ble ((ByteArray.size ((ByteArray.mk (List.toArray ((91 : UInt8) :: []))) ++ a5)) + (ByteArray.size (ByteArray.mk (List.toArray ((93 : UInt8) :: []))))) Ev.maxI) then
        Option.bind (Ev.Seat.strings_Builder_WriteString_2 κ (((ByteArray.mk (List.toArray ((91 : UInt8) :: []))) ++ a5) ++ (ByteArray.mk (List.toArray ((93 : UInt8) :: [])))) a6) fun x0 =>
          some (a0, a1, a2, (x0).snd)
      else
        none
    else
      none
  else
    some (a0, a1, a2, a6)
def path_Show.v24 (κ : Nat) (a0 : List ApiStep) (a1 : Int) (a2 : Int) (a3 : List Int) : Option (((List ApiStep) × Int × Int × (List Int)) ⊕ (ByteArray)) :=
  bif (decide ((0 : Int) ≤ a2)) then
    Option.bind (a0[(Int.toNat a2)]?) fun x0 =>
      Option.bind (Ev.Seat.path_Show.v25 κ a0 a1 a2 (Ev.Seat.ApiStep.name x0) (Ev.Seat.ApiStep.key x0) a3) fun x1 =>
        bif ((((x1).snd).snd).snd).fst then
          some (.inr (ByteArray.mk (List.toArray [])))
        else
          bif (Nat.ble ((ByteArray.size (ByteArray.mk (List.toArray ((47 : UInt8) :: [])))) + (ByteArray.size (((((x1).snd).snd).snd).snd).fst)) Ev.maxI) then
            Option.bind (Ev.Seat.strings_Builder_WriteString_3 κ ((ByteArray.mk (List.toArray ((47 : UInt8) :: []))) ++ (((((x1).snd).snd).snd).snd).fst) ((((((x1).snd).snd).snd).snd).snd).snd) fun x2 =>
              Option.bind (Ev.Seat.path_Show.v27 κ (x1).fst ((x1).snd).fst (((x1).snd).snd).fst (!(Ev.seq ((((((x1).snd).snd).snd).snd).snd).fst (ByteArray.mk (List.toArray [])))) (((((x1).snd).snd).snd).snd).fst ((((((x1).snd).snd).snd).snd).snd).fst (x2).snd) fun x3 =>
                some (.inl ((x3).fst, ((x3).snd).fst, (((x3).snd).snd).fst, (((x3).snd).snd).snd))
          else
            none
  else
    none
def path_Show.v30 (κ : Nat) (a0 : List ApiStep) (a1 : Int) (a2 : Int) (a3 : ByteArray) (a4 : ByteArray) (a5 : List Int) : Option ((List ApiStep) × Int × Int × Bool × ByteArray × ByteArray × (List Int)) :=
  Option.bind (Ev.Seat.scalar_Ident κ a3) fun x0 =>
    bif (!x0) then
      some (a0, a1, a2, Bool.true, a3, a4, a5)
    else
      bif (!(Ev.seq a4 (ByteArray.mk (List.toArray [])))) then
        Option.bind (Ev.Seat.scalar_Ident κ a4) fun x1 =>
          some (a0, a1, a2, (!x1), a3, a4, a5)
      else
        some (a0, a1, a2, Bool.false, a3, a4, a5)
def path_Show.v32 (κ : Nat) (a0 : List ApiStep) (a1 : Int) (a2 : Int) (a3 : Bool) (a4 : ByteArray) (a5 : ByteArray) (a6 : List Int) : Option ((List ApiStep) × Int × Int × (List Int)) :=
  bif a3 then
    bif (Nat.ble ((ByteArray.size (ByteArray.mk (List.toArray ((91 : UInt8) :: [])))) + (ByteArray.size a5)) Ev.maxI) then
      bif (Nat.ble ((ByteArray.size ((ByteArray.mk (List.toArray ((91 : UInt8) :: []))) ++ a5)) + (ByteArray.size (ByteArray.mk (List.toArray ((93 : UInt8) :: []))))) Ev.maxI) then
        Option.bind (Ev.Seat.strings_Builder_WriteString_2 κ (((ByteArray.mk (List.toArray ((91 : UInt8) :: []))) ++ a5) ++ (ByteArray.mk (List.toArray ((93 : UInt8) :: [])))) a6) fun x0 =>
          some (a0, a1, a2, (x0).snd)
      else
        none
    else
      none
  else
    some (a0, a1, a2, a6)
def path_Show.v29 (κ : Nat) (a0 : List ApiStep) (a1 : Int) (a2 : Int) (a3 : List Int) : Option (((List ApiStep) × Int × Int × (List Int)) ⊕ (ByteArray)) :=
  bif (decide ((0 : Int) ≤ a2)) then
    Option.bind (a0[(Int.toNat a2)]?) fun x0 =>
      Option.bind (Ev.Seat.path_Show.v30 κ a0 a1 a2 (Ev.Seat.ApiStep.name x0) (Ev.Seat.ApiStep.key x0) a3) fun x1 =>
        bif ((((x1).snd).snd).snd).fst then
          some (.inr (ByteArray.mk (List.toArray [])))
        else
          bif (Nat.ble ((ByteArray.size (ByteArray.mk (List.toArray ((47 : UInt8) :: [])))) + (ByteArray.size (((((x1).snd).snd).snd).snd).fst)) Ev.maxI) then
            Option.bind (Ev.Seat.strings_Builder_WriteString_2 κ ((ByteArray.mk (List.toArray ((47 : UInt8) :: []))) ++ (((((x1).snd).snd).snd).snd).fst) ((((((x1).snd).snd).snd).snd).snd).snd) fun x2 =>
              Option.bind (Ev.Seat.path_Show.v32 κ (x1).fst ((x1).snd).fst (((x1).snd).snd).fst (!(Ev.seq ((((((x1).snd).snd).snd).snd).snd).fst (ByteArray.mk (List.toArray [])))) (((((x1).snd).snd).snd).snd).fst ((((((x1).snd).snd).snd).snd).snd).fst (x2).snd) fun x3 =>
                some (.inl ((x3).fst, ((x3).snd).fst, (((x3).snd).snd).fst, (((x3).snd).snd).snd))
          else
            none
  else
    none
def path_Show.w23 (κ : Nat) (rec : (((List ApiStep) × Int × Int × (List Int)) ⊕ ((List ApiStep) × Int × Int × (List Int))) → Option (((List Int)) ⊕ ((ByteArray) ⊕ ((List Int))))) (a0 : List ApiStep) (a1 : Int) (a2 : Int) (a3 : List Int) : Option (((List Int)) ⊕ ((ByteArray) ⊕ ((List Int)))) :=
  bif (decide (a2 < a1)) then
    Option.bind (Ev.Seat.path_Show.v24 κ a0 a1 a2 a3) fun x0 =>
      match x0 with
      | .inl x1 =>
        rec (.inr ((x1).fst, ((x1).snd).fst, (Go.IntKind.wrap Go.IntKind.i64 ((((x1).snd).snd).fst + (1 : Int))), (((x1).snd).snd).snd))
      | .inr x2 =>
        some (.inr (.inl x2))
  else
    some (.inl a3)
def path_Show.w23_1 (κ : Nat) (rec : (((List ApiStep) × Int × Int × (List Int)) ⊕ ((List ApiStep) × Int × Int × (List Int))) → Option (((List Int)) ⊕ ((ByteArray) ⊕ ((List Int))))) (a0 : List ApiStep) (a1 : Int) (a2 : Int) (a3 : List Int) : Option (((List Int)) ⊕ ((ByteArray) ⊕ ((List Int)))) :=
  bif (decide (a2 < a1)) then
    Option.bind (Ev.Seat.path_Show.v29 κ a0 a1 a2 a3) fun x0 =>
      match x0 with
      | .inl x1 =>
        rec (.inr ((x1).fst, ((x1).snd).fst, (Go.IntKind.wrap Go.IntKind.i64 ((((x1).snd).snd).fst + (1 : Int))), (((x1).snd).snd).snd))
      | .inr x2 =>
        some (.inr (.inl x2))
  else
    some (.inr (.inr a3))
def path_Show.l23 (κ : Nat) : Nat → (((List ApiStep) × Int × Int × (List Int)) ⊕ ((List ApiStep) × Int × Int × (List Int))) → Option (((List Int)) ⊕ ((ByteArray) ⊕ ((List Int))))
  | 0, _ => none
  | k + 1, (.inl (a0, a1, a2, a3)) => path_Show.w23 κ (path_Show.l23 κ k) a0 a1 a2 a3
  | k + 1, (.inr (a0, a1, a2, a3)) => path_Show.w23_1 κ (path_Show.l23 κ k) a0 a1 a2 a3
def path_Show (κ : Nat) (a0 : List ApiStep) : Option (ByteArray) :=
  bif ((((List.length a0) : Nat) : Int) == (0 : Int)) then
    some (ByteArray.mk (List.toArray ((47 : UInt8) :: [])))
  else
    bif (decide ((((List.length a0) : Nat) : Int) > (6 : Int))) then
      some (ByteArray.mk (List.toArray []))
    else
      Option.bind (Ev.Seat.path_Show.l23 κ κ (Sum.inl (Prod.mk a0 (Prod.mk (((List.length a0) : Nat) : Int) (Prod.mk (0 : Int) []))))) fun x0 =>
        match x0 with
        | .inl x1 =>
          Option.bind (Ev.Seat.strings_Builder_String κ x1) fun x2 =>
            some x2
        | .inr x3 =>
          match x3 with
          | .inl x4 =>
            some x4
          | .inr x5 =>
            Option.bind (Ev.Seat.strings_Builder_String_2 κ x5) fun x6 =>
              some x6
def path_Show_2 (κ : Nat)  : Option (ByteArray) :=
  some (ByteArray.mk (List.toArray ((47 : UInt8) :: [])))
def path_Under.v3 (κ : Nat) (a0 : List ApiStep) (a1 : Int) (a2 : List ApiStep) (a3 : Int) (a4 : Int) (a5 : ByteArray) (a6 : ByteArray) : Option ((List ApiStep) × (List ApiStep) × Int × Int × Bool) :=
  bif (decide (a1 ≥ (((List.length a0) : Nat) : Int))) then
    some (a0, a2, a3, a4, Bool.true)
  else
    bif (decide ((0 : Int) ≤ a1)) then
      Option.bind (a0[(Int.toNat a1)]?) fun x0 =>
        some (a0, a2, a3, a4, (!((Ev.seq (Ev.Seat.ApiStep.name x0) a5) && (Ev.seq (Ev.Seat.ApiStep.key x0) a6))))
    else
      none
def path_Under.w2 (κ : Nat) (rec : ((List ApiStep) × (List ApiStep) × Int × Int) → Option ((Unit) ⊕ (Bool))) (a0 : List ApiStep) (a1 : List ApiStep) (a2 : Int) (a3 : Int) : Option ((Unit) ⊕ (Bool)) :=
  bif (decide (a3 < a2)) then
    bif (decide ((0 : Int) ≤ a3)) then
      Option.bind (a1[(Int.toNat a3)]?) fun x0 =>
        Option.bind (Ev.Seat.path_Under.v3 κ a0 a3 a1 a2 a3 (Ev.Seat.ApiStep.name x0) (Ev.Seat.ApiStep.key x0)) fun x1 =>
          bif ((((x1).snd).snd).snd).snd then
            some (.inr Bool.false)
          else
            rec ((x1).fst, ((x1).snd).fst, (((x1).snd).snd).fst, (Go.IntKind.wrap Go.IntKind.i64 (((((x1).snd).snd).snd).fst + (1 : Int))))
    else
      none
  else
    some (.inl ())
def path_Under.l2 (κ : Nat) : Nat → ((List ApiStep) × (List ApiStep) × Int × Int) → Option ((Unit) ⊕ (Bool))
  | 0, _ => none
  | k + 1, (a0, a1, a2, a3) => path_Under.w2 κ (path_Under.l2 κ k) a0 a1 a2 a3
def path_Under (κ : Nat) (a0 : List ApiStep) (a1 : List ApiStep) : Option (Bool) :=
  Option.bind (Ev.Seat.path_Under.l2 κ κ (Prod.mk a0 (Prod.mk a1 (Prod.mk (((List.length a1) : Nat) : Int) (0 : Int))))) fun x0 =>
    match x0 with
    | .inl x1 =>
      some Bool.true
    | .inr x2 =>
      some x2
def tollbarlaw15_awake.v0 (κ : Nat) (a0 : Int) (a1 : Int) (a2 : Int) (a3 : Int) (a4 : Int) (a5 : List ApiStep) (a6 : ByteArray) (a7 : Int) (a8 : Int) (a9 : Int) (a10 : Int) (a11 : List ByteArray) (a12 : Bool) (a13 : Int) (a14 : List SpecSpec) : Option (Bool) :=
  bif (a0 == (0 : Int)) then
    bif ((((List.length a5) : Nat) : Int) == (2 : Int)) then
      bif (Nat.blt (Int.toNat (0 : Int)) (List.length a5)) then
        Option.bind (a5[(Int.toNat (0 : Int))]?) fun x0 =>
          bif ((Ev.seq (Ev.Seat.ApiStep.name x0) (ByteArray.mk (List.toArray ((112 : UInt8) :: ((111 : UInt8) :: ((114 : UInt8) :: ((116 : UInt8) :: []))))))) && (Ev.seq (Ev.Seat.ApiStep.key x0) (ByteArray.mk (List.toArray ((97 : UInt8) :: []))))) then
            Option.bind (Ev.Seat.path_Show κ a5) fun x1 =>
              bif (Ev.seq x1 (ByteArray.mk (List.toArray ((47 : UInt8) :: ((112 : UInt8) :: ((111 : UInt8) :: ((114 : UInt8) :: ((116 : UInt8) :: ((91 : UInt8) :: ((97 : UInt8) :: ((93 : UInt8) :: ((47 : UInt8) :: ((117 : UInt8) :: ((112 : UInt8) :: [])))))))))))))) then
                bif (a1 == (22 : Int)) then
                  bif (a2 == (6 : Int)) then
                    bif (a3 == (0 : Int)) then
                      bif (a8 == (3 : Int)) then
                        bif (a4 == (23 : Int)) then
                          bif (((decide ((1 : Int) ≤ (((List.length a5) : Nat) : Int))) && (decide ((0 : Int) ≤ (0 : Int)))) && (decide ((0 : Int) ≤ (1 : Int)))) then
                            Option.bind (Ev.Seat.path_Under κ a5 (List.drop (Int.toNat (0 : Int)) (List.take (Int.toNat (1 : Int)) a5))) fun x2 =>
                              bif x2 then
                                bif (((decide ((1 : Int) ≤ (((List.length a5) : Nat) : Int))) && (decide ((0 : Int) ≤ (0 : Int)))) && (decide ((0 : Int) ≤ (1 : Int)))) then
                                  Option.bind (Ev.Seat.path_Under κ (List.drop (Int.toNat (0 : Int)) (List.take (Int.toNat (1 : Int)) a5)) a5) fun x3 =>
                                    some (!x3)
                                else
                                  none
                              else
                                some Bool.false
                          else
                            none
                        else
                          some Bool.false
                      else
                        some Bool.false
                    else
                      some Bool.false
                  else
                    some Bool.false
                else
                  some Bool.false
              else
                some Bool.false
          else
            some Bool.false
      else
        none
    else
      some Bool.false
  else
    some Bool.false
def tollbarlaw15_awake (κ : Nat)  : Option (Bool) :=
  Option.bind (Ev.Seat.path_Parse κ (ByteArray.mk (List.toArray ((47 : UInt8) :: ((112 : UInt8) :: ((111 : UInt8) :: ((114 : UInt8) :: ((116 : UInt8) :: ((91 : UInt8) :: ((97 : UInt8) :: ((93 : UInt8) :: ((47 : UInt8) :: ((117 : UInt8) :: ((112 : UInt8) :: [])))))))))))))) fun x0 =>
    Option.bind (Ev.Seat.path_Parse κ (ByteArray.mk (List.toArray ((47 : UInt8) :: ((112 : UInt8) :: ((111 : UInt8) :: ((114 : UInt8) :: ((116 : UInt8) :: ((91 : UInt8) :: ((65 : UInt8) :: ((93 : UInt8) :: []))))))))))) fun x1 =>
      Option.bind (Ev.Seat.path_At κ (1 : Int) ((x0).snd).snd) fun x2 =>
        Option.bind (Ev.Seat.path_At κ (1 : Int) ((Ev.Seat.ApiStep.mk (ByteArray.mk (List.toArray ((112 : UInt8) :: ((111 : UInt8) :: ((114 : UInt8) :: ((116 : UInt8) :: [])))))) (ByteArray.mk (List.toArray []))) :: [])) fun x3 =>
          Option.bind (Ev.Seat.tollbarlaw15_awake.v0 κ (x0).fst (x1).fst ((x1).snd).fst (((((((((x2).snd).snd).snd).snd).snd).snd).snd).snd).snd (((((((((x3).snd).snd).snd).snd).snd).snd).snd).snd).snd ((x0).snd).snd (x2).fst ((x2).snd).fst (((x2).snd).snd).fst ((((x2).snd).snd).snd).fst (((((x2).snd).snd).snd).snd).fst ((((((x2).snd).snd).snd).snd).snd).fst (((((((x2).snd).snd).snd).snd).snd).snd).fst ((((((((x2).snd).snd).snd).snd).snd).snd).snd).fst (((((((((x2).snd).snd).snd).snd).snd).snd).snd).snd).fst) fun x4 =>
            some x4
def tollbarlaw15_plain_4.w0 (κ : Nat) (rec_tollbarlaw15_plain_4 : (ByteArray × Int × Int × Int × Int × (List ByteArray) × Bool × Int × (List SpecSpec)) → Option ((ByteArray × Int × Int × Int × Int × (List ByteArray) × Bool × Int) ⊕ (ByteArray × Int × Int × Int × Int × (List ByteArray) × Bool × Int × (List Tollbarref07S)))) (rec : (Int × ByteArray × Int × Int × Int × Int × (List ByteArray) × Bool × Int × (List SpecSpec) × ByteArray × Int × Int × Int × Int × Bool × Int × ByteArray × Int × Int × Int × Int × (List ByteArray) × Bool × Int × (List Tollbarref07S)) → Option (ByteArray × Int × Int × Int × Int × Bool × Int × ByteArray × Int × Int × Int × Int × (List ByteArray) × Bool × Int × (List Tollbarref07S))) (a0 : Int) (a1 : ByteArray) (a2 : Int) (a3 : Int) (a4 : Int) (a5 : Int) (a6 : List ByteArray) (a7 : Bool) (a8 : Int) (a9 : List SpecSpec) (a10 : ByteArray) (a11 : Int) (a12 : Int) (a13 : Int) (a14 : Int) (a15 : Bool) (a16 : Int) (a17 : ByteArray) (a18 : Int) (a19 : Int) (a20 : Int) (a21 : Int) (a22 : List ByteArray) (a23 : Bool) (a24 : Int) (a25 : List Tollbarref07S) : Option (ByteArray × Int × Int × Int × Int × Bool × Int × ByteArray × Int × Int × Int × Int × (List ByteArray) × Bool × Int × (List Tollbarref07S)) :=
  bif (decide (a0 < (((List.length a9) : Nat) : Int))) then
    bif (decide ((0 : Int) ≤ a0)) then
      Option.bind (a9[(Int.toNat a0)]?) fun x0 =>
        Option.bind (rec_tollbarlaw15_plain_4 (Prod.mk (Ev.Seat.SpecSpec.name x0) (Prod.mk (Ev.Seat.SpecSpec.kind x0) (Prod.mk (Ev.Seat.SpecSpec.type_ x0) (Prod.mk (Ev.Seat.SpecSpec.min x0) (Prod.mk (Ev.Seat.SpecSpec.max x0) (Prod.mk (Ev.Seat.SpecSpec.names x0) (Prod.mk (Ev.Seat.SpecSpec.must x0) (Prod.mk (Ev.Seat.SpecSpec.most x0) (Ev.Seat.SpecSpec.kids x0)))))))))) fun x1 =>
          match x1 with
          | .inl x2 =>
            bif (Nat.ble ((List.length a25) + (List.length ((Ev.Seat.Tollbarref07S.mk (x2).fst ((x2).snd).fst (((x2).snd).snd).fst ((((x2).snd).snd).snd).fst (((((x2).snd).snd).snd).snd).fst ((((((x2).snd).snd).snd).snd).snd).fst (((((((x2).snd).snd).snd).snd).snd).snd).fst (((((((x2).snd).snd).snd).snd).snd).snd).snd []) :: []))) (Ev.room (111 + 1))) then
              rec ((Go.IntKind.wrap Go.IntKind.i64 (a0 + (1 : Int))), a1, a2, a3, a4, a5, a6, a7, a8, a9, a10, a11, a12, a13, a14, a15, a16, a17, a18, a19, a20, a21, a22, a23, a24, (a25 ++ ((Ev.Seat.Tollbarref07S.mk (x2).fst ((x2).snd).fst (((x2).snd).snd).fst ((((x2).snd).snd).snd).fst (((((x2).snd).snd).snd).snd).fst ((((((x2).snd).snd).snd).snd).snd).fst (((((((x2).snd).snd).snd).snd).snd).snd).fst (((((((x2).snd).snd).snd).snd).snd).snd).snd []) :: [])))
            else
              none
          | .inr x3 =>
            bif (Nat.ble ((List.length a25) + (List.length ((Ev.Seat.Tollbarref07S.mk (x3).fst ((x3).snd).fst (((x3).snd).snd).fst ((((x3).snd).snd).snd).fst (((((x3).snd).snd).snd).snd).fst ((((((x3).snd).snd).snd).snd).snd).fst (((((((x3).snd).snd).snd).snd).snd).snd).fst ((((((((x3).snd).snd).snd).snd).snd).snd).snd).fst ((((((((x3).snd).snd).snd).snd).snd).snd).snd).snd) :: []))) (Ev.room (111 + 1))) then
              rec ((Go.IntKind.wrap Go.IntKind.i64 (a0 + (1 : Int))), a1, a2, a3, a4, a5, a6, a7, a8, a9, a10, a11, a12, a13, a14, a15, a16, a17, a18, a19, a20, a21, a22, a23, a24, (a25 ++ ((Ev.Seat.Tollbarref07S.mk (x3).fst ((x3).snd).fst (((x3).snd).snd).fst ((((x3).snd).snd).snd).fst (((((x3).snd).snd).snd).snd).fst ((((((x3).snd).snd).snd).snd).snd).fst (((((((x3).snd).snd).snd).snd).snd).snd).fst ((((((((x3).snd).snd).snd).snd).snd).snd).snd).fst ((((((((x3).snd).snd).snd).snd).snd).snd).snd).snd) :: [])))
            else
              none
    else
      none
  else
    some (a10, a11, a12, a13, a14, a15, a16, a17, a18, a19, a20, a21, a22, a23, a24, a25)
def tollbarlaw15_plain_4.l0 (κ : Nat) (rec_tollbarlaw15_plain_4 : (ByteArray × Int × Int × Int × Int × (List ByteArray) × Bool × Int × (List SpecSpec)) → Option ((ByteArray × Int × Int × Int × Int × (List ByteArray) × Bool × Int) ⊕ (ByteArray × Int × Int × Int × Int × (List ByteArray) × Bool × Int × (List Tollbarref07S)))) : Nat → (Int × ByteArray × Int × Int × Int × Int × (List ByteArray) × Bool × Int × (List SpecSpec) × ByteArray × Int × Int × Int × Int × Bool × Int × ByteArray × Int × Int × Int × Int × (List ByteArray) × Bool × Int × (List Tollbarref07S)) → Option (ByteArray × Int × Int × Int × Int × Bool × Int × ByteArray × Int × Int × Int × Int × (List ByteArray) × Bool × Int × (List Tollbarref07S))
  | 0, _ => none
  | k + 1, (a0, a1, a2, a3, a4, a5, a6, a7, a8, a9, a10, a11, a12, a13, a14, a15, a16, a17, a18, a19, a20, a21, a22, a23, a24, a25) => tollbarlaw15_plain_4.w0 κ rec_tollbarlaw15_plain_4 (tollbarlaw15_plain_4.l0 κ rec_tollbarlaw15_plain_4 k) a0 a1 a2 a3 a4 a5 a6 a7 a8 a9 a10 a11 a12 a13 a14 a15 a16 a17 a18 a19 a20 a21 a22 a23 a24 a25
def tollbarlaw15_plain_4.b (κ : Nat) (rec_tollbarlaw15_plain_4 : (ByteArray × Int × Int × Int × Int × (List ByteArray) × Bool × Int × (List SpecSpec)) → Option ((ByteArray × Int × Int × Int × Int × (List ByteArray) × Bool × Int) ⊕ (ByteArray × Int × Int × Int × Int × (List ByteArray) × Bool × Int × (List Tollbarref07S)))) (a0 : ByteArray) (a1 : Int) (a2 : Int) (a3 : Int) (a4 : Int) (a5 : List ByteArray) (a6 : Bool) (a7 : Int) (a8 : List SpecSpec) : Option ((ByteArray × Int × Int × Int × Int × (List ByteArray) × Bool × Int) ⊕ (ByteArray × Int × Int × Int × Int × (List ByteArray) × Bool × Int × (List Tollbarref07S))) :=
  Option.bind (Ev.Seat.tollbarlaw15_plain_4.l0 κ rec_tollbarlaw15_plain_4 κ (Prod.mk (0 : Int) (Prod.mk a0 (Prod.mk a1 (Prod.mk a2 (Prod.mk a3 (Prod.mk a4 (Prod.mk a5 (Prod.mk a6 (Prod.mk a7 (Prod.mk a8 (Prod.mk (ByteArray.mk (List.toArray [])) (Prod.mk (0 : Int) (Prod.mk (0 : Int) (Prod.mk (0 : Int) (Prod.mk (0 : Int) (Prod.mk Bool.false (Prod.mk (0 : Int) (Prod.mk a0 (Prod.mk a1 (Prod.mk a2 (Prod.mk a3 (Prod.mk a4 (Prod.mk a5 (Prod.mk a6 (Prod.mk a7 [])))))))))))))))))))))))))) fun x0 =>
    some (.inr (((((((((x0).snd).snd).snd).snd).snd).snd).snd).fst, (((((((((x0).snd).snd).snd).snd).snd).snd).snd).snd).fst, ((((((((((x0).snd).snd).snd).snd).snd).snd).snd).snd).snd).fst, (((((((((((x0).snd).snd).snd).snd).snd).snd).snd).snd).snd).snd).fst, ((((((((((((x0).snd).snd).snd).snd).snd).snd).snd).snd).snd).snd).snd).fst, (((((((((((((x0).snd).snd).snd).snd).snd).snd).snd).snd).snd).snd).snd).snd).fst, ((((((((((((((x0).snd).snd).snd).snd).snd).snd).snd).snd).snd).snd).snd).snd).snd).fst, (((((((((((((((x0).snd).snd).snd).snd).snd).snd).snd).snd).snd).snd).snd).snd).snd).snd).fst, (((((((((((((((x0).snd).snd).snd).snd).snd).snd).snd).snd).snd).snd).snd).snd).snd).snd).snd))
def tollbarlaw15_plain_4.r (κ : Nat) : Nat → (ByteArray × Int × Int × Int × Int × (List ByteArray) × Bool × Int × (List SpecSpec)) → Option ((ByteArray × Int × Int × Int × Int × (List ByteArray) × Bool × Int) ⊕ (ByteArray × Int × Int × Int × Int × (List ByteArray) × Bool × Int × (List Tollbarref07S)))
  | 0 => fun _ => none
  | k + 1 => fun (a0, a1, a2, a3, a4, a5, a6, a7, a8) => tollbarlaw15_plain_4.b κ (tollbarlaw15_plain_4.r κ k) a0 a1 a2 a3 a4 a5 a6 a7 a8
def tollbarlaw15_plain_4 (κ : Nat) (a0 : ByteArray) (a1 : Int) (a2 : Int) (a3 : Int) (a4 : Int) (a5 : List ByteArray) (a6 : Bool) (a7 : Int) (a8 : List SpecSpec) : Option ((ByteArray × Int × Int × Int × Int × (List ByteArray) × Bool × Int) ⊕ (ByteArray × Int × Int × Int × Int × (List ByteArray) × Bool × Int × (List Tollbarref07S))) := tollbarlaw15_plain_4.r κ κ (a0, a1, a2, a3, a4, a5, a6, a7, a8)
def tollbarref07_Same.v0 (κ : Nat) (a0 : ByteArray) (a1 : Int) (a2 : Int) (a3 : Int) (a4 : Int) (a5 : List ByteArray) (a6 : Bool) (a7 : Int) (a8 : ByteArray) (a9 : Int) (a10 : Int) (a11 : Int) (a12 : Int) (a13 : List ByteArray) (a14 : Bool) (a15 : Int) : Option (Bool × ByteArray × Int × Int × Int × Int × (List ByteArray) × Bool × Int × ByteArray × Int × Int × Int × Int × (List ByteArray) × Bool × Int) :=
  bif (!(Ev.seq a0 a8)) then
    some (Bool.true, a0, a1, a2, a3, a4, a5, a6, a7, a8, a9, a10, a11, a12, a13, a14, a15)
  else
    bif (a1 != a9) then
      some (Bool.true, a0, a1, a2, a3, a4, a5, a6, a7, a8, a9, a10, a11, a12, a13, a14, a15)
    else
      bif (a2 != a10) then
        some (Bool.true, a0, a1, a2, a3, a4, a5, a6, a7, a8, a9, a10, a11, a12, a13, a14, a15)
      else
        bif (a3 != a11) then
          some (Bool.true, a0, a1, a2, a3, a4, a5, a6, a7, a8, a9, a10, a11, a12, a13, a14, a15)
        else
          bif (a4 != a12) then
            some (Bool.true, a0, a1, a2, a3, a4, a5, a6, a7, a8, a9, a10, a11, a12, a13, a14, a15)
          else
            bif (!(a6 == a14)) then
              some (Bool.true, a0, a1, a2, a3, a4, a5, a6, a7, a8, a9, a10, a11, a12, a13, a14, a15)
            else
              bif (a7 != a15) then
                some (Bool.true, a0, a1, a2, a3, a4, a5, a6, a7, a8, a9, a10, a11, a12, a13, a14, a15)
              else
                bif ((((List.length a5) : Nat) : Int) != (((List.length a13) : Nat) : Int)) then
                  some (Bool.true, a0, a1, a2, a3, a4, a5, a6, a7, a8, a9, a10, a11, a12, a13, a14, a15)
                else
                  some (((0 : Int) != (0 : Int)), a0, a1, a2, a3, a4, a5, a6, a7, a8, a9, a10, a11, a12, a13, a14, a15)
def tollbarref07_Same.w2 (κ : Nat) (rec : (Int × ByteArray × Int × Int × Int × Int × (List ByteArray) × Bool × Int × ByteArray × Int × Int × Int × Int × (List ByteArray) × Bool × Int) → Option ((ByteArray × Int × Int × Int × Int × (List ByteArray) × Bool × Int × ByteArray × Int × Int × Int × Int × (List ByteArray) × Bool × Int) ⊕ (Bool))) (a0 : Int) (a1 : ByteArray) (a2 : Int) (a3 : Int) (a4 : Int) (a5 : Int) (a6 : List ByteArray) (a7 : Bool) (a8 : Int) (a9 : ByteArray) (a10 : Int) (a11 : Int) (a12 : Int) (a13 : Int) (a14 : List ByteArray) (a15 : Bool) (a16 : Int) : Option ((ByteArray × Int × Int × Int × Int × (List ByteArray) × Bool × Int × ByteArray × Int × Int × Int × Int × (List ByteArray) × Bool × Int) ⊕ (Bool)) :=
  bif (decide (a0 < (((List.length a6) : Nat) : Int))) then
    bif (decide ((0 : Int) ≤ a0)) then
      Option.bind (a6[(Int.toNat a0)]?) fun x0 =>
        bif (decide ((0 : Int) ≤ a0)) then
          Option.bind (a14[(Int.toNat a0)]?) fun x1 =>
            bif (!(Ev.seq x0 x1)) then
              some (.inr Bool.false)
            else
              rec ((Go.IntKind.wrap Go.IntKind.i64 (a0 + (1 : Int))), a1, a2, a3, a4, a5, a6, a7, a8, a9, a10, a11, a12, a13, a14, a15, a16)
        else
          none
    else
      none
  else
    some (.inl (a1, a2, a3, a4, a5, a6, a7, a8, a9, a10, a11, a12, a13, a14, a15, a16))
def tollbarref07_Same.l2 (κ : Nat) : Nat → (Int × ByteArray × Int × Int × Int × Int × (List ByteArray) × Bool × Int × ByteArray × Int × Int × Int × Int × (List ByteArray) × Bool × Int) → Option ((ByteArray × Int × Int × Int × Int × (List ByteArray) × Bool × Int × ByteArray × Int × Int × Int × Int × (List ByteArray) × Bool × Int) ⊕ (Bool))
  | 0, _ => none
  | k + 1, (a0, a1, a2, a3, a4, a5, a6, a7, a8, a9, a10, a11, a12, a13, a14, a15, a16) => tollbarref07_Same.w2 κ (tollbarref07_Same.l2 κ k) a0 a1 a2 a3 a4 a5 a6 a7 a8 a9 a10 a11 a12 a13 a14 a15 a16
def tollbarref07_Same.w4 (κ : Nat) (rec : (Int × ByteArray × Int × Int × Int × Int × (List ByteArray) × Bool × Int × ByteArray × Int × Int × Int × Int × (List ByteArray) × Bool × Int) → Option (Unit)) (a0 : Int) (a1 : ByteArray) (a2 : Int) (a3 : Int) (a4 : Int) (a5 : Int) (a6 : List ByteArray) (a7 : Bool) (a8 : Int) (a9 : ByteArray) (a10 : Int) (a11 : Int) (a12 : Int) (a13 : Int) (a14 : List ByteArray) (a15 : Bool) (a16 : Int) : Option (Unit) :=
  bif (decide (a0 < (0 : Int))) then
    none
  else
    some ()
def tollbarref07_Same.l4 (κ : Nat) : Nat → (Int × ByteArray × Int × Int × Int × Int × (List ByteArray) × Bool × Int × ByteArray × Int × Int × Int × Int × (List ByteArray) × Bool × Int) → Option (Unit)
  | 0, _ => none
  | k + 1, (a0, a1, a2, a3, a4, a5, a6, a7, a8, a9, a10, a11, a12, a13, a14, a15, a16) => tollbarref07_Same.w4 κ (tollbarref07_Same.l4 κ k) a0 a1 a2 a3 a4 a5 a6 a7 a8 a9 a10 a11 a12 a13 a14 a15 a16
def tollbarref07_Same (κ : Nat) (a0 : ByteArray) (a1 : Int) (a2 : Int) (a3 : Int) (a4 : Int) (a5 : List ByteArray) (a6 : Bool) (a7 : Int) (a8 : ByteArray) (a9 : Int) (a10 : Int) (a11 : Int) (a12 : Int) (a13 : List ByteArray) (a14 : Bool) (a15 : Int) : Option (Bool) :=
  Option.bind (Ev.Seat.tollbarref07_Same.v0 κ a0 a1 a2 a3 a4 a5 a6 a7 a8 a9 a10 a11 a12 a13 a14 a15) fun x0 =>
    bif (x0).fst then
      some Bool.false
    else
      Option.bind (Ev.Seat.tollbarref07_Same.l2 κ κ (Prod.mk (0 : Int) (Prod.mk ((x0).snd).fst (Prod.mk (((x0).snd).snd).fst (Prod.mk ((((x0).snd).snd).snd).fst (Prod.mk (((((x0).snd).snd).snd).snd).fst (Prod.mk ((((((x0).snd).snd).snd).snd).snd).fst (Prod.mk (((((((x0).snd).snd).snd).snd).snd).snd).fst (Prod.mk ((((((((x0).snd).snd).snd).snd).snd).snd).snd).fst (Prod.mk (((((((((x0).snd).snd).snd).snd).snd).snd).snd).snd).fst (Prod.mk ((((((((((x0).snd).snd).snd).snd).snd).snd).snd).snd).snd).fst (Prod.mk (((((((((((x0).snd).snd).snd).snd).snd).snd).snd).snd).snd).snd).fst (Prod.mk ((((((((((((x0).snd).snd).snd).snd).snd).snd).snd).snd).snd).snd).snd).fst (Prod.mk (((((((((((((x0).snd).snd).snd).snd).snd).snd).snd).snd).snd).snd).snd).snd).fst (Prod.mk ((((((((((((((x0).snd).snd).snd).snd).snd).snd).snd).snd).snd).snd).snd).snd).snd).fst (Prod.mk (((((((((((((((x0).snd).snd).snd).snd).snd).snd).snd).snd).snd).snd).snd).snd).snd).snd).fst (Prod.mk ((((((((((((((((x0).snd).snd).snd).snd).snd).snd).snd).snd).snd).snd).snd).snd).snd).snd).snd).fst ((((((((((((((((x0).snd).snd).snd).snd).snd).snd).snd).snd).snd).snd).snd).snd).snd).snd).snd).snd))))))))))))))))) fun x1 =>
        match x1 with
        | .inl x2 =>
          Option.bind (Ev.Seat.tollbarref07_Same.l4 κ κ (Prod.mk (0 : Int) (Prod.mk (x2).fst (Prod.mk ((x2).snd).fst (Prod.mk (((x2).snd).snd).fst (Prod.mk ((((x2).snd).snd).snd).fst (Prod.mk (((((x2).snd).snd).snd).snd).fst (Prod.mk ((((((x2).snd).snd).snd).snd).snd).fst (Prod.mk (((((((x2).snd).snd).snd).snd).snd).snd).fst (Prod.mk ((((((((x2).snd).snd).snd).snd).snd).snd).snd).fst (Prod.mk (((((((((x2).snd).snd).snd).snd).snd).snd).snd).snd).fst (Prod.mk ((((((((((x2).snd).snd).snd).snd).snd).snd).snd).snd).snd).fst (Prod.mk (((((((((((x2).snd).snd).snd).snd).snd).snd).snd).snd).snd).snd).fst (Prod.mk ((((((((((((x2).snd).snd).snd).snd).snd).snd).snd).snd).snd).snd).snd).fst (Prod.mk (((((((((((((x2).snd).snd).snd).snd).snd).snd).snd).snd).snd).snd).snd).snd).fst (Prod.mk ((((((((((((((x2).snd).snd).snd).snd).snd).snd).snd).snd).snd).snd).snd).snd).snd).fst (Prod.mk (((((((((((((((x2).snd).snd).snd).snd).snd).snd).snd).snd).snd).snd).snd).snd).snd).snd).fst (((((((((((((((x2).snd).snd).snd).snd).snd).snd).snd).snd).snd).snd).snd).snd).snd).snd).snd))))))))))))))))) fun x3 =>
            some Bool.true
        | .inr x4 =>
          some x4
def tollbarref07_Same_2.v0 (κ : Nat) (a0 : ByteArray) (a1 : Int) (a2 : Int) (a3 : Int) (a4 : Int) (a5 : List ByteArray) (a6 : Bool) (a7 : Int) (a8 : ByteArray) (a9 : Int) (a10 : Int) (a11 : Int) (a12 : Int) (a13 : List ByteArray) (a14 : Bool) (a15 : Int) (a16 : List Tollbarref07S) : Option (Bool × ByteArray × Int × Int × Int × Int × (List ByteArray) × Bool × Int × ByteArray × Int × Int × Int × Int × (List ByteArray) × Bool × Int × (List Tollbarref07S)) :=
  bif (!(Ev.seq a0 a8)) then
    some (Bool.true, a0, a1, a2, a3, a4, a5, a6, a7, a8, a9, a10, a11, a12, a13, a14, a15, a16)
  else
    bif (a1 != a9) then
      some (Bool.true, a0, a1, a2, a3, a4, a5, a6, a7, a8, a9, a10, a11, a12, a13, a14, a15, a16)
    else
      bif (a2 != a10) then
        some (Bool.true, a0, a1, a2, a3, a4, a5, a6, a7, a8, a9, a10, a11, a12, a13, a14, a15, a16)
      else
        bif (a3 != a11) then
          some (Bool.true, a0, a1, a2, a3, a4, a5, a6, a7, a8, a9, a10, a11, a12, a13, a14, a15, a16)
        else
          bif (a4 != a12) then
            some (Bool.true, a0, a1, a2, a3, a4, a5, a6, a7, a8, a9, a10, a11, a12, a13, a14, a15, a16)
          else
            bif (!(a6 == a14)) then
              some (Bool.true, a0, a1, a2, a3, a4, a5, a6, a7, a8, a9, a10, a11, a12, a13, a14, a15, a16)
            else
              bif (a7 != a15) then
                some (Bool.true, a0, a1, a2, a3, a4, a5, a6, a7, a8, a9, a10, a11, a12, a13, a14, a15, a16)
              else
                bif ((((List.length a5) : Nat) : Int) != (((List.length a13) : Nat) : Int)) then
                  some (Bool.true, a0, a1, a2, a3, a4, a5, a6, a7, a8, a9, a10, a11, a12, a13, a14, a15, a16)
                else
                  some (((0 : Int) != (((List.length a16) : Nat) : Int)), a0, a1, a2, a3, a4, a5, a6, a7, a8, a9, a10, a11, a12, a13, a14, a15, a16)
def tollbarref07_Same_2.w2 (κ : Nat) (rec : (Int × ByteArray × Int × Int × Int × Int × (List ByteArray) × Bool × Int × ByteArray × Int × Int × Int × Int × (List ByteArray) × Bool × Int × (List Tollbarref07S)) → Option ((ByteArray × Int × Int × Int × Int × (List ByteArray) × Bool × Int × ByteArray × Int × Int × Int × Int × (List ByteArray) × Bool × Int × (List Tollbarref07S)) ⊕ (Bool))) (a0 : Int) (a1 : ByteArray) (a2 : Int) (a3 : Int) (a4 : Int) (a5 : Int) (a6 : List ByteArray) (a7 : Bool) (a8 : Int) (a9 : ByteArray) (a10 : Int) (a11 : Int) (a12 : Int) (a13 : Int) (a14 : List ByteArray) (a15 : Bool) (a16 : Int) (a17 : List Tollbarref07S) : Option ((ByteArray × Int × Int × Int × Int × (List ByteArray) × Bool × Int × ByteArray × Int × Int × Int × Int × (List ByteArray) × Bool × Int × (List Tollbarref07S)) ⊕ (Bool)) :=
  bif (decide (a0 < (((List.length a6) : Nat) : Int))) then
    bif (decide ((0 : Int) ≤ a0)) then
      Option.bind (a6[(Int.toNat a0)]?) fun x0 =>
        bif (decide ((0 : Int) ≤ a0)) then
          Option.bind (a14[(Int.toNat a0)]?) fun x1 =>
            bif (!(Ev.seq x0 x1)) then
              some (.inr Bool.false)
            else
              rec ((Go.IntKind.wrap Go.IntKind.i64 (a0 + (1 : Int))), a1, a2, a3, a4, a5, a6, a7, a8, a9, a10, a11, a12, a13, a14, a15, a16, a17)
        else
          none
    else
      none
  else
    some (.inl (a1, a2, a3, a4, a5, a6, a7, a8, a9, a10, a11, a12, a13, a14, a15, a16, a17))
def tollbarref07_Same_2.l2 (κ : Nat) : Nat → (Int × ByteArray × Int × Int × Int × Int × (List ByteArray) × Bool × Int × ByteArray × Int × Int × Int × Int × (List ByteArray) × Bool × Int × (List Tollbarref07S)) → Option ((ByteArray × Int × Int × Int × Int × (List ByteArray) × Bool × Int × ByteArray × Int × Int × Int × Int × (List ByteArray) × Bool × Int × (List Tollbarref07S)) ⊕ (Bool))
  | 0, _ => none
  | k + 1, (a0, a1, a2, a3, a4, a5, a6, a7, a8, a9, a10, a11, a12, a13, a14, a15, a16, a17) => tollbarref07_Same_2.w2 κ (tollbarref07_Same_2.l2 κ k) a0 a1 a2 a3 a4 a5 a6 a7 a8 a9 a10 a11 a12 a13 a14 a15 a16 a17
def tollbarref07_Same_2.w4 (κ : Nat) (rec : (Int × ByteArray × Int × Int × Int × Int × (List ByteArray) × Bool × Int × ByteArray × Int × Int × Int × Int × (List ByteArray) × Bool × Int × (List Tollbarref07S)) → Option (Unit)) (a0 : Int) (a1 : ByteArray) (a2 : Int) (a3 : Int) (a4 : Int) (a5 : Int) (a6 : List ByteArray) (a7 : Bool) (a8 : Int) (a9 : ByteArray) (a10 : Int) (a11 : Int) (a12 : Int) (a13 : Int) (a14 : List ByteArray) (a15 : Bool) (a16 : Int) (a17 : List Tollbarref07S) : Option (Unit) :=
  bif (decide (a0 < (0 : Int))) then
    none
  else
    some ()
def tollbarref07_Same_2.l4 (κ : Nat) : Nat → (Int × ByteArray × Int × Int × Int × Int × (List ByteArray) × Bool × Int × ByteArray × Int × Int × Int × Int × (List ByteArray) × Bool × Int × (List Tollbarref07S)) → Option (Unit)
  | 0, _ => none
  | k + 1, (a0, a1, a2, a3, a4, a5, a6, a7, a8, a9, a10, a11, a12, a13, a14, a15, a16, a17) => tollbarref07_Same_2.w4 κ (tollbarref07_Same_2.l4 κ k) a0 a1 a2 a3 a4 a5 a6 a7 a8 a9 a10 a11 a12 a13 a14 a15 a16 a17
def tollbarref07_Same_2 (κ : Nat) (a0 : ByteArray) (a1 : Int) (a2 : Int) (a3 : Int) (a4 : Int) (a5 : List ByteArray) (a6 : Bool) (a7 : Int) (a8 : ByteArray) (a9 : Int) (a10 : Int) (a11 : Int) (a12 : Int) (a13 : List ByteArray) (a14 : Bool) (a15 : Int) (a16 : List Tollbarref07S) : Option (Bool) :=
  Option.bind (Ev.Seat.tollbarref07_Same_2.v0 κ a0 a1 a2 a3 a4 a5 a6 a7 a8 a9 a10 a11 a12 a13 a14 a15 a16) fun x0 =>
    bif (x0).fst then
      some Bool.false
    else
      Option.bind (Ev.Seat.tollbarref07_Same_2.l2 κ κ (Prod.mk (0 : Int) (Prod.mk ((x0).snd).fst (Prod.mk (((x0).snd).snd).fst (Prod.mk ((((x0).snd).snd).snd).fst (Prod.mk (((((x0).snd).snd).snd).snd).fst (Prod.mk ((((((x0).snd).snd).snd).snd).snd).fst (Prod.mk (((((((x0).snd).snd).snd).snd).snd).snd).fst (Prod.mk ((((((((x0).snd).snd).snd).snd).snd).snd).snd).fst (Prod.mk (((((((((x0).snd).snd).snd).snd).snd).snd).snd).snd).fst (Prod.mk ((((((((((x0).snd).snd).snd).snd).snd).snd).snd).snd).snd).fst (Prod.mk (((((((((((x0).snd).snd).snd).snd).snd).snd).snd).snd).snd).snd).fst (Prod.mk ((((((((((((x0).snd).snd).snd).snd).snd).snd).snd).snd).snd).snd).snd).fst (Prod.mk (((((((((((((x0).snd).snd).snd).snd).snd).snd).snd).snd).snd).snd).snd).snd).fst (Prod.mk ((((((((((((((x0).snd).snd).snd).snd).snd).snd).snd).snd).snd).snd).snd).snd).snd).fst (Prod.mk (((((((((((((((x0).snd).snd).snd).snd).snd).snd).snd).snd).snd).snd).snd).snd).snd).snd).fst (Prod.mk ((((((((((((((((x0).snd).snd).snd).snd).snd).snd).snd).snd).snd).snd).snd).snd).snd).snd).snd).fst (Prod.mk (((((((((((((((((x0).snd).snd).snd).snd).snd).snd).snd).snd).snd).snd).snd).snd).snd).snd).snd).snd).fst (((((((((((((((((x0).snd).snd).snd).snd).snd).snd).snd).snd).snd).snd).snd).snd).snd).snd).snd).snd).snd)))))))))))))))))) fun x1 =>
        match x1 with
        | .inl x2 =>
          Option.bind (Ev.Seat.tollbarref07_Same_2.l4 κ κ (Prod.mk (0 : Int) (Prod.mk (x2).fst (Prod.mk ((x2).snd).fst (Prod.mk (((x2).snd).snd).fst (Prod.mk ((((x2).snd).snd).snd).fst (Prod.mk (((((x2).snd).snd).snd).snd).fst (Prod.mk ((((((x2).snd).snd).snd).snd).snd).fst (Prod.mk (((((((x2).snd).snd).snd).snd).snd).snd).fst (Prod.mk ((((((((x2).snd).snd).snd).snd).snd).snd).snd).fst (Prod.mk (((((((((x2).snd).snd).snd).snd).snd).snd).snd).snd).fst (Prod.mk ((((((((((x2).snd).snd).snd).snd).snd).snd).snd).snd).snd).fst (Prod.mk (((((((((((x2).snd).snd).snd).snd).snd).snd).snd).snd).snd).snd).fst (Prod.mk ((((((((((((x2).snd).snd).snd).snd).snd).snd).snd).snd).snd).snd).snd).fst (Prod.mk (((((((((((((x2).snd).snd).snd).snd).snd).snd).snd).snd).snd).snd).snd).snd).fst (Prod.mk ((((((((((((((x2).snd).snd).snd).snd).snd).snd).snd).snd).snd).snd).snd).snd).snd).fst (Prod.mk (((((((((((((((x2).snd).snd).snd).snd).snd).snd).snd).snd).snd).snd).snd).snd).snd).snd).fst (Prod.mk ((((((((((((((((x2).snd).snd).snd).snd).snd).snd).snd).snd).snd).snd).snd).snd).snd).snd).snd).fst ((((((((((((((((x2).snd).snd).snd).snd).snd).snd).snd).snd).snd).snd).snd).snd).snd).snd).snd).snd)))))))))))))))))) fun x3 =>
            some Bool.true
        | .inr x4 =>
          some x4
def tollbarref07_Same_3.v0 (κ : Nat) (a0 : ByteArray) (a1 : Int) (a2 : Int) (a3 : Int) (a4 : Int) (a5 : List ByteArray) (a6 : Bool) (a7 : Int) (a8 : List Tollbarref07S) (a9 : ByteArray) (a10 : Int) (a11 : Int) (a12 : Int) (a13 : Int) (a14 : List ByteArray) (a15 : Bool) (a16 : Int) : Option (Bool × ByteArray × Int × Int × Int × Int × (List ByteArray) × Bool × Int × (List Tollbarref07S) × ByteArray × Int × Int × Int × Int × (List ByteArray) × Bool × Int) :=
  bif (!(Ev.seq a0 a9)) then
    some (Bool.true, a0, a1, a2, a3, a4, a5, a6, a7, a8, a9, a10, a11, a12, a13, a14, a15, a16)
  else
    bif (a1 != a10) then
      some (Bool.true, a0, a1, a2, a3, a4, a5, a6, a7, a8, a9, a10, a11, a12, a13, a14, a15, a16)
    else
      bif (a2 != a11) then
        some (Bool.true, a0, a1, a2, a3, a4, a5, a6, a7, a8, a9, a10, a11, a12, a13, a14, a15, a16)
      else
        bif (a3 != a12) then
          some (Bool.true, a0, a1, a2, a3, a4, a5, a6, a7, a8, a9, a10, a11, a12, a13, a14, a15, a16)
        else
          bif (a4 != a13) then
            some (Bool.true, a0, a1, a2, a3, a4, a5, a6, a7, a8, a9, a10, a11, a12, a13, a14, a15, a16)
          else
            bif (!(a6 == a15)) then
              some (Bool.true, a0, a1, a2, a3, a4, a5, a6, a7, a8, a9, a10, a11, a12, a13, a14, a15, a16)
            else
              bif (a7 != a16) then
                some (Bool.true, a0, a1, a2, a3, a4, a5, a6, a7, a8, a9, a10, a11, a12, a13, a14, a15, a16)
              else
                bif ((((List.length a5) : Nat) : Int) != (((List.length a14) : Nat) : Int)) then
                  some (Bool.true, a0, a1, a2, a3, a4, a5, a6, a7, a8, a9, a10, a11, a12, a13, a14, a15, a16)
                else
                  some (((((List.length a8) : Nat) : Int) != (0 : Int)), a0, a1, a2, a3, a4, a5, a6, a7, a8, a9, a10, a11, a12, a13, a14, a15, a16)
def tollbarref07_Same_3.w2 (κ : Nat) (rec : (Int × ByteArray × Int × Int × Int × Int × (List ByteArray) × Bool × Int × (List Tollbarref07S) × ByteArray × Int × Int × Int × Int × (List ByteArray) × Bool × Int) → Option ((ByteArray × Int × Int × Int × Int × (List ByteArray) × Bool × Int × (List Tollbarref07S) × ByteArray × Int × Int × Int × Int × (List ByteArray) × Bool × Int) ⊕ (Bool))) (a0 : Int) (a1 : ByteArray) (a2 : Int) (a3 : Int) (a4 : Int) (a5 : Int) (a6 : List ByteArray) (a7 : Bool) (a8 : Int) (a9 : List Tollbarref07S) (a10 : ByteArray) (a11 : Int) (a12 : Int) (a13 : Int) (a14 : Int) (a15 : List ByteArray) (a16 : Bool) (a17 : Int) : Option ((ByteArray × Int × Int × Int × Int × (List ByteArray) × Bool × Int × (List Tollbarref07S) × ByteArray × Int × Int × Int × Int × (List ByteArray) × Bool × Int) ⊕ (Bool)) :=
  bif (decide (a0 < (((List.length a6) : Nat) : Int))) then
    bif (decide ((0 : Int) ≤ a0)) then
      Option.bind (a6[(Int.toNat a0)]?) fun x0 =>
        bif (decide ((0 : Int) ≤ a0)) then
          Option.bind (a15[(Int.toNat a0)]?) fun x1 =>
            bif (!(Ev.seq x0 x1)) then
              some (.inr Bool.false)
            else
              rec ((Go.IntKind.wrap Go.IntKind.i64 (a0 + (1 : Int))), a1, a2, a3, a4, a5, a6, a7, a8, a9, a10, a11, a12, a13, a14, a15, a16, a17)
        else
          none
    else
      none
  else
    some (.inl (a1, a2, a3, a4, a5, a6, a7, a8, a9, a10, a11, a12, a13, a14, a15, a16, a17))
def tollbarref07_Same_3.l2 (κ : Nat) : Nat → (Int × ByteArray × Int × Int × Int × Int × (List ByteArray) × Bool × Int × (List Tollbarref07S) × ByteArray × Int × Int × Int × Int × (List ByteArray) × Bool × Int) → Option ((ByteArray × Int × Int × Int × Int × (List ByteArray) × Bool × Int × (List Tollbarref07S) × ByteArray × Int × Int × Int × Int × (List ByteArray) × Bool × Int) ⊕ (Bool))
  | 0, _ => none
  | k + 1, (a0, a1, a2, a3, a4, a5, a6, a7, a8, a9, a10, a11, a12, a13, a14, a15, a16, a17) => tollbarref07_Same_3.w2 κ (tollbarref07_Same_3.l2 κ k) a0 a1 a2 a3 a4 a5 a6 a7 a8 a9 a10 a11 a12 a13 a14 a15 a16 a17
def tollbarref07_Same_3.w4 (κ : Nat) (rec : (Int × ByteArray × Int × Int × Int × Int × (List ByteArray) × Bool × Int × (List Tollbarref07S) × ByteArray × Int × Int × Int × Int × (List ByteArray) × Bool × Int) → Option (Unit)) (a0 : Int) (a1 : ByteArray) (a2 : Int) (a3 : Int) (a4 : Int) (a5 : Int) (a6 : List ByteArray) (a7 : Bool) (a8 : Int) (a9 : List Tollbarref07S) (a10 : ByteArray) (a11 : Int) (a12 : Int) (a13 : Int) (a14 : Int) (a15 : List ByteArray) (a16 : Bool) (a17 : Int) : Option (Unit) :=
  bif (decide (a0 < (((List.length a9) : Nat) : Int))) then
    bif (decide ((0 : Int) ≤ a0)) then
      Option.bind (a9[(Int.toNat a0)]?) fun x0 =>
        none
    else
      none
  else
    some ()
def tollbarref07_Same_3.l4 (κ : Nat) : Nat → (Int × ByteArray × Int × Int × Int × Int × (List ByteArray) × Bool × Int × (List Tollbarref07S) × ByteArray × Int × Int × Int × Int × (List ByteArray) × Bool × Int) → Option (Unit)
  | 0, _ => none
  | k + 1, (a0, a1, a2, a3, a4, a5, a6, a7, a8, a9, a10, a11, a12, a13, a14, a15, a16, a17) => tollbarref07_Same_3.w4 κ (tollbarref07_Same_3.l4 κ k) a0 a1 a2 a3 a4 a5 a6 a7 a8 a9 a10 a11 a12 a13 a14 a15 a16 a17
def tollbarref07_Same_3 (κ : Nat) (a0 : ByteArray) (a1 : Int) (a2 : Int) (a3 : Int) (a4 : Int) (a5 : List ByteArray) (a6 : Bool) (a7 : Int) (a8 : List Tollbarref07S) (a9 : ByteArray) (a10 : Int) (a11 : Int) (a12 : Int) (a13 : Int) (a14 : List ByteArray) (a15 : Bool) (a16 : Int) : Option (Bool) :=
  Option.bind (Ev.Seat.tollbarref07_Same_3.v0 κ a0 a1 a2 a3 a4 a5 a6 a7 a8 a9 a10 a11 a12 a13 a14 a15 a16) fun x0 =>
    bif (x0).fst then
      some Bool.false
    else
      Option.bind (Ev.Seat.tollbarref07_Same_3.l2 κ κ (Prod.mk (0 : Int) (Prod.mk ((x0).snd).fst (Prod.mk (((x0).snd).snd).fst (Prod.mk ((((x0).snd).snd).snd).fst (Prod.mk (((((x0).snd).snd).snd).snd).fst (Prod.mk ((((((x0).snd).snd).snd).snd).snd).fst (Prod.mk (((((((x0).snd).snd).snd).snd).snd).snd).fst (Prod.mk ((((((((x0).snd).snd).snd).snd).snd).snd).snd).fst (Prod.mk (((((((((x0).snd).snd).snd).snd).snd).snd).snd).snd).fst (Prod.mk ((((((((((x0).snd).snd).snd).snd).snd).snd).snd).snd).snd).fst (Prod.mk (((((((((((x0).snd).snd).snd).snd).snd).snd).snd).snd).snd).snd).fst (Prod.mk ((((((((((((x0).snd).snd).snd).snd).snd).snd).snd).snd).snd).snd).snd).fst (Prod.mk (((((((((((((x0).snd).snd).snd).snd).snd).snd).snd).snd).snd).snd).snd).snd).fst (Prod.mk ((((((((((((((x0).snd).snd).snd).snd).snd).snd).snd).snd).snd).snd).snd).snd).snd).fst (Prod.mk (((((((((((((((x0).snd).snd).snd).snd).snd).snd).snd).snd).snd).snd).snd).snd).snd).snd).fst (Prod.mk ((((((((((((((((x0).snd).snd).snd).snd).snd).snd).snd).snd).snd).snd).snd).snd).snd).snd).snd).fst (Prod.mk (((((((((((((((((x0).snd).snd).snd).snd).snd).snd).snd).snd).snd).snd).snd).snd).snd).snd).snd).snd).fst (((((((((((((((((x0).snd).snd).snd).snd).snd).snd).snd).snd).snd).snd).snd).snd).snd).snd).snd).snd).snd)))))))))))))))))) fun x1 =>
        match x1 with
        | .inl x2 =>
          Option.bind (Ev.Seat.tollbarref07_Same_3.l4 κ κ (Prod.mk (0 : Int) (Prod.mk (x2).fst (Prod.mk ((x2).snd).fst (Prod.mk (((x2).snd).snd).fst (Prod.mk ((((x2).snd).snd).snd).fst (Prod.mk (((((x2).snd).snd).snd).snd).fst (Prod.mk ((((((x2).snd).snd).snd).snd).snd).fst (Prod.mk (((((((x2).snd).snd).snd).snd).snd).snd).fst (Prod.mk ((((((((x2).snd).snd).snd).snd).snd).snd).snd).fst (Prod.mk (((((((((x2).snd).snd).snd).snd).snd).snd).snd).snd).fst (Prod.mk ((((((((((x2).snd).snd).snd).snd).snd).snd).snd).snd).snd).fst (Prod.mk (((((((((((x2).snd).snd).snd).snd).snd).snd).snd).snd).snd).snd).fst (Prod.mk ((((((((((((x2).snd).snd).snd).snd).snd).snd).snd).snd).snd).snd).snd).fst (Prod.mk (((((((((((((x2).snd).snd).snd).snd).snd).snd).snd).snd).snd).snd).snd).snd).fst (Prod.mk ((((((((((((((x2).snd).snd).snd).snd).snd).snd).snd).snd).snd).snd).snd).snd).snd).fst (Prod.mk (((((((((((((((x2).snd).snd).snd).snd).snd).snd).snd).snd).snd).snd).snd).snd).snd).snd).fst (Prod.mk ((((((((((((((((x2).snd).snd).snd).snd).snd).snd).snd).snd).snd).snd).snd).snd).snd).snd).snd).fst ((((((((((((((((x2).snd).snd).snd).snd).snd).snd).snd).snd).snd).snd).snd).snd).snd).snd).snd).snd)))))))))))))))))) fun x3 =>
            some Bool.true
        | .inr x4 =>
          some x4
def tollbarref07_Same_6.v0 (κ : Nat) (rec_tollbarref07_Same_6 : (ByteArray × Int × Int × Int × Int × (List ByteArray) × Bool × Int × (List Tollbarref07S) × ByteArray × Int × Int × Int × Int × (List ByteArray) × Bool × Int × (List Tollbarref07S)) → Option (Bool)) (a0 : ByteArray) (a1 : Int) (a2 : Int) (a3 : Int) (a4 : Int) (a5 : List ByteArray) (a6 : Bool) (a7 : Int) (a8 : List Tollbarref07S) (a9 : ByteArray) (a10 : Int) (a11 : Int) (a12 : Int) (a13 : Int) (a14 : List ByteArray) (a15 : Bool) (a16 : Int) (a17 : List Tollbarref07S) : Option (Bool × ByteArray × Int × Int × Int × Int × (List ByteArray) × Bool × Int × (List Tollbarref07S) × ByteArray × Int × Int × Int × Int × (List ByteArray) × Bool × Int × (List Tollbarref07S)) :=
  bif (!(Ev.seq a0 a9)) then
    some (Bool.true, a0, a1, a2, a3, a4, a5, a6, a7, a8, a9, a10, a11, a12, a13, a14, a15, a16, a17)
  else
    bif (a1 != a10) then
      some (Bool.true, a0, a1, a2, a3, a4, a5, a6, a7, a8, a9, a10, a11, a12, a13, a14, a15, a16, a17)
    else
      bif (a2 != a11) then
        some (Bool.true, a0, a1, a2, a3, a4, a5, a6, a7, a8, a9, a10, a11, a12, a13, a14, a15, a16, a17)
      else
        bif (a3 != a12) then
          some (Bool.true, a0, a1, a2, a3, a4, a5, a6, a7, a8, a9, a10, a11, a12, a13, a14, a15, a16, a17)
        else
          bif (a4 != a13) then
            some (Bool.true, a0, a1, a2, a3, a4, a5, a6, a7, a8, a9, a10, a11, a12, a13, a14, a15, a16, a17)
          else
            bif (!(a6 == a15)) then
              some (Bool.true, a0, a1, a2, a3, a4, a5, a6, a7, a8, a9, a10, a11, a12, a13, a14, a15, a16, a17)
            else
              bif (a7 != a16) then
                some (Bool.true, a0, a1, a2, a3, a4, a5, a6, a7, a8, a9, a10, a11, a12, a13, a14, a15, a16, a17)
              else
                bif ((((List.length a5) : Nat) : Int) != (((List.length a14) : Nat) : Int)) then
                  some (Bool.true, a0, a1, a2, a3, a4, a5, a6, a7, a8, a9, a10, a11, a12, a13, a14, a15, a16, a17)
                else
                  some (((((List.length a8) : Nat) : Int) != (((List.length a17) : Nat) : Int)), a0, a1, a2, a3, a4, a5, a6, a7, a8, a9, a10, a11, a12, a13, a14, a15, a16, a17)
def tollbarref07_Same_6.w2 (κ : Nat) (rec_tollbarref07_Same_6 : (ByteArray × Int × Int × Int × Int × (List ByteArray) × Bool × Int × (List Tollbarref07S) × ByteArray × Int × Int × Int × Int × (List ByteArray) × Bool × Int × (List Tollbarref07S)) → Option (Bool)) (rec : (Int × ByteArray × Int × Int × Int × Int × (List ByteArray) × Bool × Int × (List Tollbarref07S) × ByteArray × Int × Int × Int × Int × (List ByteArray) × Bool × Int × (List Tollbarref07S)) → Option ((ByteArray × Int × Int × Int × Int × (List ByteArray) × Bool × Int × (List Tollbarref07S) × ByteArray × Int × Int × Int × Int × (List ByteArray) × Bool × Int × (List Tollbarref07S)) ⊕ (Bool))) (a0 : Int) (a1 : ByteArray) (a2 : Int) (a3 : Int) (a4 : Int) (a5 : Int) (a6 : List ByteArray) (a7 : Bool) (a8 : Int) (a9 : List Tollbarref07S) (a10 : ByteArray) (a11 : Int) (a12 : Int) (a13 : Int) (a14 : Int) (a15 : List ByteArray) (a16 : Bool) (a17 : Int) (a18 : List Tollbarref07S) : Option ((ByteArray × Int × Int × Int × Int × (List ByteArray) × Bool × Int × (List Tollbarref07S) × ByteArray × Int × Int × Int × Int × (List ByteArray) × Bool × Int × (List Tollbarref07S)) ⊕ (Bool)) :=
  bif (decide (a0 < (((List.length a6) : Nat) : Int))) then
    bif (decide ((0 : Int) ≤ a0)) then
      Option.bind (a6[(Int.toNat a0)]?) fun x0 =>
        bif (decide ((0 : Int) ≤ a0)) then
          Option.bind (a15[(Int.toNat a0)]?) fun x1 =>
            bif (!(Ev.seq x0 x1)) then
              some (.inr Bool.false)
            else
              rec ((Go.IntKind.wrap Go.IntKind.i64 (a0 + (1 : Int))), a1, a2, a3, a4, a5, a6, a7, a8, a9, a10, a11, a12, a13, a14, a15, a16, a17, a18)
        else
          none
    else
      none
  else
    some (.inl (a1, a2, a3, a4, a5, a6, a7, a8, a9, a10, a11, a12, a13, a14, a15, a16, a17, a18))
def tollbarref07_Same_6.l2 (κ : Nat) (rec_tollbarref07_Same_6 : (ByteArray × Int × Int × Int × Int × (List ByteArray) × Bool × Int × (List Tollbarref07S) × ByteArray × Int × Int × Int × Int × (List ByteArray) × Bool × Int × (List Tollbarref07S)) → Option (Bool)) : Nat → (Int × ByteArray × Int × Int × Int × Int × (List ByteArray) × Bool × Int × (List Tollbarref07S) × ByteArray × Int × Int × Int × Int × (List ByteArray) × Bool × Int × (List Tollbarref07S)) → Option ((ByteArray × Int × Int × Int × Int × (List ByteArray) × Bool × Int × (List Tollbarref07S) × ByteArray × Int × Int × Int × Int × (List ByteArray) × Bool × Int × (List Tollbarref07S)) ⊕ (Bool))
  | 0, _ => none
  | k + 1, (a0, a1, a2, a3, a4, a5, a6, a7, a8, a9, a10, a11, a12, a13, a14, a15, a16, a17, a18) => tollbarref07_Same_6.w2 κ rec_tollbarref07_Same_6 (tollbarref07_Same_6.l2 κ rec_tollbarref07_Same_6 k) a0 a1 a2 a3 a4 a5 a6 a7 a8 a9 a10 a11 a12 a13 a14 a15 a16 a17 a18
def tollbarref07_Same_6.w4 (κ : Nat) (rec_tollbarref07_Same_6 : (ByteArray × Int × Int × Int × Int × (List ByteArray) × Bool × Int × (List Tollbarref07S) × ByteArray × Int × Int × Int × Int × (List ByteArray) × Bool × Int × (List Tollbarref07S)) → Option (Bool)) (rec : (Int × ByteArray × Int × Int × Int × Int × (List ByteArray) × Bool × Int × (List Tollbarref07S) × ByteArray × Int × Int × Int × Int × (List ByteArray) × Bool × Int × (List Tollbarref07S)) → Option ((Unit) ⊕ (Bool))) (a0 : Int) (a1 : ByteArray) (a2 : Int) (a3 : Int) (a4 : Int) (a5 : Int) (a6 : List ByteArray) (a7 : Bool) (a8 : Int) (a9 : List Tollbarref07S) (a10 : ByteArray) (a11 : Int) (a12 : Int) (a13 : Int) (a14 : Int) (a15 : List ByteArray) (a16 : Bool) (a17 : Int) (a18 : List Tollbarref07S) : Option ((Unit) ⊕ (Bool)) :=
  bif (decide (a0 < (((List.length a9) : Nat) : Int))) then
    bif (decide ((0 : Int) ≤ a0)) then
      Option.bind (a9[(Int.toNat a0)]?) fun x0 =>
        bif (decide ((0 : Int) ≤ a0)) then
          Option.bind (a18[(Int.toNat a0)]?) fun x1 =>
            Option.bind (rec_tollbarref07_Same_6 (Prod.mk (Ev.Seat.Tollbarref07S.name x0) (Prod.mk (Ev.Seat.Tollbarref07S.kind x0) (Prod.mk (Ev.Seat.Tollbarref07S.type_ x0) (Prod.mk (Ev.Seat.Tollbarref07S.min x0) (Prod.mk (Ev.Seat.Tollbarref07S.max x0) (Prod.mk (Ev.Seat.Tollbarref07S.names x0) (Prod.mk (Ev.Seat.Tollbarref07S.must x0) (Prod.mk (Ev.Seat.Tollbarref07S.most x0) (Prod.mk (Ev.Seat.Tollbarref07S.kids x0) (Prod.mk (Ev.Seat.Tollbarref07S.name x1) (Prod.mk (Ev.Seat.Tollbarref07S.kind x1) (Prod.mk (Ev.Seat.Tollbarref07S.type_ x1) (Prod.mk (Ev.Seat.Tollbarref07S.min x1) (Prod.mk (Ev.Seat.Tollbarref07S.max x1) (Prod.mk (Ev.Seat.Tollbarref07S.names x1) (Prod.mk (Ev.Seat.Tollbarref07S.must x1) (Prod.mk (Ev.Seat.Tollbarref07S.most x1) (Ev.Seat.Tollbarref07S.kids x1))))))))))))))))))) fun x2 =>
              bif (!x2) then
                some (.inr Bool.false)
              else
                rec ((Go.IntKind.wrap Go.IntKind.i64 (a0 + (1 : Int))), a1, a2, a3, a4, a5, a6, a7, a8, a9, a10, a11, a12, a13, a14, a15, a16, a17, a18)
        else
          none
    else
      none
  else
    some (.inl ())
def tollbarref07_Same_6.l4 (κ : Nat) (rec_tollbarref07_Same_6 : (ByteArray × Int × Int × Int × Int × (List ByteArray) × Bool × Int × (List Tollbarref07S) × ByteArray × Int × Int × Int × Int × (List ByteArray) × Bool × Int × (List Tollbarref07S)) → Option (Bool)) : Nat → (Int × ByteArray × Int × Int × Int × Int × (List ByteArray) × Bool × Int × (List Tollbarref07S) × ByteArray × Int × Int × Int × Int × (List ByteArray) × Bool × Int × (List Tollbarref07S)) → Option ((Unit) ⊕ (Bool))
  | 0, _ => none
  | k + 1, (a0, a1, a2, a3, a4, a5, a6, a7, a8, a9, a10, a11, a12, a13, a14, a15, a16, a17, a18) => tollbarref07_Same_6.w4 κ rec_tollbarref07_Same_6 (tollbarref07_Same_6.l4 κ rec_tollbarref07_Same_6 k) a0 a1 a2 a3 a4 a5 a6 a7 a8 a9 a10 a11 a12 a13 a14 a15 a16 a17 a18
def tollbarref07_Same_6.b (κ : Nat) (rec_tollbarref07_Same_6 : (ByteArray × Int × Int × Int × Int × (List ByteArray) × Bool × Int × (List Tollbarref07S) × ByteArray × Int × Int × Int × Int × (List ByteArray) × Bool × Int × (List Tollbarref07S)) → Option (Bool)) (a0 : ByteArray) (a1 : Int) (a2 : Int) (a3 : Int) (a4 : Int) (a5 : List ByteArray) (a6 : Bool) (a7 : Int) (a8 : List Tollbarref07S) (a9 : ByteArray) (a10 : Int) (a11 : Int) (a12 : Int) (a13 : Int) (a14 : List ByteArray) (a15 : Bool) (a16 : Int) (a17 : List Tollbarref07S) : Option (Bool) :=
  Option.bind (Ev.Seat.tollbarref07_Same_6.v0 κ rec_tollbarref07_Same_6 a0 a1 a2 a3 a4 a5 a6 a7 a8 a9 a10 a11 a12 a13 a14 a15 a16 a17) fun x0 =>
    bif (x0).fst then
      some Bool.false
    else
      Option.bind (Ev.Seat.tollbarref07_Same_6.l2 κ rec_tollbarref07_Same_6 κ (Prod.mk (0 : Int) (Prod.mk ((x0).snd).fst (Prod.mk (((x0).snd).snd).fst (Prod.mk ((((x0).snd).snd).snd).fst (Prod.mk (((((x0).snd).snd).snd).snd).fst (Prod.mk ((((((x0).snd).snd).snd).snd).snd).fst (Prod.mk (((((((x0).snd).snd).snd).snd).snd).snd).fst (Prod.mk ((((((((x0).snd).snd).snd).snd).snd).snd).snd).fst (Prod.mk (((((((((x0).snd).snd).snd).snd).snd).snd).snd).snd).fst (Prod.mk ((((((((((x0).snd).snd).snd).snd).snd).snd).snd).snd).snd).fst (Prod.mk (((((((((((x0).snd).snd).snd).snd).snd).snd).snd).snd).snd).snd).fst (Prod.mk ((((((((((((x0).snd).snd).snd).snd).snd).snd).snd).snd).snd).snd).snd).fst (Prod.mk (((((((((((((x0).snd).snd).snd).snd).snd).snd).snd).snd).snd).snd).snd).snd).fst (Prod.mk ((((((((((((((x0).snd).snd).snd).snd).snd).snd).snd).snd).snd).snd).snd).snd).snd).fst (Prod.mk (((((((((((((((x0).snd).snd).snd).snd).snd).snd).snd).snd).snd).snd).snd).snd).snd).snd).fst (Prod.mk ((((((((((((((((x0).snd).snd).snd).snd).snd).snd).snd).snd).snd).snd).snd).snd).snd).snd).snd).fst (Prod.mk (((((((((((((((((x0).snd).snd).snd).snd).snd).snd).snd).snd).snd).snd).snd).snd).snd).snd).snd).snd).fst (Prod.mk ((((((((((((((((((x0).snd).snd).snd).snd).snd).snd).snd).snd).snd).snd).snd).snd).snd).snd).snd).snd).snd).fst ((((((((((((((((((x0).snd).snd).snd).snd).snd).snd).snd).snd).snd).snd).snd).snd).snd).snd).snd).snd).snd).snd))))))))))))))))))) fun x1 =>
        match x1 with
        | .inl x2 =>
          Option.bind (Ev.Seat.tollbarref07_Same_6.l4 κ rec_tollbarref07_Same_6 κ (Prod.mk (0 : Int) (Prod.mk (x2).fst (Prod.mk ((x2).snd).fst (Prod.mk (((x2).snd).snd).fst (Prod.mk ((((x2).snd).snd).snd).fst (Prod.mk (((((x2).snd).snd).snd).snd).fst (Prod.mk ((((((x2).snd).snd).snd).snd).snd).fst (Prod.mk (((((((x2).snd).snd).snd).snd).snd).snd).fst (Prod.mk ((((((((x2).snd).snd).snd).snd).snd).snd).snd).fst (Prod.mk (((((((((x2).snd).snd).snd).snd).snd).snd).snd).snd).fst (Prod.mk ((((((((((x2).snd).snd).snd).snd).snd).snd).snd).snd).snd).fst (Prod.mk (((((((((((x2).snd).snd).snd).snd).snd).snd).snd).snd).snd).snd).fst (Prod.mk ((((((((((((x2).snd).snd).snd).snd).snd).snd).snd).snd).snd).snd).snd).fst (Prod.mk (((((((((((((x2).snd).snd).snd).snd).snd).snd).snd).snd).snd).snd).snd).snd).fst (Prod.mk ((((((((((((((x2).snd).snd).snd).snd).snd).snd).snd).snd).snd).snd).snd).snd).snd).fst (Prod.mk (((((((((((((((x2).snd).snd).snd).snd).snd).snd).snd).snd).snd).snd).snd).snd).snd).snd).fst (Prod.mk ((((((((((((((((x2).snd).snd).snd).snd).snd).snd).snd).snd).snd).snd).snd).snd).snd).snd).snd).fst (Prod.mk (((((((((((((((((x2).snd).snd).snd).snd).snd).snd).snd).snd).snd).snd).snd).snd).snd).snd).snd).snd).fst (((((((((((((((((x2).snd).snd).snd).snd).snd).snd).snd).snd).snd).snd).snd).snd).snd).snd).snd).snd).snd))))))))))))))))))) fun x3 =>
            match x3 with
            | .inl x4 =>
              some Bool.true
            | .inr x5 =>
              some x5
        | .inr x6 =>
          some x6
def tollbarref07_Same_6.r (κ : Nat) : Nat → (ByteArray × Int × Int × Int × Int × (List ByteArray) × Bool × Int × (List Tollbarref07S) × ByteArray × Int × Int × Int × Int × (List ByteArray) × Bool × Int × (List Tollbarref07S)) → Option (Bool)
  | 0 => fun _ => none
  | k + 1 => fun (a0, a1, a2, a3, a4, a5, a6, a7, a8, a9, a10, a11, a12, a13, a14, a15, a16, a17) => tollbarref07_Same_6.b κ (tollbarref07_Same_6.r κ k) a0 a1 a2 a3 a4 a5 a6 a7 a8 a9 a10 a11 a12 a13 a14 a15 a16 a17
def tollbarref07_Same_6 (κ : Nat) (a0 : ByteArray) (a1 : Int) (a2 : Int) (a3 : Int) (a4 : Int) (a5 : List ByteArray) (a6 : Bool) (a7 : Int) (a8 : List Tollbarref07S) (a9 : ByteArray) (a10 : Int) (a11 : Int) (a12 : Int) (a13 : Int) (a14 : List ByteArray) (a15 : Bool) (a16 : Int) (a17 : List Tollbarref07S) : Option (Bool) := tollbarref07_Same_6.r κ κ (a0, a1, a2, a3, a4, a5, a6, a7, a8, a9, a10, a11, a12, a13, a14, a15, a16, a17)
def tollbarlaw15_PathFronts.v0 (κ : Nat) (a0 : Int) (a1 : List ApiStep) : Option (Int × (List ApiStep) × Bool) :=
  bif ((((List.length a1) : Nat) : Int) == (0 : Int)) then
    some (a0, a1, Bool.true)
  else
    some (a0, a1, (decide ((((List.length a1) : Nat) : Int) > (20 : Int))))
def tollbarlaw15_PathFronts.v2 (κ : Nat) (a0 : Int) (a1 : Int) (a2 : ByteArray) (a3 : Int) (a4 : Int) (a5 : Int) (a6 : Int) (a7 : List ByteArray) (a8 : Bool) (a9 : Int) (a10 : List SpecSpec) (a11 : ByteArray) (a12 : Int) (a13 : Int) (a14 : Int) (a15 : Int) (a16 : List ByteArray) (a17 : Bool) (a18 : Int) (a19 : List SpecSpec) : Option (Bool) :=
  bif (a0 == a1) then
    some ((Go.IntKind.wrap Go.IntKind.i64 ((((List.length a10) : Nat) : Int) + (((List.length a19) : Nat) : Int))) == (0 : Int))
  else
    some Bool.false
def tollbarlaw15_PathFronts.v4 (κ : Nat) (a0 : List ApiStep) (a1 : Int) (a2 : Int) (a3 : Bool) (a4 : ByteArray) (a5 : Int) (a6 : Int) (a7 : Int) (a8 : Int) (a9 : List ByteArray) (a10 : Bool) (a11 : Int) (a12 : List SpecSpec) (a13 : ByteArray) (a14 : Int) (a15 : Int) (a16 : Int) (a17 : Int) (a18 : List ByteArray) (a19 : Bool) (a20 : Int) (a21 : List SpecSpec) : Option (Bool) :=
  bif (decide ((0 : Int) ≤ a2)) then
    Option.bind (a12[(Int.toNat a2)]?) fun x0 =>
      Option.bind (Ev.Seat.tollbarlaw15_plain_4 κ a13 a14 a15 a16 a17 a18 a19 a20 a21) fun x1 =>
        match x1 with
        | .inl x2 =>
          Option.bind (Ev.Seat.tollbarlaw15_plain_4 κ (Ev.Seat.SpecSpec.name x0) (Ev.Seat.SpecSpec.kind x0) (Ev.Seat.SpecSpec.type_ x0) (Ev.Seat.SpecSpec.min x0) (Ev.Seat.SpecSpec.max x0) (Ev.Seat.SpecSpec.names x0) (Ev.Seat.SpecSpec.must x0) (Ev.Seat.SpecSpec.most x0) (Ev.Seat.SpecSpec.kids x0)) fun x3 =>
            match x3 with
            | .inl x4 =>
              Option.bind (Ev.Seat.tollbarref07_Same κ (x2).fst ((x2).snd).fst (((x2).snd).snd).fst ((((x2).snd).snd).snd).fst (((((x2).snd).snd).snd).snd).fst ((((((x2).snd).snd).snd).snd).snd).fst (((((((x2).snd).snd).snd).snd).snd).snd).fst (((((((x2).snd).snd).snd).snd).snd).snd).snd (x4).fst ((x4).snd).fst (((x4).snd).snd).fst ((((x4).snd).snd).snd).fst (((((x4).snd).snd).snd).snd).fst ((((((x4).snd).snd).snd).snd).snd).fst (((((((x4).snd).snd).snd).snd).snd).snd).fst (((((((x4).snd).snd).snd).snd).snd).snd).snd) fun x5 =>
                bif x5 then
                  bif (decide ((0 : Int) ≤ a1)) then
                    Option.bind (a0[(Int.toNat a1)]?) fun x6 =>
                      some (a3 == (!(Ev.seq (Ev.Seat.ApiStep.key x6) (ByteArray.mk (List.toArray [])))))
                  else
                    none
                else
                  some Bool.false
            | .inr x7 =>
              Option.bind (Ev.Seat.tollbarref07_Same_2 κ (x2).fst ((x2).snd).fst (((x2).snd).snd).fst ((((x2).snd).snd).snd).fst (((((x2).snd).snd).snd).snd).fst ((((((x2).snd).snd).snd).snd).snd).fst (((((((x2).snd).snd).snd).snd).snd).snd).fst (((((((x2).snd).snd).snd).snd).snd).snd).snd (x7).fst ((x7).snd).fst (((x7).snd).snd).fst ((((x7).snd).snd).snd).fst (((((x7).snd).snd).snd).snd).fst ((((((x7).snd).snd).snd).snd).snd).fst (((((((x7).snd).snd).snd).snd).snd).snd).fst ((((((((x7).snd).snd).snd).snd).snd).snd).snd).fst ((((((((x7).snd).snd).snd).snd).snd).snd).snd).snd) fun x8 =>
                bif x8 then
                  bif (decide ((0 : Int) ≤ a1)) then
                    Option.bind (a0[(Int.toNat a1)]?) fun x9 =>
                      some (a3 == (!(Ev.seq (Ev.Seat.ApiStep.key x9) (ByteArray.mk (List.toArray [])))))
                  else
                    none
                else
                  some Bool.false
        | .inr x10 =>
          Option.bind (Ev.Seat.tollbarlaw15_plain_4 κ (Ev.Seat.SpecSpec.name x0) (Ev.Seat.SpecSpec.kind x0) (Ev.Seat.SpecSpec.type_ x0) (Ev.Seat.SpecSpec.min x0) (Ev.Seat.SpecSpec.max x0) (Ev.Seat.SpecSpec.names x0) (Ev.Seat.SpecSpec.must x0) (Ev.Seat.SpecSpec.most x0) (Ev.Seat.SpecSpec.kids x0)) fun x11 =>
            match x11 with
            | .inl x12 =>
              Option.bind (Ev.Seat.tollbarref07_Same_3 κ (x10).fst ((x10).snd).fst (((x10).snd).snd).fst ((((x10).snd).snd).snd).fst (((((x10).snd).snd).snd).snd).fst ((((((x10).snd).snd).snd).snd).snd).fst (((((((x10).snd).snd).snd).snd).snd).snd).fst ((((((((x10).snd).snd).snd).snd).snd).snd).snd).fst ((((((((x10).snd).snd).snd).snd).snd).snd).snd).snd (x12).fst ((x12).snd).fst (((x12).snd).snd).fst ((((x12).snd).snd).snd).fst (((((x12).snd).snd).snd).snd).fst ((((((x12).snd).snd).snd).snd).snd).fst (((((((x12).snd).snd).snd).snd).snd).snd).fst (((((((x12).snd).snd).snd).snd).snd).snd).snd) fun x13 =>
                bif x13 then
                  bif (decide ((0 : Int) ≤ a1)) then
                    Option.bind (a0[(Int.toNat a1)]?) fun x14 =>
                      some (a3 == (!(Ev.seq (Ev.Seat.ApiStep.key x14) (ByteArray.mk (List.toArray [])))))
                  else
                    none
                else
                  some Bool.false
            | .inr x15 =>
              Option.bind (Ev.Seat.tollbarref07_Same_6 κ (x10).fst ((x10).snd).fst (((x10).snd).snd).fst ((((x10).snd).snd).snd).fst (((((x10).snd).snd).snd).snd).fst ((((((x10).snd).snd).snd).snd).snd).fst (((((((x10).snd).snd).snd).snd).snd).snd).fst ((((((((x10).snd).snd).snd).snd).snd).snd).snd).fst ((((((((x10).snd).snd).snd).snd).snd).snd).snd).snd (x15).fst ((x15).snd).fst (((x15).snd).snd).fst ((((x15).snd).snd).snd).fst (((((x15).snd).snd).snd).snd).fst ((((((x15).snd).snd).snd).snd).snd).fst (((((((x15).snd).snd).snd).snd).snd).snd).fst ((((((((x15).snd).snd).snd).snd).snd).snd).snd).fst ((((((((x15).snd).snd).snd).snd).snd).snd).snd).snd) fun x16 =>
                bif x16 then
                  bif (decide ((0 : Int) ≤ a1)) then
                    Option.bind (a0[(Int.toNat a1)]?) fun x17 =>
                      some (a3 == (!(Ev.seq (Ev.Seat.ApiStep.key x17) (ByteArray.mk (List.toArray [])))))
                  else
                    none
                else
                  some Bool.false
  else
    none
def tollbarlaw15_PathFronts.v6 (κ : Nat) (a0 : List ApiStep) (a1 : Int) (a2 : Int) (a3 : Bool) : Option (Bool) :=
  bif (a2 == (23 : Int)) then
    bif (!a3) then
      some Bool.true
    else
      bif (decide ((0 : Int) ≤ a1)) then
        Option.bind (a0[(Int.toNat a1)]?) fun x0 =>
          bif (Ev.seq (Ev.Seat.ApiStep.key x0) (ByteArray.mk (List.toArray []))) then
            some Bool.true
          else
            Option.bind (Ev.Seat.path_Show κ a0) fun x1 =>
              some (Ev.seq x1 (ByteArray.mk (List.toArray [])))
      else
        none
  else
    some Bool.false
def tollbarlaw15_PathFronts (κ : Nat) (a0 : Int) (a1 : List ApiStep) : Option (Bool) :=
  Option.bind (Ev.Seat.tollbarlaw15_awake κ) fun x0 =>
    bif (!x0) then
      some Bool.false
    else
      Option.bind (Ev.Seat.tollbarlaw15_PathFronts.v0 κ a0 a1) fun x1 =>
        bif ((x1).snd).snd then
          some Bool.true
        else
          bif ((((decide ((0 : Int) ≤ (Go.IntKind.wrap Go.IntKind.i64 ((((List.length ((x1).snd).fst) : Nat) : Int) - (1 : Int))))) && (decide ((Go.IntKind.wrap Go.IntKind.i64 ((((List.length ((x1).snd).fst) : Nat) : Int) - (1 : Int))) ≤ (((List.length ((x1).snd).fst) : Nat) : Int)))) && (decide ((0 : Int) ≤ (0 : Int)))) && (decide ((0 : Int) ≤ (Go.IntKind.wrap Go.IntKind.i64 ((((List.length ((x1).snd).fst) : Nat) : Int) - (1 : Int)))))) then
            Option.bind (Ev.Seat.path_At κ (x1).fst (List.drop (Int.toNat (0 : Int)) (List.take (Int.toNat (Go.IntKind.wrap Go.IntKind.i64 ((((List.length ((x1).snd).fst) : Nat) : Int) - (1 : Int)))) ((x1).snd).fst))) fun x2 =>
              Option.bind (Ev.Seat.path_At κ (x1).fst ((x1).snd).fst) fun x3 =>
                bif ((((((((((x2).snd).snd).snd).snd).snd).snd).snd).snd).snd != (0 : Int)) then
                  Option.bind (Ev.Seat.tollbarlaw15_PathFronts.v2 κ (((((((((x2).snd).snd).snd).snd).snd).snd).snd).snd).snd (((((((((x3).snd).snd).snd).snd).snd).snd).snd).snd).snd (x2).fst ((x2).snd).fst (((x2).snd).snd).fst ((((x2).snd).snd).snd).fst (((((x2).snd).snd).snd).snd).fst ((((((x2).snd).snd).snd).snd).snd).fst (((((((x2).snd).snd).snd).snd).snd).snd).fst ((((((((x2).snd).snd).snd).snd).snd).snd).snd).fst (((((((((x2).snd).snd).snd).snd).snd).snd).snd).snd).fst (x3).fst ((x3).snd).fst (((x3).snd).snd).fst ((((x3).snd).snd).snd).fst (((((x3).snd).snd).snd).snd).fst ((((((x3).snd).snd).snd).snd).snd).fst (((((((x3).snd).snd).snd).snd).snd).snd).fst ((((((((x3).snd).snd).snd).snd).snd).snd).snd).fst (((((((((x3).snd).snd).snd).snd).snd).snd).snd).snd).fst) fun x9 =>
                    some x9
                else
                  bif (decide ((0 : Int) ≤ (Go.IntKind.wrap Go.IntKind.i64 ((((List.length ((x1).snd).fst) : Nat) : Int) - (1 : Int))))) then
                    Option.bind (((x1).snd).fst[(Int.toNat (Go.IntKind.wrap Go.IntKind.i64 ((((List.length ((x1).snd).fst) : Nat) : Int) - (1 : Int))))]?) fun x4 =>
                      Option.bind (Ev.Seat.spec_Find κ (x2).fst ((x2).snd).fst (((x2).snd).snd).fst ((((x2).snd).snd).snd).fst (((((x2).snd).snd).snd).snd).fst ((((((x2).snd).snd).snd).snd).snd).fst (((((((x2).snd).snd).snd).snd).snd).snd).fst ((((((((x2).snd).snd).snd).snd).snd).snd).snd).fst (((((((((x2).snd).snd).snd).snd).snd).snd).snd).snd).fst (Ev.Seat.ApiStep.name x4)) fun x5 =>
                        bif (decide (x5 < (0 : Int))) then
                          some ((((((((((x3).snd).snd).snd).snd).snd).snd).snd).snd).snd == (22 : Int))
                        else
                          bif (decide ((0 : Int) ≤ x5)) then
                            Option.bind ((((((((((x2).snd).snd).snd).snd).snd).snd).snd).snd).fst[(Int.toNat x5)]?) fun x6 =>
                              bif ((((((((((x3).snd).snd).snd).snd).snd).snd).snd).snd).snd == (0 : Int)) then
                                Option.bind (Ev.Seat.tollbarlaw15_PathFronts.v4 κ ((x1).snd).fst (Go.IntKind.wrap Go.IntKind.i64 ((((List.length ((x1).snd).fst) : Nat) : Int) - (1 : Int))) x5 ((Ev.Seat.SpecSpec.kind x6) == (3 : Int)) (x2).fst ((x2).snd).fst (((x2).snd).snd).fst ((((x2).snd).snd).snd).fst (((((x2).snd).snd).snd).snd).fst ((((((x2).snd).snd).snd).snd).snd).fst (((((((x2).snd).snd).snd).snd).snd).snd).fst ((((((((x2).snd).snd).snd).snd).snd).snd).snd).fst (((((((((x2).snd).snd).snd).snd).snd).snd).snd).snd).fst (x3).fst ((x3).snd).fst (((x3).snd).snd).fst ((((x3).snd).snd).snd).fst (((((x3).snd).snd).snd).snd).fst ((((((x3).snd).snd).snd).snd).snd).fst (((((((x3).snd).snd).snd).snd).snd).snd).fst ((((((((x3).snd).snd).snd).snd).snd).snd).snd).fst (((((((((x3).snd).snd).snd).snd).snd).snd).snd).snd).fst) fun x8 =>
                                  some x8
                              else
                                Option.bind (Ev.Seat.tollbarlaw15_PathFronts.v6 κ ((x1).snd).fst (Go.IntKind.wrap Go.IntKind.i64 ((((List.length ((x1).snd).fst) : Nat) : Int) - (1 : Int))) (((((((((x3).snd).snd).snd).snd).snd).snd).snd).snd).snd ((Ev.Seat.SpecSpec.kind x6) == (3 : Int))) fun x7 =>
                                  some x7
                          else
                            none
                  else
                    none
          else
            none
def tollbarref07_num (κ : Nat) (a0 : ByteArray) (a1 : Int) (a2 : Int) (a3 : Int) : Option (ByteArray × Int × Int × Int × Int × Bool × Int) :=
  some (a0, (1 : Int), a1, a2, a3, Bool.true, (0 : Int))
def tollbarref07_class.v0 (κ : Nat) (a0 : Int) (a1 : Bool) (a2 : List Tollbarref07S) : Option (Int × (List Tollbarref07S)) :=
  bif a1 then
    bif (Nat.ble ((List.length a2) + (List.length ((Ev.Seat.Tollbarref07S.mk (ByteArray.mk (List.toArray ((108 : UInt8) :: ((105 : UInt8) :: ((109 : UInt8) :: ((105 : UInt8) :: ((116 : UInt8) :: []))))))) (1 : Int) (1 : Int) (1 : Int) (64 : Int) [] Bool.true (0 : Int) []) :: []))) (Ev.room (111 + 1))) then
      some (a0, (a2 ++ ((Ev.Seat.Tollbarref07S.mk (ByteArray.mk (List.toArray ((108 : UInt8) :: ((105 : UInt8) :: ((109 : UInt8) :: ((105 : UInt8) :: ((116 : UInt8) :: []))))))) (1 : Int) (1 : Int) (1 : Int) (64 : Int) [] Bool.true (0 : Int) []) :: [])))
    else
      none
  else
    bif (Nat.ble ((List.length a2) + (List.length ((Ev.Seat.Tollbarref07S.mk (ByteArray.mk (List.toArray ((100 : UInt8) :: ((101 : UInt8) :: ((112 : UInt8) :: ((116 : UInt8) :: ((104 : UInt8) :: []))))))) (1 : Int) (1 : Int) (1 : Int) (64 : Int) [] Bool.true (0 : Int) []) :: []))) (Ev.room (111 + 1))) then
      some (a0, (a2 ++ ((Ev.Seat.Tollbarref07S.mk (ByteArray.mk (List.toArray ((100 : UInt8) :: ((101 : UInt8) :: ((112 : UInt8) :: ((116 : UInt8) :: ((104 : UInt8) :: []))))))) (1 : Int) (1 : Int) (1 : Int) (64 : Int) [] Bool.true (0 : Int) []) :: [])))
    else
      none
def tollbarref07_class.v2 (κ : Nat) (a0 : Bool) (a1 : List Tollbarref07S) : Option ((List Tollbarref07S)) :=
  bif a0 then
    bif (Nat.ble ((List.length a1) + (List.length ((Ev.Seat.Tollbarref07S.mk (ByteArray.mk (List.toArray ((115 : UInt8) :: ((104 : UInt8) :: ((97 : UInt8) :: ((112 : UInt8) :: ((101 : UInt8) :: ((100 : UInt8) :: [])))))))) (1 : Int) (3 : Int) (0 : Int) (0 : Int) [] Bool.true (0 : Int) []) :: []))) (Ev.room (111 + 1))) then
      some (a1 ++ ((Ev.Seat.Tollbarref07S.mk (ByteArray.mk (List.toArray ((115 : UInt8) :: ((104 : UInt8) :: ((97 : UInt8) :: ((112 : UInt8) :: ((101 : UInt8) :: ((100 : UInt8) :: [])))))))) (1 : Int) (3 : Int) (0 : Int) (0 : Int) [] Bool.true (0 : Int) []) :: []))
    else
      none
  else
    some a1
def tollbarref07_class (κ : Nat) (a0 : Int) : Option ((List Tollbarref07S)) :=
  Option.bind (Ev.Seat.tollbarref07_class.v0 κ a0 (decide (a0 < (3 : Int))) ((Ev.Seat.Tollbarref07S.mk (ByteArray.mk (List.toArray ((113 : UInt8) :: ((117 : UInt8) :: ((97 : UInt8) :: ((110 : UInt8) :: ((116 : UInt8) :: ((117 : UInt8) :: ((109 : UInt8) :: []))))))))) (1 : Int) (1 : Int) (1500 : Int) (100000 : Int) [] Bool.true (0 : Int) []) :: ((Ev.Seat.Tollbarref07S.mk (ByteArray.mk (List.toArray ((114 : UInt8) :: ((97 : UInt8) :: ((116 : UInt8) :: ((101 : UInt8) :: [])))))) (1 : Int) (2 : Int) (0 : Int) (1000000 : Int) [] Bool.true (0 : Int) []) :: ((Ev.Seat.Tollbarref07S.mk (ByteArray.mk (List.toArray ((98 : UInt8) :: ((117 : UInt8) :: ((114 : UInt8) :: ((115 : UInt8) :: ((116 : UInt8) :: []))))))) (1 : Int) (1 : Int) (1500 : Int) (1000000 : Int) [] Bool.true (0 : Int) []) :: [])))) fun x0 =>
    Option.bind (Ev.Seat.tollbarref07_class.v2 κ (decide ((x0).fst > (1 : Int))) (x0).snd) fun x1 =>
      some x1
def tollbarref07_Root.v0 (κ : Nat) (a0 : Int) (a1 : ByteArray) (a2 : Int) (a3 : Int) (a4 : Int) (a5 : Int) (a6 : Bool) (a7 : Int) : Option (Int × Bool × ByteArray × Int × Int × Int × Int × Bool × Int) :=
  bif (decide (a0 < (1 : Int))) then
    some (a0, Bool.true, a1, a2, a3, a4, a5, a6, a7)
  else
    some (a0, (decide (a0 > (3 : Int))), a1, a2, a3, a4, a5, a6, a7)
def tollbarref07_Root.v2 (κ : Nat) (a0 : Int) (a1 : Bool) (a2 : ByteArray) (a3 : Int) (a4 : Int) (a5 : Int) (a6 : Int) (a7 : Bool) (a8 : Int) (a9 : List Tollbarref07S) : Option (Int × ByteArray × Int × Int × Int × Int × Bool × Int × (List Tollbarref07S)) :=
  bif a1 then
    bif (Nat.ble ((List.length a9) + (List.length ((Ev.Seat.Tollbarref07S.mk (ByteArray.mk (List.toArray ((107 : UInt8) :: ((105 : UInt8) :: ((110 : UInt8) :: ((100 : UInt8) :: [])))))) (1 : Int) (4 : Int) (0 : Int) (0 : Int) ((ByteArray.mk (List.toArray ((101 : UInt8) :: ((100 : UInt8) :: ((103 : UInt8) :: ((101 : UInt8) :: [])))))) :: ((ByteArray.mk (List.toArray ((99 : UInt8) :: ((111 : UInt8) :: ((114 : UInt8) :: ((101 : UInt8) :: [])))))) :: ((ByteArray.mk (List.toArray ((108 : UInt8) :: ((97 : UInt8) :: ((98 : UInt8) :: []))))) :: []))) Bool.false (0 : Int) []) :: []))) (Ev.room (111 + 1))) then
      some (a0, a2, a3, a4, a5, a6, a7, a8, (a9 ++ ((Ev.Seat.Tollbarref07S.mk (ByteArray.mk (List.toArray ((107 : UInt8) :: ((105 : UInt8) :: ((110 : UInt8) :: ((100 : UInt8) :: [])))))) (1 : Int) (4 : Int) (0 : Int) (0 : Int) ((ByteArray.mk (List.toArray ((101 : UInt8) :: ((100 : UInt8) :: ((103 : UInt8) :: ((101 : UInt8) :: [])))))) :: ((ByteArray.mk (List.toArray ((99 : UInt8) :: ((111 : UInt8) :: ((114 : UInt8) :: ((101 : UInt8) :: [])))))) :: ((ByteArray.mk (List.toArray ((108 : UInt8) :: ((97 : UInt8) :: ((98 : UInt8) :: []))))) :: []))) Bool.false (0 : Int) []) :: [])))
    else
      none
  else
    some (a0, a2, a3, a4, a5, a6, a7, a8, a9)
def tollbarref07_Root.v4 (κ : Nat) (a0 : Bool) (a1 : ByteArray) (a2 : Int) (a3 : Int) (a4 : Int) (a5 : Int) (a6 : Bool) (a7 : Int) (a8 : List Tollbarref07S) : Option (ByteArray × Int × Int × Int × Int × Bool × Int × (List Tollbarref07S)) :=
  bif a0 then
    bif (Nat.ble ((List.length a8) + (List.length ((Ev.Seat.Tollbarref07S.mk (ByteArray.mk (List.toArray ((119 : UInt8) :: ((97 : UInt8) :: ((105 : UInt8) :: ((116 : UInt8) :: [])))))) (1 : Int) (1 : Int) (1 : Int) (1000 : Int) [] Bool.false (0 : Int) []) :: []))) (Ev.room (111 + 1))) then
      some (a1, a2, a3, a4, a5, a6, a7, (a8 ++ ((Ev.Seat.Tollbarref07S.mk (ByteArray.mk (List.toArray ((119 : UInt8) :: ((97 : UInt8) :: ((105 : UInt8) :: ((116 : UInt8) :: [])))))) (1 : Int) (1 : Int) (1 : Int) (1000 : Int) [] Bool.false (0 : Int) []) :: [])))
    else
      none
  else
    some (a1, a2, a3, a4, a5, a6, a7, a8)
def tollbarref07_Root (κ : Nat) (a0 : Int) : Option (ByteArray × Int × Int × Int × Int × Bool × Int × Int × (List Tollbarref07S)) :=
  Option.bind (Ev.Seat.tollbarref07_Root.v0 κ a0 (ByteArray.mk (List.toArray [])) (0 : Int) (0 : Int) (0 : Int) (0 : Int) Bool.false (0 : Int)) fun x0 =>
    bif ((x0).snd).fst then
      some ((ByteArray.mk (List.toArray [])), (0 : Int), (0 : Int), (0 : Int), (0 : Int), Bool.false, (0 : Int), (28 : Int), [])
    else
      Option.bind (Ev.Seat.tollbarref07_class κ (x0).fst) fun x1 =>
        Option.bind (Ev.Seat.tollbarref07_Root.v2 κ (x0).fst (decide ((x0).fst > (1 : Int))) (((x0).snd).snd).fst ((((x0).snd).snd).snd).fst (((((x0).snd).snd).snd).snd).fst ((((((x0).snd).snd).snd).snd).snd).fst (((((((x0).snd).snd).snd).snd).snd).snd).fst ((((((((x0).snd).snd).snd).snd).snd).snd).snd).fst ((((((((x0).snd).snd).snd).snd).snd).snd).snd).snd ((Ev.Seat.Tollbarref07S.mk (ByteArray.mk (List.toArray ((117 : UInt8) :: ((112 : UInt8) :: [])))) (1 : Int) (3 : Int) (0 : Int) (0 : Int) [] Bool.false (0 : Int) []) :: ((Ev.Seat.Tollbarref07S.mk (ByteArray.mk (List.toArray ((99 : UInt8) :: ((108 : UInt8) :: ((97 : UInt8) :: ((115 : UInt8) :: ((115 : UInt8) :: []))))))) (3 : Int) (0 : Int) (0 : Int) (0 : Int) [] Bool.false (8 : Int) x1) :: ((Ev.Seat.Tollbarref07S.mk (ByteArray.mk (List.toArray ((114 : UInt8) :: ((117 : UInt8) :: ((108 : UInt8) :: ((101 : UInt8) :: [])))))) (3 : Int) (0 : Int) (0 : Int) (0 : Int) [] Bool.false (16 : Int) ((Ev.Seat.Tollbarref07S.mk (ByteArray.mk (List.toArray ((108 : UInt8) :: ((111 : UInt8) :: ((119 : UInt8) :: []))))) (1 : Int) (1 : Int) (0 : Int) (65535 : Int) [] Bool.true (0 : Int) []) :: ((Ev.Seat.Tollbarref07S.mk (ByteArray.mk (List.toArray ((104 : UInt8) :: ((105 : UInt8) :: ((103 : UInt8) :: ((104 : UInt8) :: [])))))) (1 : Int) (1 : Int) (0 : Int) (65535 : Int) [] Bool.true (0 : Int) []) :: ((Ev.Seat.Tollbarref07S.mk (ByteArray.mk (List.toArray ((99 : UInt8) :: ((108 : UInt8) :: ((97 : UInt8) :: ((115 : UInt8) :: ((115 : UInt8) :: []))))))) (1 : Int) (6 : Int) (0 : Int) (0 : Int) [] Bool.true (0 : Int) []) :: [])))) :: ((Ev.Seat.Tollbarref07S.mk (ByteArray.mk (List.toArray ((100 : UInt8) :: ((101 : UInt8) :: ((102 : UInt8) :: ((97 : UInt8) :: ((117 : UInt8) :: ((108 : UInt8) :: ((116 : UInt8) :: []))))))))) (1 : Int) (6 : Int) (0 : Int) (0 : Int) [] Bool.true (0 : Int) []) :: []))))) fun x2 =>
          Option.bind (Ev.Seat.tollbarref07_Root.v4 κ (decide ((x2).fst > (2 : Int))) ((x2).snd).fst (((x2).snd).snd).fst ((((x2).snd).snd).snd).fst (((((x2).snd).snd).snd).snd).fst ((((((x2).snd).snd).snd).snd).snd).fst (((((((x2).snd).snd).snd).snd).snd).snd).fst ((((((((x2).snd).snd).snd).snd).snd).snd).snd).fst ((Ev.Seat.Tollbarref07S.mk (ByteArray.mk (List.toArray ((115 : UInt8) :: ((121 : UInt8) :: ((115 : UInt8) :: ((116 : UInt8) :: ((101 : UInt8) :: ((109 : UInt8) :: [])))))))) (1 : Int) (5 : Int) (0 : Int) (0 : Int) [] Bool.false (0 : Int) []) :: ((Ev.Seat.Tollbarref07S.mk (ByteArray.mk (List.toArray ((112 : UInt8) :: ((111 : UInt8) :: ((114 : UInt8) :: ((116 : UInt8) :: [])))))) (3 : Int) (0 : Int) (0 : Int) (0 : Int) [] Bool.false (4 : Int) ((((((((x2).snd).snd).snd).snd).snd).snd).snd).snd) :: []))) fun x3 =>
            some ((ByteArray.mk (List.toArray [])), (2 : Int), (0 : Int), (0 : Int), (0 : Int), Bool.false, (0 : Int), (0 : Int), (((((((x3).snd).snd).snd).snd).snd).snd).snd)
def tollbarref07_Find.w0 (κ : Nat) (rec : (ByteArray × Int × ByteArray × Int × Int × Int × Int × Bool × Int × (List Tollbarref07S)) → Option ((Unit) ⊕ (Int))) (a0 : ByteArray) (a1 : Int) (a2 : ByteArray) (a3 : Int) (a4 : Int) (a5 : Int) (a6 : Int) (a7 : Bool) (a8 : Int) (a9 : List Tollbarref07S) : Option ((Unit) ⊕ (Int)) :=
  bif (decide (a1 < (((List.length a9) : Nat) : Int))) then
    bif (decide ((0 : Int) ≤ a1)) then
      Option.bind (a9[(Int.toNat a1)]?) fun x0 =>
        bif (Ev.seq (Ev.Seat.Tollbarref07S.name x0) a0) then
          some (.inr a1)
        else
          rec (a0, (Go.IntKind.wrap Go.IntKind.i64 (a1 + (1 : Int))), a2, a3, a4, a5, a6, a7, a8, a9)
    else
      none
  else
    some (.inl ())
def tollbarref07_Find.l0 (κ : Nat) : Nat → (ByteArray × Int × ByteArray × Int × Int × Int × Int × Bool × Int × (List Tollbarref07S)) → Option ((Unit) ⊕ (Int))
  | 0, _ => none
  | k + 1, (a0, a1, a2, a3, a4, a5, a6, a7, a8, a9) => tollbarref07_Find.w0 κ (tollbarref07_Find.l0 κ k) a0 a1 a2 a3 a4 a5 a6 a7 a8 a9
def tollbarref07_Find (κ : Nat) (a0 : ByteArray) (a1 : Int) (a2 : Int) (a3 : Int) (a4 : Int) (a5 : Bool) (a6 : Int) (a7 : List Tollbarref07S) (a8 : ByteArray) : Option (Int) :=
  Option.bind (Ev.Seat.tollbarref07_Find.l0 κ κ (Prod.mk a8 (Prod.mk (0 : Int) (Prod.mk a0 (Prod.mk a1 (Prod.mk a2 (Prod.mk a3 (Prod.mk a4 (Prod.mk a5 (Prod.mk a6 a7)))))))))) fun x0 =>
    match x0 with
    | .inl x1 =>
      some (-(1 : Int))
    | .inr x2 =>
      some x2
def tollbarref06_Ident.v5 (κ : Nat) (a0 : ByteArray) (a1 : Int) : Option (ByteArray × Int × Bool) :=
  bif (decide ((0 : Int) ≤ a1)) then
    Option.bind ((Array.toList (ByteArray.data a0))[(Int.toNat a1)]?) fun x0 =>
      bif (decide ((((UInt8.toNat x0) : Nat) : Int) ≥ (97 : Int))) then
        bif (decide ((0 : Int) ≤ a1)) then
          Option.bind ((Array.toList (ByteArray.data a0))[(Int.toNat a1)]?) fun x1 =>
            some (a0, a1, (decide ((((UInt8.toNat x1) : Nat) : Int) ≤ (122 : Int))))
        else
          none
      else
        some (a0, a1, Bool.false)
  else
    none
def tollbarref06_Ident.v7 (κ : Nat) (a0 : ByteArray) (a1 : Int) (a2 : Bool) : Option (ByteArray × Int × Bool) :=
  bif (!a2) then
    bif (a1 == (0 : Int)) then
      some (a0, a1, Bool.true)
    else
      bif (decide ((0 : Int) ≤ a1)) then
        Option.bind ((Array.toList (ByteArray.data a0))[(Int.toNat a1)]?) fun x0 =>
          bif ((((UInt8.toNat x0) : Nat) : Int) != (45 : Int)) then
            bif (decide ((0 : Int) ≤ a1)) then
              Option.bind ((Array.toList (ByteArray.data a0))[(Int.toNat a1)]?) fun x1 =>
                bif (decide ((((UInt8.toNat x1) : Nat) : Int) < (48 : Int))) then
                  some (a0, a1, Bool.true)
                else
                  bif (decide ((0 : Int) ≤ a1)) then
                    Option.bind ((Array.toList (ByteArray.data a0))[(Int.toNat a1)]?) fun x2 =>
                      some (a0, a1, (decide ((((UInt8.toNat x2) : Nat) : Int) > (57 : Int))))
                  else
                    none
            else
              none
          else
            some (a0, a1, Bool.false)
      else
        none
  else
    some (a0, a1, Bool.false)
def tollbarref06_Ident.w4 (κ : Nat) (rec : (ByteArray × Int) → Option ((ByteArray) ⊕ (Bool))) (a0 : ByteArray) (a1 : Int) : Option ((ByteArray) ⊕ (Bool)) :=
  bif (decide (a1 < (((ByteArray.size a0) : Nat) : Int))) then
    Option.bind (Ev.Seat.tollbarref06_Ident.v5 κ a0 a1) fun x0 =>
      Option.bind (Ev.Seat.tollbarref06_Ident.v7 κ (x0).fst ((x0).snd).fst ((x0).snd).snd) fun x1 =>
        bif ((x1).snd).snd then
          some (.inr Bool.false)
        else
          rec ((x1).fst, (Go.IntKind.wrap Go.IntKind.i64 (((x1).snd).fst + (1 : Int))))
  else
    some (.inl a0)
def tollbarref06_Ident.l4 (κ : Nat) : Nat → (ByteArray × Int) → Option ((ByteArray) ⊕ (Bool))
  | 0, _ => none
  | k + 1, (a0, a1) => tollbarref06_Ident.w4 κ (tollbarref06_Ident.l4 κ k) a0 a1
def tollbarref06_Ident.v10 (κ : Nat) (a0 : ByteArray) : Option (Bool) :=
  bif (!(Ev.seq a0 (ByteArray.mk (List.toArray [])))) then
    some (decide ((((ByteArray.size a0) : Nat) : Int) ≤ (12 : Int)))
  else
    some Bool.false
def tollbarref06_Ident (κ : Nat) (a0 : ByteArray) : Option (Bool) :=
  Option.bind (Ev.Seat.tollbarref06_Ident.l4 κ κ (Prod.mk a0 (0 : Int))) fun x0 =>
    match x0 with
    | .inl x1 =>
      Option.bind (Ev.Seat.tollbarref06_Ident.v10 κ x1) fun x2 =>
        some x2
    | .inr x3 =>
      some x3
def tollbarref07_Find_2.w0 (κ : Nat) (rec : (ByteArray × Int × ByteArray × Int × Int × Int × Int × (List ByteArray) × Bool × Int × (List Tollbarref07S)) → Option ((Unit) ⊕ (Int))) (a0 : ByteArray) (a1 : Int) (a2 : ByteArray) (a3 : Int) (a4 : Int) (a5 : Int) (a6 : Int) (a7 : List ByteArray) (a8 : Bool) (a9 : Int) (a10 : List Tollbarref07S) : Option ((Unit) ⊕ (Int)) :=
  bif (decide (a1 < (((List.length a10) : Nat) : Int))) then
    bif (decide ((0 : Int) ≤ a1)) then
      Option.bind (a10[(Int.toNat a1)]?) fun x0 =>
        bif (Ev.seq (Ev.Seat.Tollbarref07S.name x0) a0) then
          some (.inr a1)
        else
          rec (a0, (Go.IntKind.wrap Go.IntKind.i64 (a1 + (1 : Int))), a2, a3, a4, a5, a6, a7, a8, a9, a10)
    else
      none
  else
    some (.inl ())
def tollbarref07_Find_2.l0 (κ : Nat) : Nat → (ByteArray × Int × ByteArray × Int × Int × Int × Int × (List ByteArray) × Bool × Int × (List Tollbarref07S)) → Option ((Unit) ⊕ (Int))
  | 0, _ => none
  | k + 1, (a0, a1, a2, a3, a4, a5, a6, a7, a8, a9, a10) => tollbarref07_Find_2.w0 κ (tollbarref07_Find_2.l0 κ k) a0 a1 a2 a3 a4 a5 a6 a7 a8 a9 a10
def tollbarref07_Find_2 (κ : Nat) (a0 : ByteArray) (a1 : Int) (a2 : Int) (a3 : Int) (a4 : Int) (a5 : List ByteArray) (a6 : Bool) (a7 : Int) (a8 : List Tollbarref07S) (a9 : ByteArray) : Option (Int) :=
  Option.bind (Ev.Seat.tollbarref07_Find_2.l0 κ κ (Prod.mk a9 (Prod.mk (0 : Int) (Prod.mk a0 (Prod.mk a1 (Prod.mk a2 (Prod.mk a3 (Prod.mk a4 (Prod.mk a5 (Prod.mk a6 (Prod.mk a7 a8))))))))))) fun x0 =>
    match x0 with
    | .inl x1 =>
      some (-(1 : Int))
    | .inr x2 =>
      some x2
def tollbarref15_At.v9 (κ : Nat) (a0 : List ApiStep) (a1 : Int) (a2 : Int) (a3 : ByteArray) (a4 : Int) (a5 : Int) (a6 : Int) (a7 : Int) (a8 : Bool) (a9 : Int) (a10 : ByteArray) (a11 : Int) (a12 : Int) (a13 : Int) (a14 : Int) (a15 : List ByteArray) (a16 : Bool) (a17 : Int) (a18 : List Tollbarref07S) : Option ((List ApiStep) × Int × Int × Bool × ByteArray × Int × Int × Int × Int × Bool × Int × ByteArray × Int × Int × Int × Int × (List ByteArray) × Bool × Int × (List Tollbarref07S)) :=
  bif (decide (a2 < (((List.length a0) : Nat) : Int))) then
    some (a0, a1, a2, (a1 == (0 : Int)), a3, a4, a5, a6, a7, a8, a9, a10, a11, a12, a13, a14, a15, a16, a17, a18)
  else
    some (a0, a1, a2, Bool.false, a3, a4, a5, a6, a7, a8, a9, a10, a11, a12, a13, a14, a15, a16, a17, a18)
def tollbarref15_At.v11 (κ : Nat) (a0 : List ApiStep) (a1 : Int) (a2 : Int) (a3 : Bool) (a4 : ByteArray) (a5 : Int) (a6 : Int) (a7 : Int) (a8 : Int) (a9 : Bool) (a10 : Int) (a11 : ByteArray) (a12 : Int) (a13 : Int) (a14 : Int) (a15 : Int) (a16 : List ByteArray) (a17 : Bool) (a18 : Int) (a19 : List Tollbarref07S) : Option ((List ApiStep) × Int × Int × Bool × ByteArray × Int × Int × Int × Int × Bool × Int × ByteArray × Int × Int × Int × Int × (List ByteArray) × Bool × Int × (List Tollbarref07S)) :=
  bif (a12 == (3 : Int)) then
    bif (!a3) then
      some (a0, a1, a2, Bool.true, a4, a5, a6, a7, a8, a9, a10, a11, a12, a13, a14, a15, a16, a17, a18, a19)
    else
      bif (a12 != (3 : Int)) then
        bif (decide ((0 : Int) ≤ a2)) then
          Option.bind (a0[(Int.toNat a2)]?) fun x1 =>
            some (a0, a1, a2, (!(Ev.seq (Ev.Seat.ApiStep.key x1) (ByteArray.mk (List.toArray [])))), a4, a5, a6, a7, a8, a9, a10, a11, a12, a13, a14, a15, a16, a17, a18, a19)
        else
          none
      else
        some (a0, a1, a2, Bool.false, a4, a5, a6, a7, a8, a9, a10, a11, a12, a13, a14, a15, a16, a17, a18, a19)
  else
    bif (a12 != (3 : Int)) then
      bif (decide ((0 : Int) ≤ a2)) then
        Option.bind (a0[(Int.toNat a2)]?) fun x0 =>
          some (a0, a1, a2, (!(Ev.seq (Ev.Seat.ApiStep.key x0) (ByteArray.mk (List.toArray [])))), a4, a5, a6, a7, a8, a9, a10, a11, a12, a13, a14, a15, a16, a17, a18, a19)
      else
        none
    else
      some (a0, a1, a2, Bool.false, a4, a5, a6, a7, a8, a9, a10, a11, a12, a13, a14, a15, a16, a17, a18, a19)
def tollbarref15_At.w8 (κ : Nat) (rec : ((List ApiStep) × Int × Int × ByteArray × Int × Int × Int × Int × Bool × Int × ByteArray × Int × Int × Int × Int × (List ByteArray) × Bool × Int × (List Tollbarref07S)) → Option ((Int × ByteArray × Int × Int × Int × Int × Bool × Int × ByteArray × Int × Int × Int × Int × (List ByteArray) × Bool × Int × (List Tollbarref07S)) ⊕ (Int × ByteArray × Int × Int × Int × Int × Bool × Int))) (a0 : List ApiStep) (a1 : Int) (a2 : Int) (a3 : ByteArray) (a4 : Int) (a5 : Int) (a6 : Int) (a7 : Int) (a8 : Bool) (a9 : Int) (a10 : ByteArray) (a11 : Int) (a12 : Int) (a13 : Int) (a14 : Int) (a15 : List ByteArray) (a16 : Bool) (a17 : Int) (a18 : List Tollbarref07S) : Option ((Int × ByteArray × Int × Int × Int × Int × Bool × Int × ByteArray × Int × Int × Int × Int × (List ByteArray) × Bool × Int × (List Tollbarref07S)) ⊕ (Int × ByteArray × Int × Int × Int × Int × Bool × Int)) :=
  Option.bind (Ev.Seat.tollbarref15_At.v9 κ a0 a1 a2 a3 a4 a5 a6 a7 a8 a9 a10 a11 a12 a13 a14 a15 a16 a17 a18) fun x0 =>
    bif ((((x0).snd).snd).snd).fst then
      bif (decide ((0 : Int) ≤ (((x0).snd).snd).fst)) then
        Option.bind ((x0).fst[(Int.toNat (((x0).snd).snd).fst)]?) fun x1 =>
          Option.bind (Ev.Seat.tollbarref07_Find_2 κ ((((((((((((x0).snd).snd).snd).snd).snd).snd).snd).snd).snd).snd).snd).fst (((((((((((((x0).snd).snd).snd).snd).snd).snd).snd).snd).snd).snd).snd).snd).fst ((((((((((((((x0).snd).snd).snd).snd).snd).snd).snd).snd).snd).snd).snd).snd).snd).fst (((((((((((((((x0).snd).snd).snd).snd).snd).snd).snd).snd).snd).snd).snd).snd).snd).snd).fst ((((((((((((((((x0).snd).snd).snd).snd).snd).snd).snd).snd).snd).snd).snd).snd).snd).snd).snd).fst (((((((((((((((((x0).snd).snd).snd).snd).snd).snd).snd).snd).snd).snd).snd).snd).snd).snd).snd).snd).fst ((((((((((((((((((x0).snd).snd).snd).snd).snd).snd).snd).snd).snd).snd).snd).snd).snd).snd).snd).snd).snd).fst (((((((((((((((((((x0).snd).snd).snd).snd).snd).snd).snd).snd).snd).snd).snd).snd).snd).snd).snd).snd).snd).snd).fst (((((((((((((((((((x0).snd).snd).snd).snd).snd).snd).snd).snd).snd).snd).snd).snd).snd).snd).snd).snd).snd).snd).snd (Ev.Seat.ApiStep.name x1)) fun x2 =>
            bif (decide (x2 < (0 : Int))) then
              some (.inr ((22 : Int), (ByteArray.mk (List.toArray [])), (0 : Int), (0 : Int), (0 : Int), (0 : Int), Bool.false, (0 : Int)))
            else
              bif (decide ((0 : Int) ≤ x2)) then
                Option.bind ((((((((((((((((((((x0).snd).snd).snd).snd).snd).snd).snd).snd).snd).snd).snd).snd).snd).snd).snd).snd).snd).snd).snd[(Int.toNat x2)]?) fun x3 =>
                  bif (decide ((0 : Int) ≤ (((x0).snd).snd).fst)) then
                    Option.bind ((x0).fst[(Int.toNat (((x0).snd).snd).fst)]?) fun x4 =>
                      Option.bind (Ev.Seat.tollbarref06_Ident κ (Ev.Seat.ApiStep.key x4)) fun x5 =>
                        Option.bind (Ev.Seat.tollbarref15_At.v11 κ (x0).fst ((x0).snd).fst (((x0).snd).snd).fst x5 (((((x0).snd).snd).snd).snd).fst ((((((x0).snd).snd).snd).snd).snd).fst (((((((x0).snd).snd).snd).snd).snd).snd).fst ((((((((x0).snd).snd).snd).snd).snd).snd).snd).fst (((((((((x0).snd).snd).snd).snd).snd).snd).snd).snd).fst ((((((((((x0).snd).snd).snd).snd).snd).snd).snd).snd).snd).fst (((((((((((x0).snd).snd).snd).snd).snd).snd).snd).snd).snd).snd).fst (Ev.Seat.Tollbarref07S.name x3) (Ev.Seat.Tollbarref07S.kind x3) (Ev.Seat.Tollbarref07S.type_ x3) (Ev.Seat.Tollbarref07S.min x3) (Ev.Seat.Tollbarref07S.max x3) (Ev.Seat.Tollbarref07S.names x3) (Ev.Seat.Tollbarref07S.must x3) (Ev.Seat.Tollbarref07S.most x3) (Ev.Seat.Tollbarref07S.kids x3)) fun x6 =>
                          bif ((((x6).snd).snd).snd).fst then
                            some (.inr ((23 : Int), (ByteArray.mk (List.toArray [])), (0 : Int), (0 : Int), (0 : Int), (0 : Int), Bool.false, (0 : Int)))
                          else
                            rec ((x6).fst, ((x6).snd).fst, (Go.IntKind.wrap Go.IntKind.i64 ((((x6).snd).snd).fst + (1 : Int))), (((((x6).snd).snd).snd).snd).fst, ((((((x6).snd).snd).snd).snd).snd).fst, (((((((x6).snd).snd).snd).snd).snd).snd).fst, ((((((((x6).snd).snd).snd).snd).snd).snd).snd).fst, (((((((((x6).snd).snd).snd).snd).snd).snd).snd).snd).fst, ((((((((((x6).snd).snd).snd).snd).snd).snd).snd).snd).snd).fst, (((((((((((x6).snd).snd).snd).snd).snd).snd).snd).snd).snd).snd).fst, ((((((((((((x6).snd).snd).snd).snd).snd).snd).snd).snd).snd).snd).snd).fst, (((((((((((((x6).snd).snd).snd).snd).snd).snd).snd).snd).snd).snd).snd).snd).fst, ((((((((((((((x6).snd).snd).snd).snd).snd).snd).snd).snd).snd).snd).snd).snd).snd).fst, (((((((((((((((x6).snd).snd).snd).snd).snd).snd).snd).snd).snd).snd).snd).snd).snd).snd).fst, ((((((((((((((((x6).snd).snd).snd).snd).snd).snd).snd).snd).snd).snd).snd).snd).snd).snd).snd).fst, (((((((((((((((((x6).snd).snd).snd).snd).snd).snd).snd).snd).snd).snd).snd).snd).snd).snd).snd).snd).fst, ((((((((((((((((((x6).snd).snd).snd).snd).snd).snd).snd).snd).snd).snd).snd).snd).snd).snd).snd).snd).snd).fst, (((((((((((((((((((x6).snd).snd).snd).snd).snd).snd).snd).snd).snd).snd).snd).snd).snd).snd).snd).snd).snd).snd).fst, (((((((((((((((((((x6).snd).snd).snd).snd).snd).snd).snd).snd).snd).snd).snd).snd).snd).snd).snd).snd).snd).snd).snd)
                  else
                    none
              else
                none
      else
        none
    else
      some (.inl (((x0).snd).fst, (((((x0).snd).snd).snd).snd).fst, ((((((x0).snd).snd).snd).snd).snd).fst, (((((((x0).snd).snd).snd).snd).snd).snd).fst, ((((((((x0).snd).snd).snd).snd).snd).snd).snd).fst, (((((((((x0).snd).snd).snd).snd).snd).snd).snd).snd).fst, ((((((((((x0).snd).snd).snd).snd).snd).snd).snd).snd).snd).fst, (((((((((((x0).snd).snd).snd).snd).snd).snd).snd).snd).snd).snd).fst, ((((((((((((x0).snd).snd).snd).snd).snd).snd).snd).snd).snd).snd).snd).fst, (((((((((((((x0).snd).snd).snd).snd).snd).snd).snd).snd).snd).snd).snd).snd).fst, ((((((((((((((x0).snd).snd).snd).snd).snd).snd).snd).snd).snd).snd).snd).snd).snd).fst, (((((((((((((((x0).snd).snd).snd).snd).snd).snd).snd).snd).snd).snd).snd).snd).snd).snd).fst, ((((((((((((((((x0).snd).snd).snd).snd).snd).snd).snd).snd).snd).snd).snd).snd).snd).snd).snd).fst, (((((((((((((((((x0).snd).snd).snd).snd).snd).snd).snd).snd).snd).snd).snd).snd).snd).snd).snd).snd).fst, ((((((((((((((((((x0).snd).snd).snd).snd).snd).snd).snd).snd).snd).snd).snd).snd).snd).snd).snd).snd).snd).fst, (((((((((((((((((((x0).snd).snd).snd).snd).snd).snd).snd).snd).snd).snd).snd).snd).snd).snd).snd).snd).snd).snd).fst, (((((((((((((((((((x0).snd).snd).snd).snd).snd).snd).snd).snd).snd).snd).snd).snd).snd).snd).snd).snd).snd).snd).snd))
def tollbarref15_At.l8 (κ : Nat) : Nat → ((List ApiStep) × Int × Int × ByteArray × Int × Int × Int × Int × Bool × Int × ByteArray × Int × Int × Int × Int × (List ByteArray) × Bool × Int × (List Tollbarref07S)) → Option ((Int × ByteArray × Int × Int × Int × Int × Bool × Int × ByteArray × Int × Int × Int × Int × (List ByteArray) × Bool × Int × (List Tollbarref07S)) ⊕ (Int × ByteArray × Int × Int × Int × Int × Bool × Int))
  | 0, _ => none
  | k + 1, (a0, a1, a2, a3, a4, a5, a6, a7, a8, a9, a10, a11, a12, a13, a14, a15, a16, a17, a18) => tollbarref15_At.w8 κ (tollbarref15_At.l8 κ k) a0 a1 a2 a3 a4 a5 a6 a7 a8 a9 a10 a11 a12 a13 a14 a15 a16 a17 a18
def tollbarref15_At (κ : Nat) (a0 : Int) (a1 : List ApiStep) : Option (ByteArray × Int × Int × Int × Int × (List ByteArray) × Bool × Int × (List Tollbarref07S) × Int) :=
  Option.bind (Ev.Seat.tollbarref07_Root κ a0) fun x0 =>
    Option.bind (Ev.Seat.tollbarref15_At.l8 κ κ (Prod.mk a1 (Prod.mk ((((((((x0).snd).snd).snd).snd).snd).snd).snd).fst (Prod.mk (0 : Int) (Prod.mk (ByteArray.mk (List.toArray [])) (Prod.mk (0 : Int) (Prod.mk (0 : Int) (Prod.mk (0 : Int) (Prod.mk (0 : Int) (Prod.mk Bool.false (Prod.mk (0 : Int) (Prod.mk (x0).fst (Prod.mk ((x0).snd).fst (Prod.mk (((x0).snd).snd).fst (Prod.mk ((((x0).snd).snd).snd).fst (Prod.mk (((((x0).snd).snd).snd).snd).fst (Prod.mk [] (Prod.mk ((((((x0).snd).snd).snd).snd).snd).fst (Prod.mk (((((((x0).snd).snd).snd).snd).snd).snd).fst ((((((((x0).snd).snd).snd).snd).snd).snd).snd).snd))))))))))))))))))) fun x1 =>
      match x1 with
      | .inl x2 =>
        some ((((((((((x2).snd).snd).snd).snd).snd).snd).snd).snd).fst, ((((((((((x2).snd).snd).snd).snd).snd).snd).snd).snd).snd).fst, (((((((((((x2).snd).snd).snd).snd).snd).snd).snd).snd).snd).snd).fst, ((((((((((((x2).snd).snd).snd).snd).snd).snd).snd).snd).snd).snd).snd).fst, (((((((((((((x2).snd).snd).snd).snd).snd).snd).snd).snd).snd).snd).snd).snd).fst, ((((((((((((((x2).snd).snd).snd).snd).snd).snd).snd).snd).snd).snd).snd).snd).snd).fst, (((((((((((((((x2).snd).snd).snd).snd).snd).snd).snd).snd).snd).snd).snd).snd).snd).snd).fst, ((((((((((((((((x2).snd).snd).snd).snd).snd).snd).snd).snd).snd).snd).snd).snd).snd).snd).snd).fst, ((((((((((((((((x2).snd).snd).snd).snd).snd).snd).snd).snd).snd).snd).snd).snd).snd).snd).snd).snd, (x2).fst)
      | .inr x3 =>
        some (((x3).snd).fst, (((x3).snd).snd).fst, ((((x3).snd).snd).snd).fst, (((((x3).snd).snd).snd).snd).fst, ((((((x3).snd).snd).snd).snd).snd).fst, [], (((((((x3).snd).snd).snd).snd).snd).snd).fst, (((((((x3).snd).snd).snd).snd).snd).snd).snd, [], (x3).fst)
def tollbarref15_Show.v8 (κ : Nat) (a0 : List ApiStep) (a1 : ByteArray) (a2 : Int) (a3 : Bool) (a4 : Bool) : Option ((List ApiStep) × ByteArray × Int × Bool × Bool) :=
  bif (!a3) then
    some (a0, a1, a2, a4, Bool.true)
  else
    bif (!a4) then
      bif (decide ((0 : Int) ≤ a2)) then
        Option.bind (a0[(Int.toNat a2)]?) fun x0 =>
          some (a0, a1, a2, a4, (!(Ev.seq (Ev.Seat.ApiStep.key x0) (ByteArray.mk (List.toArray [])))))
      else
        none
    else
      some (a0, a1, a2, a4, Bool.false)
def tollbarref15_Show.v10 (κ : Nat) (a0 : List ApiStep) (a1 : ByteArray) (a2 : Int) (a3 : Bool) : Option ((List ApiStep) × ByteArray × Int) :=
  bif a3 then
    bif (decide ((0 : Int) ≤ a2)) then
      Option.bind (a0[(Int.toNat a2)]?) fun x0 =>
        bif (Nat.ble ((ByteArray.size (ByteArray.mk (List.toArray ((91 : UInt8) :: [])))) + (ByteArray.size (Ev.Seat.ApiStep.key x0))) Ev.maxI) then
          bif (Nat.ble ((ByteArray.size ((ByteArray.mk (List.toArray ((91 : UInt8) :: []))) ++ (Ev.Seat.ApiStep.key x0))) + (ByteArray.size (ByteArray.mk (List.toArray ((93 : UInt8) :: []))))) Ev.maxI) then
            bif (Nat.ble ((ByteArray.size a1) + (ByteArray.size (((ByteArray.mk (List.toArray ((91 : UInt8) :: []))) ++ (Ev.Seat.ApiStep.key x0)) ++ (ByteArray.mk (List.toArray ((93 : UInt8) :: [])))))) Ev.maxI) then
              some (a0, (a1 ++ (((ByteArray.mk (List.toArray ((91 : UInt8) :: []))) ++ (Ev.Seat.ApiStep.key x0)) ++ (ByteArray.mk (List.toArray ((93 : UInt8) :: []))))), a2)
            else
              none
          else
            none
        else
          none
    else
      none
  else
    some (a0, a1, a2)
def tollbarref15_Show.v7 (κ : Nat) (a0 : List ApiStep) (a1 : ByteArray) (a2 : Int) : Option (((List ApiStep) × ByteArray × Int) ⊕ (ByteArray)) :=
  bif (decide ((0 : Int) ≤ a2)) then
    Option.bind (a0[(Int.toNat a2)]?) fun x0 =>
      Option.bind (Ev.Seat.tollbarref06_Ident κ (Ev.Seat.ApiStep.name x0)) fun x1 =>
        bif (decide ((0 : Int) ≤ a2)) then
          Option.bind (a0[(Int.toNat a2)]?) fun x2 =>
            Option.bind (Ev.Seat.tollbarref06_Ident κ (Ev.Seat.ApiStep.key x2)) fun x3 =>
              Option.bind (Ev.Seat.tollbarref15_Show.v8 κ a0 a1 a2 x1 x3) fun x4 =>
                bif ((((x4).snd).snd).snd).snd then
                  some (.inr (ByteArray.mk (List.toArray [])))
                else
                  bif (decide ((0 : Int) ≤ (((x4).snd).snd).fst)) then
                    Option.bind ((x4).fst[(Int.toNat (((x4).snd).snd).fst)]?) fun x5 =>
                      bif (Nat.ble ((ByteArray.size (ByteArray.mk (List.toArray ((47 : UInt8) :: [])))) + (ByteArray.size (Ev.Seat.ApiStep.name x5))) Ev.maxI) then
                        bif (Nat.ble ((ByteArray.size ((x4).snd).fst) + (ByteArray.size ((ByteArray.mk (List.toArray ((47 : UInt8) :: []))) ++ (Ev.Seat.ApiStep.name x5)))) Ev.maxI) then
                          Option.bind (Ev.Seat.tollbarref15_Show.v10 κ (x4).fst (((x4).snd).fst ++ ((ByteArray.mk (List.toArray ((47 : UInt8) :: []))) ++ (Ev.Seat.ApiStep.name x5))) (((x4).snd).snd).fst ((((x4).snd).snd).snd).fst) fun x6 =>
                            some (.inl ((x6).fst, ((x6).snd).fst, ((x6).snd).snd))
                        else
                          none
                      else
                        none
                  else
                    none
        else
          none
  else
    none
def tollbarref15_Show.w6 (κ : Nat) (rec : ((List ApiStep) × ByteArray × Int) → Option (((List ApiStep) × ByteArray) ⊕ (ByteArray))) (a0 : List ApiStep) (a1 : ByteArray) (a2 : Int) : Option (((List ApiStep) × ByteArray) ⊕ (ByteArray)) :=
  bif (decide (a2 < (((List.length a0) : Nat) : Int))) then
    Option.bind (Ev.Seat.tollbarref15_Show.v7 κ a0 a1 a2) fun x0 =>
      match x0 with
      | .inl x1 =>
        rec ((x1).fst, ((x1).snd).fst, (Go.IntKind.wrap Go.IntKind.i64 (((x1).snd).snd + (1 : Int))))
      | .inr x2 =>
        some (.inr x2)
  else
    some (.inl (a0, a1))
def tollbarref15_Show.l6 (κ : Nat) : Nat → ((List ApiStep) × ByteArray × Int) → Option (((List ApiStep) × ByteArray) ⊕ (ByteArray))
  | 0, _ => none
  | k + 1, (a0, a1, a2) => tollbarref15_Show.w6 κ (tollbarref15_Show.l6 κ k) a0 a1 a2
def tollbarref15_Show (κ : Nat) (a0 : List ApiStep) : Option (ByteArray) :=
  Option.bind (Ev.Seat.tollbarref15_Show.l6 κ κ (Prod.mk a0 (Prod.mk (ByteArray.mk (List.toArray [])) (0 : Int)))) fun x0 =>
    match x0 with
    | .inl x1 =>
      bif (Ev.seq (x1).snd (ByteArray.mk (List.toArray []))) then
        some (ByteArray.mk (List.toArray ((47 : UInt8) :: [])))
      else
        bif (decide ((((List.length (x1).fst) : Nat) : Int) > (6 : Int))) then
          some (ByteArray.mk (List.toArray []))
        else
          some (x1).snd
    | .inr x2 =>
      some x2
def tollbarref15_Under.v3 (κ : Nat) (a0 : List ApiStep) (a1 : List ApiStep) (a2 : Int) : Option ((List ApiStep) × (List ApiStep) × Int × Bool) :=
  bif (decide (a2 ≥ (((List.length a0) : Nat) : Int))) then
    some (a0, a1, a2, Bool.true)
  else
    bif (decide ((0 : Int) ≤ a2)) then
      Option.bind (a0[(Int.toNat a2)]?) fun x0 =>
        bif (decide ((0 : Int) ≤ a2)) then
          Option.bind (a1[(Int.toNat a2)]?) fun x1 =>
            some (a0, a1, a2, (!((Ev.seq (Ev.Seat.ApiStep.name x0) (Ev.Seat.ApiStep.name x1)) && (Ev.seq (Ev.Seat.ApiStep.key x0) (Ev.Seat.ApiStep.key x1)))))
        else
          none
    else
      none
def tollbarref15_Under.w2 (κ : Nat) (rec : ((List ApiStep) × (List ApiStep) × Int) → Option ((Unit) ⊕ (Bool))) (a0 : List ApiStep) (a1 : List ApiStep) (a2 : Int) : Option ((Unit) ⊕ (Bool)) :=
  bif (decide (a2 < (((List.length a1) : Nat) : Int))) then
    Option.bind (Ev.Seat.tollbarref15_Under.v3 κ a0 a1 a2) fun x0 =>
      bif (((x0).snd).snd).snd then
        some (.inr Bool.false)
      else
        rec ((x0).fst, ((x0).snd).fst, (Go.IntKind.wrap Go.IntKind.i64 ((((x0).snd).snd).fst + (1 : Int))))
  else
    some (.inl ())
def tollbarref15_Under.l2 (κ : Nat) : Nat → ((List ApiStep) × (List ApiStep) × Int) → Option ((Unit) ⊕ (Bool))
  | 0, _ => none
  | k + 1, (a0, a1, a2) => tollbarref15_Under.w2 κ (tollbarref15_Under.l2 κ k) a0 a1 a2
def tollbarref15_Under (κ : Nat) (a0 : List ApiStep) (a1 : List ApiStep) : Option (Bool) :=
  Option.bind (Ev.Seat.tollbarref15_Under.l2 κ κ (Prod.mk a0 (Prod.mk a1 (0 : Int)))) fun x0 =>
    match x0 with
    | .inl x1 =>
      some Bool.true
    | .inr x2 =>
      some x2
def tollbarref10_Steps.w0 (κ : Nat) (rec : ((List ApiStep) × (List ApiStep) × Int) → Option ((Unit) ⊕ (Bool))) (a0 : List ApiStep) (a1 : List ApiStep) (a2 : Int) : Option ((Unit) ⊕ (Bool)) :=
  bif (decide (a2 < (((List.length a0) : Nat) : Int))) then
    bif (decide ((0 : Int) ≤ a2)) then
      Option.bind (a0[(Int.toNat a2)]?) fun x0 =>
        bif (decide ((0 : Int) ≤ a2)) then
          Option.bind (a1[(Int.toNat a2)]?) fun x1 =>
            bif (!((Ev.seq (Ev.Seat.ApiStep.name x0) (Ev.Seat.ApiStep.name x1)) && (Ev.seq (Ev.Seat.ApiStep.key x0) (Ev.Seat.ApiStep.key x1)))) then
              some (.inr Bool.false)
            else
              rec (a0, a1, (Go.IntKind.wrap Go.IntKind.i64 (a2 + (1 : Int))))
        else
          none
    else
      none
  else
    some (.inl ())
def tollbarref10_Steps.l0 (κ : Nat) : Nat → ((List ApiStep) × (List ApiStep) × Int) → Option ((Unit) ⊕ (Bool))
  | 0, _ => none
  | k + 1, (a0, a1, a2) => tollbarref10_Steps.w0 κ (tollbarref10_Steps.l0 κ k) a0 a1 a2
def tollbarref10_Steps (κ : Nat) (a0 : List ApiStep) (a1 : List ApiStep) : Option (Bool) :=
  bif ((((List.length a0) : Nat) : Int) != (((List.length a1) : Nat) : Int)) then
    some Bool.false
  else
    Option.bind (Ev.Seat.tollbarref10_Steps.l0 κ κ (Prod.mk a0 (Prod.mk a1 (0 : Int)))) fun x0 =>
      match x0 with
      | .inl x1 =>
        some Bool.true
      | .inr x2 =>
        some x2
def tollbarlaw15_PathShows.v0 (κ : Nat) (a0 : Int) (a1 : List ApiStep) (a2 : List ApiStep) : Option (Int × (List ApiStep) × (List ApiStep) × Bool) :=
  bif (decide ((((List.length a1) : Nat) : Int) > (20 : Int))) then
    some (a0, a1, a2, Bool.true)
  else
    some (a0, a1, a2, (decide ((((List.length a2) : Nat) : Int) > (20 : Int))))
def tollbarlaw15_PathShows.v2 (κ : Nat) (a0 : List ApiStep) (a1 : List ApiStep) (a2 : ByteArray) (a3 : Int) (a4 : Int) (a5 : ByteArray) (a6 : Int) (a7 : Int) (a8 : Int) (a9 : Int) (a10 : List ByteArray) (a11 : Bool) (a12 : Int) (a13 : List SpecSpec) (a14 : ByteArray) (a15 : Int) (a16 : Int) (a17 : Int) (a18 : Int) (a19 : List ByteArray) (a20 : Bool) (a21 : Int) (a22 : List Tollbarref07S) : Option ((List ApiStep) × ByteArray × Bool) :=
  Option.bind (Ev.Seat.tollbarref15_Show κ a0) fun x0 =>
    bif (!(Ev.seq a2 x0)) then
      some (a0, a2, Bool.true)
    else
      Option.bind (Ev.Seat.tollbarlaw15_plain_4 κ a5 a6 a7 a8 a9 a10 a11 a12 a13) fun x1 =>
        match x1 with
        | .inl x2 =>
          Option.bind (Ev.Seat.tollbarref07_Same_2 κ (x2).fst ((x2).snd).fst (((x2).snd).snd).fst ((((x2).snd).snd).snd).fst (((((x2).snd).snd).snd).snd).fst ((((((x2).snd).snd).snd).snd).snd).fst (((((((x2).snd).snd).snd).snd).snd).snd).fst (((((((x2).snd).snd).snd).snd).snd).snd).snd a14 a15 a16 a17 a18 a19 a20 a21 a22) fun x3 =>
            bif (!x3) then
              some (a0, a2, Bool.true)
            else
              bif (a3 != a4) then
                some (a0, a2, Bool.true)
              else
                Option.bind (Ev.Seat.path_Under κ a0 a1) fun x4 =>
                  Option.bind (Ev.Seat.tollbarref15_Under κ a0 a1) fun x5 =>
                    some (a0, a2, (!(x4 == x5)))
        | .inr x6 =>
          Option.bind (Ev.Seat.tollbarref07_Same_6 κ (x6).fst ((x6).snd).fst (((x6).snd).snd).fst ((((x6).snd).snd).snd).fst (((((x6).snd).snd).snd).snd).fst ((((((x6).snd).snd).snd).snd).snd).fst (((((((x6).snd).snd).snd).snd).snd).snd).fst ((((((((x6).snd).snd).snd).snd).snd).snd).snd).fst ((((((((x6).snd).snd).snd).snd).snd).snd).snd).snd a14 a15 a16 a17 a18 a19 a20 a21 a22) fun x7 =>
            bif (!x7) then
              some (a0, a2, Bool.true)
            else
              bif (a3 != a4) then
                some (a0, a2, Bool.true)
              else
                Option.bind (Ev.Seat.path_Under κ a0 a1) fun x8 =>
                  Option.bind (Ev.Seat.tollbarref15_Under κ a0 a1) fun x9 =>
                    some (a0, a2, (!(x8 == x9)))
def tollbarlaw15_PathShows.v4 (κ : Nat) (a0 : List ApiStep) (a1 : ByteArray) (a2 : Int) (a3 : Int) (a4 : List ApiStep) : Option (Bool) :=
  bif (Ev.seq a1 (ByteArray.mk (List.toArray []))) then
    some Bool.true
  else
    Option.bind (Ev.Seat.tollbarref10_Steps κ a4 a0) fun x0 =>
      bif x0 then
        bif (a2 == (0 : Int)) then
          some (a3 == (0 : Int))
        else
          some Bool.false
      else
        some Bool.false
def tollbarlaw15_PathShows (κ : Nat) (a0 : Int) (a1 : List ApiStep) (a2 : List ApiStep) : Option (Bool) :=
  Option.bind (Ev.Seat.tollbarlaw15_awake κ) fun x0 =>
    bif (!x0) then
      some Bool.false
    else
      Option.bind (Ev.Seat.tollbarlaw15_PathShows.v0 κ a0 a1 a2) fun x1 =>
        bif (((x1).snd).snd).snd then
          some Bool.true
        else
          Option.bind (Ev.Seat.path_Show κ ((x1).snd).fst) fun x2 =>
            Option.bind (Ev.Seat.path_At κ (x1).fst ((x1).snd).fst) fun x3 =>
              Option.bind (Ev.Seat.tollbarref15_At κ (x1).fst ((x1).snd).fst) fun x4 =>
                Option.bind (Ev.Seat.tollbarlaw15_PathShows.v2 κ ((x1).snd).fst (((x1).snd).snd).fst x2 (((((((((x3).snd).snd).snd).snd).snd).snd).snd).snd).snd (((((((((x4).snd).snd).snd).snd).snd).snd).snd).snd).snd (x3).fst ((x3).snd).fst (((x3).snd).snd).fst ((((x3).snd).snd).snd).fst (((((x3).snd).snd).snd).snd).fst ((((((x3).snd).snd).snd).snd).snd).fst (((((((x3).snd).snd).snd).snd).snd).snd).fst ((((((((x3).snd).snd).snd).snd).snd).snd).snd).fst (((((((((x3).snd).snd).snd).snd).snd).snd).snd).snd).fst (x4).fst ((x4).snd).fst (((x4).snd).snd).fst ((((x4).snd).snd).snd).fst (((((x4).snd).snd).snd).snd).fst ((((((x4).snd).snd).snd).snd).snd).fst (((((((x4).snd).snd).snd).snd).snd).snd).fst ((((((((x4).snd).snd).snd).snd).snd).snd).snd).fst (((((((((x4).snd).snd).snd).snd).snd).snd).snd).snd).fst) fun x5 =>
                  bif ((x5).snd).snd then
                    some Bool.false
                  else
                    Option.bind (Ev.Seat.path_Parse κ ((x5).snd).fst) fun x6 =>
                      Option.bind (Ev.Seat.tollbarlaw15_PathShows.v4 κ (x5).fst ((x5).snd).fst (x6).fst ((x6).snd).fst ((x6).snd).snd) fun x7 =>
                        some x7
end Go.Proofs.YtooefkbecoopdaaDoor.Ev.Seat
