import Derived.Test.YthmohmmbhjpbcaaGreatDoorEvSeat
set_option linter.unusedVariables false
set_option linter.unusedSimpArgs false
set_option maxHeartbeats 1000000
namespace Go.Proofs.YthmohmmbhjpbcaaGreatDoor.Ev.Seat
open Go Ev Go.Proofs
def internal_stringslite_HasSuffix.v0 (κ : Nat) (a0 a1 : ByteArray) : Option (Bool) :=
 bif (decide ((((ByteArray.size a0) : Nat) : Int) ≥ (((ByteArray.size a1) : Nat) : Int))) then
  bif (((decide ((((ByteArray.size a0) : Nat) : Int) ≤ (((ByteArray.size a0) : Nat) : Int))) && (decide ((0 : Int) ≤ (IntKind.wrap IntKind.i64 ((((ByteArray.size a0) : Nat) : Int) - (((ByteArray.size a1) : Nat) : Int)))))) && (decide ((IntKind.wrap IntKind.i64 ((((ByteArray.size a0) : Nat) : Int) - (((ByteArray.size a1) : Nat) : Int))) ≤ (((ByteArray.size a0) : Nat) : Int)))) then
   some (Ev.seq (ByteArray.extract a0 (Int.toNat (IntKind.wrap IntKind.i64 ((((ByteArray.size a0) : Nat) : Int) - (((ByteArray.size a1) : Nat) : Int)))) (Int.toNat (((ByteArray.size a0) : Nat) : Int))) a1)
  else
   none
 else
  some Bool.false
def internal_stringslite_HasSuffix (κ : Nat) (a0 a1 : ByteArray) : Option (Bool) :=
 Option.bind (Ev.Seat.internal_stringslite_HasSuffix.v0 κ a0 a1) fun x0 =>
  some x0
def internal_stringslite_CutSuffix (κ : Nat) (a0 a1 : ByteArray) : Option (ByteArray × Bool) :=
 Option.bind (Ev.Seat.internal_stringslite_HasSuffix κ a0 a1) fun x0 =>
  bif (!x0) then
   some (a0, Bool.false)
  else
   bif ((((decide ((0 : Int) ≤ (IntKind.wrap IntKind.i64 ((((ByteArray.size a0) : Nat) : Int) - (((ByteArray.size a1) : Nat) : Int))))) && (decide ((IntKind.wrap IntKind.i64 ((((ByteArray.size a0) : Nat) : Int) - (((ByteArray.size a1) : Nat) : Int))) ≤ (((ByteArray.size a0) : Nat) : Int)))) && (decide ((0 : Int) ≤ (0 : Int)))) && (decide ((0 : Int) ≤ (IntKind.wrap IntKind.i64 ((((ByteArray.size a0) : Nat) : Int) - (((ByteArray.size a1) : Nat) : Int)))))) then
    some ((ByteArray.extract a0 (Int.toNat (0 : Int)) (Int.toNat (IntKind.wrap IntKind.i64 ((((ByteArray.size a0) : Nat) : Int) - (((ByteArray.size a1) : Nat) : Int))))), Bool.true)
   else
    none
def strings_CutSuffix (κ : Nat) (a0 a1 : ByteArray) : Option (ByteArray × Bool) :=
 Option.bind (Ev.Seat.internal_stringslite_CutSuffix κ a0 a1) fun x0 =>
  some (x0.1, x0.2)
def scalar_ShowRate (κ : Nat) (a0 : Int) : Option (ByteArray) :=
 bif (decide (a0 > (0 : Int))) then
  bif ((Int.tmod a0 (1000000 : Int)) == (0 : Int)) then
   Option.bind (Ev.Seat.scalShow κ (IntKind.wrap IntKind.u64 (Int.tdiv a0 (1000000 : Int)))) fun x6 =>
    bif (Nat.ble ((ByteArray.size x6) + (ByteArray.size (ByteArray.mk (List.toArray ((109 : UInt8) :: []))))) Ev.maxI) then
     some (x6 ++ (ByteArray.mk (List.toArray ((109 : UInt8) :: []))))
    else
     none
  else
   bif (decide (a0 > (0 : Int))) then
    bif ((Int.tmod a0 (1000 : Int)) == (0 : Int)) then
     Option.bind (Ev.Seat.scalShow κ (IntKind.wrap IntKind.u64 (Int.tdiv a0 (1000 : Int)))) fun x5 =>
      bif (Nat.ble ((ByteArray.size x5) + (ByteArray.size (ByteArray.mk (List.toArray ((107 : UInt8) :: []))))) Ev.maxI) then
       some (x5 ++ (ByteArray.mk (List.toArray ((107 : UInt8) :: []))))
      else
       none
    else
     Option.bind (Ev.Seat.scalShow κ a0) fun x4 =>
      some x4
   else
    Option.bind (Ev.Seat.scalShow κ a0) fun x3 =>
     some x3
 else
  bif (decide (a0 > (0 : Int))) then
   bif ((Int.tmod a0 (1000 : Int)) == (0 : Int)) then
    Option.bind (Ev.Seat.scalShow κ (IntKind.wrap IntKind.u64 (Int.tdiv a0 (1000 : Int)))) fun x2 =>
     bif (Nat.ble ((ByteArray.size x2) + (ByteArray.size (ByteArray.mk (List.toArray ((107 : UInt8) :: []))))) Ev.maxI) then
      some (x2 ++ (ByteArray.mk (List.toArray ((107 : UInt8) :: []))))
     else
      none
   else
    Option.bind (Ev.Seat.scalShow κ a0) fun x1 =>
     some x1
  else
   Option.bind (Ev.Seat.scalShow κ a0) fun x0 =>
    some x0
def scalar_Rate.v1 (κ : Nat) (a0 a1 : Int) (a2 : Bool) (a3 : Int) : Option (Int × Bool) :=
 bif a2 then
  bif (decide (a0 = (0 : Int))) then
   none
  else
   some (a3, ((IntKind.wrap IntKind.u64 (Int.tdiv a3 a0)) == a1))
 else
  some (a3, Bool.false)
def scalar_Rate (κ : Nat) (a0 : ByteArray) : Option (Int × Bool) :=
 Option.bind (Ev.Seat.strings_CutSuffix κ a0 (ByteArray.mk (List.toArray ((109 : UInt8) :: [])))) fun x0 =>
  bif x0.2 then
   Option.bind (Ev.Seat.scalUint κ x0.1) fun x6 =>
    Option.bind (Ev.Seat.scalar_Rate.v1 κ (1000000 : Int) x6.1 x6.2 (IntKind.wrap IntKind.u64 (x6.1 * (1000000 : Int)))) fun x7 =>
     bif x7.2 then
      some (x7.1, Bool.true)
     else
      some ((0 : Int), Bool.false)
  else
   Option.bind (Ev.Seat.strings_CutSuffix κ a0 (ByteArray.mk (List.toArray ((107 : UInt8) :: [])))) fun x1 =>
    bif x1.2 then
     Option.bind (Ev.Seat.scalUint κ x1.1) fun x4 =>
      Option.bind (Ev.Seat.scalar_Rate.v1 κ (1000 : Int) x4.1 x4.2 (IntKind.wrap IntKind.u64 (x4.1 * (1000 : Int)))) fun x5 =>
       bif x5.2 then
        some (x5.1, Bool.true)
       else
        some ((0 : Int), Bool.false)
    else
     Option.bind (Ev.Seat.scalUint κ a0) fun x2 =>
      Option.bind (Ev.Seat.scalar_Rate.v1 κ (1 : Int) x2.1 x2.2 (IntKind.wrap IntKind.u64 (x2.1 * (1 : Int)))) fun x3 =>
       bif x3.2 then
        some (x3.1, Bool.true)
       else
        some ((0 : Int), Bool.false)
def spec_Find_1 (κ : Nat) (a0 : ByteArray) (a1 a2 a3 a4 : Int) (a5 : List ByteArray) (a6 : Bool) (a7 : Int) (a8 : List SpecSpec) (a9 : ByteArray) : Option (Bool × ByteArray) :=
 some ((Ev.seq a0 a9), a9)
def slices_IndexFunc.w0 (κ : Nat) (rec : ((List SpecSpec) × Int × Int × ByteArray) → Option ((ByteArray) ⊕ (Int × ByteArray))) (a0 : List SpecSpec) (a1 a2 : Int) (a3 : ByteArray) : Option ((ByteArray) ⊕ (Int × ByteArray)) :=
 bif (decide (a2 < a1)) then
  bif (decide ((0 : Int) ≤ a2)) then
   Option.bind (a0[(Int.toNat a2)]?) fun x0 =>
    bif (Ev.seq (Ev.Seat.SpecSpec.name x0) a3) then
     some (.inr (a2, a3))
    else
     rec (a0, a1, (IntKind.wrap IntKind.i64 (a2 + (1 : Int))), a3)
  else
   none
 else
  some (.inl a3)
def slices_IndexFunc.l0 (κ : Nat) : Nat → ((List SpecSpec) × Int × Int × ByteArray) → Option ((ByteArray) ⊕ (Int × ByteArray))
 | 0, _ => none
 | k + 1, (a0, a1, a2, a3) => slices_IndexFunc.w0 κ (slices_IndexFunc.l0 κ k) a0 a1 a2 a3
def slices_IndexFunc (κ : Nat) (a0 : List SpecSpec) (a1 : ByteArray) : Option (Int × ByteArray) :=
 Option.bind (Ev.Seat.slices_IndexFunc.l0 κ κ (Prod.mk a0 (Prod.mk (((List.length a0) : Nat) : Int) (Prod.mk (0 : Int) a1)))) fun x0 =>
  match x0 with
  | .inl x1 =>
   some ((-(1 : Int)), x1)
  | .inr x2 =>
   some (x2.1, x2.2)
def spec_Find (κ : Nat) (a0 : ByteArray) (a1 a2 a3 a4 : Int) (a5 : List ByteArray) (a6 : Bool) (a7 : Int) (a8 : List SpecSpec) (a9 : ByteArray) : Option (Int) :=
 Option.bind (Ev.Seat.slices_IndexFunc κ a8 a9) fun x0 =>
  some x0.1
def spec_At.w0 (κ : Nat) (rec : ((List ByteArray) × Int × Int × ByteArray × Int × Int × Int × Int × Bool × Int × ByteArray × Int × Int × Int × Int × (List ByteArray) × Bool × Int × (List SpecSpec)) → Option ((ByteArray × Int × Int × Int × Int × Bool × Int × ByteArray × Int × Int × Int × Int × (List ByteArray) × Bool × Int × (List SpecSpec)) ⊕ (Int × ByteArray × Int × Int × Int × Int × Bool × Int))) (a0 : List ByteArray) (a1 a2 : Int) (a3 : ByteArray) (a4 a5 a6 a7 : Int) (a8 : Bool) (a9 : Int) (a10 : ByteArray) (a11 a12 a13 a14 : Int) (a15 : List ByteArray) (a16 : Bool) (a17 : Int) (a18 : List SpecSpec) : Option ((ByteArray × Int × Int × Int × Int × Bool × Int × ByteArray × Int × Int × Int × Int × (List ByteArray) × Bool × Int × (List SpecSpec)) ⊕ (Int × ByteArray × Int × Int × Int × Int × Bool × Int)) :=
 bif (decide (a2 < a1)) then
  bif (decide ((0 : Int) ≤ a2)) then
   Option.bind (a0[(Int.toNat a2)]?) fun x0 =>
    Option.bind (Ev.Seat.spec_Find κ a10 a11 a12 a13 a14 a15 a16 a17 a18 x0) fun x1 =>
     bif (decide (x1 < (0 : Int))) then
      some (.inr ((22 : Int), (ByteArray.mk (List.toArray [])), (0 : Int), (0 : Int), (0 : Int), (0 : Int), Bool.false, (0 : Int)))
     else
      bif (decide ((0 : Int) ≤ x1)) then
       Option.bind (a18[(Int.toNat x1)]?) fun x2 =>
        rec (a0, a1, (IntKind.wrap IntKind.i64 (a2 + (1 : Int))), a3, a4, a5, a6, a7, a8, a9, (Ev.Seat.SpecSpec.name x2), (Ev.Seat.SpecSpec.kind x2), (Ev.Seat.SpecSpec.type_ x2), (Ev.Seat.SpecSpec.min x2), (Ev.Seat.SpecSpec.max x2), (Ev.Seat.SpecSpec.names x2), (Ev.Seat.SpecSpec.must x2), (Ev.Seat.SpecSpec.most x2), (Ev.Seat.SpecSpec.kids x2))
      else
       none
  else
   none
 else
  some (.inl (a3, a4, a5, a6, a7, a8, a9, a10, a11, a12, a13, a14, a15, a16, a17, a18))
def spec_At.l0 (κ : Nat) : Nat → ((List ByteArray) × Int × Int × ByteArray × Int × Int × Int × Int × Bool × Int × ByteArray × Int × Int × Int × Int × (List ByteArray) × Bool × Int × (List SpecSpec)) → Option ((ByteArray × Int × Int × Int × Int × Bool × Int × ByteArray × Int × Int × Int × Int × (List ByteArray) × Bool × Int × (List SpecSpec)) ⊕ (Int × ByteArray × Int × Int × Int × Int × Bool × Int))
 | 0, _ => none
 | k + 1, (a0, a1, a2, a3, a4, a5, a6, a7, a8, a9, a10, a11, a12, a13, a14, a15, a16, a17, a18) => spec_At.w0 κ (spec_At.l0 κ k) a0 a1 a2 a3 a4 a5 a6 a7 a8 a9 a10 a11 a12 a13 a14 a15 a16 a17 a18
def spec_At (κ : Nat) (a0 : Int) (a1 : List ByteArray) : Option (ByteArray × Int × Int × Int × Int × (List ByteArray) × Bool × Int × (List SpecSpec) × Int) :=
 Option.bind (Ev.Seat.spec_Root a0) fun x0 =>
  bif (x0.2 != (0 : Int)) then
   some ((ByteArray.mk (List.toArray [])), (0 : Int), (0 : Int), (0 : Int), (0 : Int), [], Bool.false, (0 : Int), [], x0.2)
  else
   Option.bind (Ev.Seat.spec_At.l0 κ κ (Prod.mk a1 (Prod.mk (((List.length a1) : Nat) : Int) (Prod.mk (0 : Int) (Prod.mk (ByteArray.mk (List.toArray [])) (Prod.mk (0 : Int) (Prod.mk (0 : Int) (Prod.mk (0 : Int) (Prod.mk (0 : Int) (Prod.mk Bool.false (Prod.mk (0 : Int) (Prod.mk (Ev.Seat.SpecSpec.name x0.1) (Prod.mk (Ev.Seat.SpecSpec.kind x0.1) (Prod.mk (Ev.Seat.SpecSpec.type_ x0.1) (Prod.mk (Ev.Seat.SpecSpec.min x0.1) (Prod.mk (Ev.Seat.SpecSpec.max x0.1) (Prod.mk (Ev.Seat.SpecSpec.names x0.1) (Prod.mk (Ev.Seat.SpecSpec.must x0.1) (Prod.mk (Ev.Seat.SpecSpec.most x0.1) (Ev.Seat.SpecSpec.kids x0.1)))))))))))))))))))) fun x1 =>
    match x1 with
    | .inl x2 =>
     some (x2.2.2.2.2.2.2.2.1, x2.2.2.2.2.2.2.2.2.1, x2.2.2.2.2.2.2.2.2.2.1, x2.2.2.2.2.2.2.2.2.2.2.1, x2.2.2.2.2.2.2.2.2.2.2.2.1, x2.2.2.2.2.2.2.2.2.2.2.2.2.1, x2.2.2.2.2.2.2.2.2.2.2.2.2.2.1, x2.2.2.2.2.2.2.2.2.2.2.2.2.2.2.1, x2.2.2.2.2.2.2.2.2.2.2.2.2.2.2.2, (0 : Int))
    | .inr x3 =>
     some (x3.2.1, x3.2.2.1, x3.2.2.2.1, x3.2.2.2.2.1, x3.2.2.2.2.2.1, [], x3.2.2.2.2.2.2.1, x3.2.2.2.2.2.2.2, [], x3.1)
def value_of.v0 (κ : Nat) (a0 : Int) (a1 : Bool) : Option (Bool) :=
 bif a1 then
  some a1
 else
  some (a0 == (6 : Int))
def value_of (κ : Nat) (a0 : ByteArray) (a1 a2 a3 a4 : Int) (a5 : List ByteArray) (a6 : Bool) (a7 : Int) (a8 : List SpecSpec) : Option ((Unit) ⊕ ((Unit) ⊕ ((Unit) ⊕ ((Unit) ⊕ ((Unit) ⊕ (Unit)))))) :=
 bif (a1 != (1 : Int)) then
  some (.inl ())
 else
  bif (a2 == (1 : Int)) then
   some (.inr (.inr (.inr (.inr (.inr ())))))
  else
   bif (a2 == (2 : Int)) then
    some (.inr (.inr (.inr (.inr (.inl ())))))
   else
    bif (a2 == (3 : Int)) then
     some (.inr (.inr (.inr (.inl ()))))
    else
     bif (a2 == (4 : Int)) then
      some (.inr (.inr (.inl ())))
     else
      Option.bind (Ev.Seat.value_of.v0 κ a2 (a2 == (5 : Int))) fun x0 =>
       bif x0 then
        some (.inr (.inl ()))
       else
        some (.inl ())
def value_name_parse (κ : Nat) (a0 : ByteArray) : Option (Int × Int × ByteArray × Bool) :=
 some ((0 : Int), (0 : Int), a0, Bool.true)
def scalar_Ident.v0 (κ : Nat) (a0 : ByteArray) : Option (Bool) :=
 bif (!(Ev.seq a0 (ByteArray.mk (List.toArray [])))) then
  bif (decide ((((ByteArray.size a0) : Nat) : Int) ≤ (12 : Int))) then
   bif (((decide ((1 : Int) ≤ (((ByteArray.size a0) : Nat) : Int))) && (decide ((0 : Int) ≤ (0 : Int)))) && (decide ((0 : Int) ≤ (1 : Int)))) then
    bif (Go.Lib.contains (Array.toList (ByteArray.data (ByteArray.mk (List.toArray ((97 : UInt8) :: ((98 : UInt8) :: ((99 : UInt8) :: ((100 : UInt8) :: ((101 : UInt8) :: ((102 : UInt8) :: ((103 : UInt8) :: ((104 : UInt8) :: ((105 : UInt8) :: ((106 : UInt8) :: ((107 : UInt8) :: ((108 : UInt8) :: ((109 : UInt8) :: ((110 : UInt8) :: ((111 : UInt8) :: ((112 : UInt8) :: ((113 : UInt8) :: ((114 : UInt8) :: ((115 : UInt8) :: ((116 : UInt8) :: ((117 : UInt8) :: ((118 : UInt8) :: ((119 : UInt8) :: ((120 : UInt8) :: ((121 : UInt8) :: ((122 : UInt8) :: [])))))))))))))))))))))))))))))) (Array.toList (ByteArray.data (ByteArray.extract a0 (Int.toNat (0 : Int)) (Int.toNat (1 : Int)))))) then
     Option.bind (Ev.Seat.strings_Trim κ a0 (ByteArray.mk (List.toArray ((97 : UInt8) :: ((98 : UInt8) :: ((99 : UInt8) :: ((100 : UInt8) :: ((101 : UInt8) :: ((102 : UInt8) :: ((103 : UInt8) :: ((104 : UInt8) :: ((105 : UInt8) :: ((106 : UInt8) :: ((107 : UInt8) :: ((108 : UInt8) :: ((109 : UInt8) :: ((110 : UInt8) :: ((111 : UInt8) :: ((112 : UInt8) :: ((113 : UInt8) :: ((114 : UInt8) :: ((115 : UInt8) :: ((116 : UInt8) :: ((117 : UInt8) :: ((118 : UInt8) :: ((119 : UInt8) :: ((120 : UInt8) :: ((121 : UInt8) :: ((122 : UInt8) :: ((48 : UInt8) :: ((49 : UInt8) :: ((50 : UInt8) :: ((51 : UInt8) :: ((52 : UInt8) :: ((53 : UInt8) :: ((54 : UInt8) :: ((55 : UInt8) :: ((56 : UInt8) :: ((57 : UInt8) :: ((45 : UInt8) :: [])))))))))))))))))))))))))))))))))))))))) fun x0 =>
      some (Ev.seq x0 (ByteArray.mk (List.toArray [])))
    else
     some Bool.false
   else
    none
  else
   some Bool.false
 else
  some Bool.false
def scalar_Ident (κ : Nat) (a0 : ByteArray) : Option (Bool) :=
 Option.bind (Ev.Seat.scalar_Ident.v0 κ a0) fun x0 =>
  some x0
def value_name_right.v0 (κ : Nat) (a0 a1 : Int) (a2 : ByteArray) : Option (Bool) :=
 Option.bind (Ev.Seat.scalar_Ident κ a2) fun x0 =>
  bif x0 then
   some (a1 == (0 : Int))
  else
   some Bool.false
def value_name_right (κ : Nat) (a0 : ByteArray) (a1 a2 a3 a4 : Int) (a5 : List ByteArray) (a6 : Bool) (a7 : Int) (a8 : List SpecSpec) (a9 a10 : Int) (a11 : ByteArray) : Option (Bool) :=
 Option.bind (Ev.Seat.value_name_right.v0 κ a9 a10 a11) fun x0 =>
  some x0
def slices_Index.w0 (κ : Nat) (rec : ((List ByteArray) × ByteArray × Int × Int) → Option ((Unit) ⊕ (Int))) (a0 : List ByteArray) (a1 : ByteArray) (a2 a3 : Int) : Option ((Unit) ⊕ (Int)) :=
 bif (decide (a3 < a2)) then
  bif (decide ((0 : Int) ≤ a3)) then
   Option.bind (a0[(Int.toNat a3)]?) fun x0 =>
    bif (Ev.seq a1 x0) then
     some (.inr a3)
    else
     rec (a0, a1, a2, (IntKind.wrap IntKind.i64 (a3 + (1 : Int))))
  else
   none
 else
  some (.inl ())
def slices_Index.l0 (κ : Nat) : Nat → ((List ByteArray) × ByteArray × Int × Int) → Option ((Unit) ⊕ (Int))
 | 0, _ => none
 | k + 1, (a0, a1, a2, a3) => slices_Index.w0 κ (slices_Index.l0 κ k) a0 a1 a2 a3
def slices_Index (κ : Nat) (a0 : List ByteArray) (a1 : ByteArray) : Option (Int) :=
 Option.bind (Ev.Seat.slices_Index.l0 κ κ (Prod.mk a0 (Prod.mk a1 (Prod.mk (((List.length a0) : Nat) : Int) (0 : Int))))) fun x0 =>
  match x0 with
  | .inl x1 =>
   some (-(1 : Int))
  | .inr x2 =>
   some x2
def slices_Contains (κ : Nat) (a0 : List ByteArray) (a1 : ByteArray) : Option (Bool) :=
 Option.bind (Ev.Seat.slices_Index κ a0 a1) fun x0 =>
  some (decide (x0 ≥ (0 : Int)))
def value_choice_right.v0 (κ : Nat) (a0 : ByteArray) (a1 a2 a3 a4 : Int) (a5 : List ByteArray) (a6 : Bool) (a7 : Int) (a8 : List SpecSpec) (a9 a10 : Int) (a11 : ByteArray) : Option (Bool) :=
 Option.bind (Ev.Seat.slices_Contains κ a5 a11) fun x0 =>
  bif x0 then
   some (a10 == (0 : Int))
  else
   some Bool.false
def value_choice_right (κ : Nat) (a0 : ByteArray) (a1 a2 a3 a4 : Int) (a5 : List ByteArray) (a6 : Bool) (a7 : Int) (a8 : List SpecSpec) (a9 a10 : Int) (a11 : ByteArray) : Option (Bool) :=
 Option.bind (Ev.Seat.value_choice_right.v0 κ a0 a1 a2 a3 a4 a5 a6 a7 a8 a9 a10 a11) fun x0 =>
  some x0
def value_truth_right.v0 (κ : Nat) (a0 a1 : Int) (a2 : ByteArray) : Option (Bool) :=
 bif (decide (a1 ≤ (1 : Int))) then
  some (Ev.seq a2 (ByteArray.mk (List.toArray [])))
 else
  some Bool.false
def value_truth_right (κ : Nat) (a0 : ByteArray) (a1 a2 a3 a4 : Int) (a5 : List ByteArray) (a6 : Bool) (a7 : Int) (a8 : List SpecSpec) (a9 a10 : Int) (a11 : ByteArray) : Option (Bool) :=
 Option.bind (Ev.Seat.value_truth_right.v0 κ a9 a10 a11) fun x0 =>
  some x0
def value_number_right.v0 (κ : Nat) (a0 : ByteArray) (a1 a2 a3 a4 : Int) (a5 : List ByteArray) (a6 : Bool) (a7 : Int) (a8 : List SpecSpec) (a9 a10 : Int) (a11 : ByteArray) : Option (Bool) :=
 bif (decide (a10 ≥ a3)) then
  bif (decide (a10 ≤ a4)) then
   some (Ev.seq a11 (ByteArray.mk (List.toArray [])))
  else
   some Bool.false
 else
  some Bool.false
def value_number_right (κ : Nat) (a0 : ByteArray) (a1 a2 a3 a4 : Int) (a5 : List ByteArray) (a6 : Bool) (a7 : Int) (a8 : List SpecSpec) (a9 a10 : Int) (a11 : ByteArray) : Option (Bool) :=
 Option.bind (Ev.Seat.value_number_right.v0 κ a0 a1 a2 a3 a4 a5 a6 a7 a8 a9 a10 a11) fun x0 =>
  some x0
def value_number_right_2.v0 (κ : Nat) (a0 : ByteArray) (a1 a2 a3 a4 : Int) (a5 : List ByteArray) (a6 : Bool) (a7 : Int) (a8 : List SpecSpec) (a9 a10 : Int) (a11 : ByteArray) : Option (Bool) :=
 bif (decide (a10 ≥ a3)) then
  bif (decide (a10 ≤ a4)) then
   some (Ev.seq a11 (ByteArray.mk (List.toArray [])))
  else
   some Bool.false
 else
  some Bool.false
def value_number_right_2 (κ : Nat) (a0 : ByteArray) (a1 a2 a3 a4 : Int) (a5 : List ByteArray) (a6 : Bool) (a7 : Int) (a8 : List SpecSpec) (a9 a10 : Int) (a11 : ByteArray) : Option (Bool) :=
 Option.bind (Ev.Seat.value_number_right_2.v0 κ a0 a1 a2 a3 a4 a5 a6 a7 a8 a9 a10 a11) fun x0 =>
  some x0
def value_Right.v0 (κ : Nat) (a0 : ByteArray) (a1 a2 a3 a4 : Int) (a5 : List ByteArray) (a6 : Bool) (a7 : Int) (a8 : List SpecSpec) (a9 a10 : Int) (a11 : ByteArray) : Option (Bool) :=
 some Bool.false
def value_Right.v1 (κ : Nat) (a0 : ByteArray) (a1 a2 a3 a4 : Int) (a5 : List ByteArray) (a6 : Bool) (a7 : Int) (a8 : List SpecSpec) (a9 a10 : Int) (a11 : ByteArray) : Option (Bool) :=
 bif (a9 == a2) then
  Option.bind (Ev.Seat.value_name_right κ a0 a1 a2 a3 a4 a5 a6 a7 a8 a9 a10 a11) fun x0 =>
   some x0
 else
  some Bool.false
def value_Right.v2 (κ : Nat) (a0 : ByteArray) (a1 a2 a3 a4 : Int) (a5 : List ByteArray) (a6 : Bool) (a7 : Int) (a8 : List SpecSpec) (a9 a10 : Int) (a11 : ByteArray) : Option (Bool) :=
 bif (a9 == a2) then
  Option.bind (Ev.Seat.value_choice_right κ a0 a1 a2 a3 a4 a5 a6 a7 a8 a9 a10 a11) fun x0 =>
   some x0
 else
  some Bool.false
def value_Right.v3 (κ : Nat) (a0 : ByteArray) (a1 a2 a3 a4 : Int) (a5 : List ByteArray) (a6 : Bool) (a7 : Int) (a8 : List SpecSpec) (a9 a10 : Int) (a11 : ByteArray) : Option (Bool) :=
 bif (a9 == a2) then
  Option.bind (Ev.Seat.value_truth_right κ a0 a1 a2 a3 a4 a5 a6 a7 a8 a9 a10 a11) fun x0 =>
   some x0
 else
  some Bool.false
def value_Right.v4 (κ : Nat) (a0 : ByteArray) (a1 a2 a3 a4 : Int) (a5 : List ByteArray) (a6 : Bool) (a7 : Int) (a8 : List SpecSpec) (a9 a10 : Int) (a11 : ByteArray) : Option (Bool) :=
 bif (a9 == a2) then
  Option.bind (Ev.Seat.value_number_right κ a0 a1 a2 a3 a4 a5 a6 a7 a8 a9 a10 a11) fun x0 =>
   some x0
 else
  some Bool.false
def value_Right.v5 (κ : Nat) (a0 : ByteArray) (a1 a2 a3 a4 : Int) (a5 : List ByteArray) (a6 : Bool) (a7 : Int) (a8 : List SpecSpec) (a9 a10 : Int) (a11 : ByteArray) : Option (Bool) :=
 bif (a9 == a2) then
  Option.bind (Ev.Seat.value_number_right_2 κ a0 a1 a2 a3 a4 a5 a6 a7 a8 a9 a10 a11) fun x0 =>
   some x0
 else
  some Bool.false
def value_Right (κ : Nat) (a0 : ByteArray) (a1 a2 a3 a4 : Int) (a5 : List ByteArray) (a6 : Bool) (a7 : Int) (a8 : List SpecSpec) (a9 a10 : Int) (a11 : ByteArray) : Option (Bool) :=
 Option.bind (Ev.Seat.value_of κ a0 a1 a2 a3 a4 a5 a6 a7 a8) fun x0 =>
  match x0 with
  | .inl x1 =>
   some Bool.false
  | .inr x2 =>
   match x2 with
   | .inl x3 =>
    Option.bind (Ev.Seat.value_Right.v1 κ a0 a1 a2 a3 a4 a5 a6 a7 a8 a9 a10 a11) fun x4 =>
     some x4
   | .inr x5 =>
    match x5 with
    | .inl x6 =>
     Option.bind (Ev.Seat.value_Right.v2 κ a0 a1 a2 a3 a4 a5 a6 a7 a8 a9 a10 a11) fun x7 =>
      some x7
    | .inr x8 =>
     match x8 with
     | .inl x9 =>
      Option.bind (Ev.Seat.value_Right.v3 κ a0 a1 a2 a3 a4 a5 a6 a7 a8 a9 a10 a11) fun x10 =>
       some x10
     | .inr x11 =>
      match x11 with
      | .inl x12 =>
       Option.bind (Ev.Seat.value_Right.v4 κ a0 a1 a2 a3 a4 a5 a6 a7 a8 a9 a10 a11) fun x13 =>
        some x13
      | .inr x14 =>
       Option.bind (Ev.Seat.value_Right.v5 κ a0 a1 a2 a3 a4 a5 a6 a7 a8 a9 a10 a11) fun x15 =>
        some x15
def value_told.v0 (κ : Nat) (a0 : Bool) (a1 : ByteArray) (a2 a3 a4 a5 : Int) (a6 : List ByteArray) (a7 : Bool) (a8 : Int) (a9 : List SpecSpec) (a10 a11 : Int) (a12 : ByteArray) (a13 a14 : Int) (a15 : ByteArray) : Option (Bool × Int × Int × ByteArray × Int × Int × ByteArray) :=
 bif (!a0) then
  some (Bool.true, a10, a11, a12, a13, a14, a15)
 else
  Option.bind (Ev.Seat.value_Right κ a1 a2 a3 a4 a5 a6 a7 a8 a9 a10 a11 a12) fun x0 =>
   some ((!x0), a10, a11, a12, a13, a14, a15)
def value_told (κ : Nat) (a0 : ByteArray) (a1 a2 a3 a4 : Int) (a5 : List ByteArray) (a6 : Bool) (a7 : Int) (a8 : List SpecSpec) (a9 a10 : Int) (a11 : ByteArray) (a12 : Bool) : Option (Int × Int × ByteArray × Int) :=
 Option.bind (Ev.Seat.value_told.v0 κ a12 a0 a1 a2 a3 a4 a5 a6 a7 a8 a2 a10 a11 (0 : Int) (0 : Int) (ByteArray.mk (List.toArray []))) fun x0 =>
  bif x0.1 then
   some ((0 : Int), (0 : Int), (ByteArray.mk (List.toArray [])), (23 : Int))
  else
   some (x0.2.1, x0.2.2.1, x0.2.2.2.1, (0 : Int))
def value_choice_parse (κ : Nat) (a0 : ByteArray) : Option (Int × Int × ByteArray × Bool) :=
 some ((0 : Int), (0 : Int), a0, Bool.true)
def value_truths (κ : Nat)  : Option ((List ByteArray)) :=
 some ((ByteArray.mk (List.toArray ((102 : UInt8) :: ((97 : UInt8) :: ((108 : UInt8) :: ((115 : UInt8) :: ((101 : UInt8) :: []))))))) :: ((ByteArray.mk (List.toArray ((116 : UInt8) :: ((114 : UInt8) :: ((117 : UInt8) :: ((101 : UInt8) :: [])))))) :: []))
def value_truth_parse (κ : Nat) (a0 : ByteArray) : Option (Int × Int × ByteArray × Bool) :=
 Option.bind (Ev.Seat.slices_Index κ ((ByteArray.mk (List.toArray ((102 : UInt8) :: ((97 : UInt8) :: ((108 : UInt8) :: ((115 : UInt8) :: ((101 : UInt8) :: []))))))) :: ((ByteArray.mk (List.toArray ((116 : UInt8) :: ((114 : UInt8) :: ((117 : UInt8) :: ((101 : UInt8) :: [])))))) :: [])) a0) fun x0 =>
  some ((0 : Int), (IntKind.wrap IntKind.u64 (bif Bool.true then (if ((0 : Int) > x0) then (0 : Int) else x0) else (if ((0 : Int) < x0) then (0 : Int) else x0))), (ByteArray.mk (List.toArray [])), (decide (x0 ≥ (0 : Int))))
def value_number_parse (κ : Nat) (a0 : ByteArray) : Option (Int × Int × ByteArray × Bool) :=
 Option.bind (Ev.Seat.scalar_Rate κ a0) fun x0 =>
  some ((0 : Int), x0.1, (ByteArray.mk (List.toArray [])), x0.2)
def value_number_parse_2 (κ : Nat) (a0 : ByteArray) : Option (Int × Int × ByteArray × Bool) :=
 Option.bind (Ev.Seat.scalUint κ a0) fun x0 =>
  some ((0 : Int), x0.1, (ByteArray.mk (List.toArray [])), x0.2)
def value_Parse (κ : Nat) (a0 : ByteArray) (a1 a2 a3 a4 : Int) (a5 : List ByteArray) (a6 : Bool) (a7 : Int) (a8 : List SpecSpec) (a9 : ByteArray) : Option (Int × Int × ByteArray × Int) :=
 Option.bind (Ev.Seat.value_of κ a0 a1 a2 a3 a4 a5 a6 a7 a8) fun x0 =>
  match x0 with
  | .inl x1 =>
   some ((0 : Int), (0 : Int), (ByteArray.mk (List.toArray [])), (23 : Int))
  | .inr x2 =>
   match x2 with
   | .inl x3 =>
    Option.bind (Ev.Seat.value_told κ a0 a1 a2 a3 a4 a5 a6 a7 a8 (0 : Int) (0 : Int) a9 Bool.true) fun x4 =>
     some (x4.1, x4.2.1, x4.2.2.1, x4.2.2.2)
   | .inr x5 =>
    match x5 with
    | .inl x6 =>
     Option.bind (Ev.Seat.value_told κ a0 a1 a2 a3 a4 a5 a6 a7 a8 (0 : Int) (0 : Int) a9 Bool.true) fun x7 =>
      some (x7.1, x7.2.1, x7.2.2.1, x7.2.2.2)
    | .inr x8 =>
     match x8 with
     | .inl x9 =>
      Option.bind (Ev.Seat.value_truth_parse κ a9) fun x10 =>
       Option.bind (Ev.Seat.value_told κ a0 a1 a2 a3 a4 a5 a6 a7 a8 x10.1 x10.2.1 x10.2.2.1 x10.2.2.2) fun x11 =>
        some (x11.1, x11.2.1, x11.2.2.1, x11.2.2.2)
     | .inr x12 =>
      match x12 with
      | .inl x13 =>
       Option.bind (Ev.Seat.value_number_parse κ a9) fun x14 =>
        Option.bind (Ev.Seat.value_told κ a0 a1 a2 a3 a4 a5 a6 a7 a8 x14.1 x14.2.1 x14.2.2.1 x14.2.2.2) fun x15 =>
         some (x15.1, x15.2.1, x15.2.2.1, x15.2.2.2)
      | .inr x16 =>
       Option.bind (Ev.Seat.value_number_parse_2 κ a9) fun x17 =>
        Option.bind (Ev.Seat.value_told κ a0 a1 a2 a3 a4 a5 a6 a7 a8 x17.1 x17.2.1 x17.2.2.1 x17.2.2.2) fun x18 =>
         some (x18.1, x18.2.1, x18.2.2.1, x18.2.2.2)
def value_name_take (κ : Nat) (a0 : ByteArray) (a1 a2 a3 a4 : Int) (a5 : List ByteArray) (a6 : Bool) (a7 : Int) (a8 : List SpecSpec) (a9 : List Int) : Option (Int × Int × ByteArray × Bool) :=
 some ((0 : Int), (0 : Int), (ByteArray.mk (List.toArray (List.map (fun x => (UInt8.ofNat (Int.toNat x))) a9))), Bool.true)
def value_choice_take.v0 (κ : Nat) (a0 : List Int) (a1 : ByteArray) (a2 a3 a4 a5 : Int) (a6 : List ByteArray) (a7 : Bool) (a8 : Int) (a9 : List SpecSpec) (a10 a11 : Int) (a12 : ByteArray) : Option ((List Int) × Bool × ByteArray × Int × Int × Int × Int × (List ByteArray) × Bool × Int × (List SpecSpec) × Int × Int × ByteArray) :=
 bif ((((List.length a0) : Nat) : Int) != (1 : Int)) then
  some (a0, Bool.true, a1, a2, a3, a4, a5, a6, a7, a8, a9, a10, a11, a12)
 else
  Option.bind (a0[(Int.toNat (0 : Int))]?) fun x0 =>
   some (a0, (decide ((IntKind.wrap IntKind.i64 x0) ≥ (((List.length a6) : Nat) : Int))), a1, a2, a3, a4, a5, a6, a7, a8, a9, a10, a11, a12)
def value_choice_take (κ : Nat) (a0 : ByteArray) (a1 a2 a3 a4 : Int) (a5 : List ByteArray) (a6 : Bool) (a7 : Int) (a8 : List SpecSpec) (a9 : List Int) : Option (Int × Int × ByteArray × Bool) :=
 Option.bind (Ev.Seat.value_choice_take.v0 κ a9 a0 a1 a2 a3 a4 a5 a6 a7 a8 (0 : Int) (0 : Int) (ByteArray.mk (List.toArray []))) fun x0 =>
  bif x0.2.1 then
   some ((0 : Int), (0 : Int), (ByteArray.mk (List.toArray [])), Bool.false)
  else
   Option.bind (x0.1[(Int.toNat (0 : Int))]?) fun x1 =>
    bif (decide ((0 : Int) ≤ x1)) then
     Option.bind (x0.2.2.2.2.2.2.2.1[(Int.toNat x1)]?) fun x2 =>
      some ((0 : Int), (0 : Int), x2, Bool.true)
    else
     none
def octet_Value.w0 (κ : Nat) (rec : (Int × (List Int) × Int × Int) → Option ((Int) ⊕ (Int × Bool))) (a0 : Int) (a1 : List Int) (a2 a3 : Int) : Option ((Int) ⊕ (Int × Bool)) :=
 bif (decide (a3 < a2)) then
  bif (decide ((0 : Int) ≤ a3)) then
   Option.bind (a1[(Int.toNat a3)]?) fun x0 =>
    bif (decide ((Int.fdiv a0 ((2 : Int) ^ (Min.min (Int.toNat (56 : Int)) (IntKind.bits IntKind.u64)))) > (0 : Int))) then
     some (.inr ((0 : Int), Bool.false))
    else
     rec ((IntKind.wrap IntKind.u64 (((BitVec.toNat (HOr.hOr (BitVec.ofInt (IntKind.bits IntKind.u64) (IntKind.wrap IntKind.u64 (a0 * ((2 : Int) ^ (Min.min (Int.toNat (8 : Int)) (IntKind.bits IntKind.u64)))))) (BitVec.ofInt (IntKind.bits IntKind.u64) (IntKind.wrap IntKind.u64 x0)))) : Nat) : Int)), a1, a2, (IntKind.wrap IntKind.i64 (a3 + (1 : Int))))
  else
   none
 else
  some (.inl a0)
def octet_Value.l0 (κ : Nat) : Nat → (Int × (List Int) × Int × Int) → Option ((Int) ⊕ (Int × Bool))
 | 0, _ => none
 | k + 1, (a0, a1, a2, a3) => octet_Value.w0 κ (octet_Value.l0 κ k) a0 a1 a2 a3
def octet_Value (κ : Nat) (a0 : List Int) : Option (Int × Bool) :=
 Option.bind (Ev.Seat.octet_Value.l0 κ κ (Prod.mk (0 : Int) (Prod.mk a0 (Prod.mk (((List.length a0) : Nat) : Int) (0 : Int))))) fun x0 =>
  match x0 with
  | .inl x1 =>
   some (x1, Bool.true)
  | .inr x2 =>
   some (x2.1, x2.2)
def value_truth_take (κ : Nat) (a0 : ByteArray) (a1 a2 a3 a4 : Int) (a5 : List ByteArray) (a6 : Bool) (a7 : Int) (a8 : List SpecSpec) (a9 : List Int) : Option (Int × Int × ByteArray × Bool) :=
 Option.bind (Ev.Seat.octet_Value κ a9) fun x0 =>
  some ((0 : Int), x0.1, (ByteArray.mk (List.toArray [])), x0.2)
def value_number_take (κ : Nat) (a0 : ByteArray) (a1 a2 a3 a4 : Int) (a5 : List ByteArray) (a6 : Bool) (a7 : Int) (a8 : List SpecSpec) (a9 : List Int) : Option (Int × Int × ByteArray × Bool) :=
 Option.bind (Ev.Seat.octet_Value κ a9) fun x0 =>
  some ((0 : Int), x0.1, (ByteArray.mk (List.toArray [])), x0.2)
def value_number_take_2 (κ : Nat) (a0 : ByteArray) (a1 a2 a3 a4 : Int) (a5 : List ByteArray) (a6 : Bool) (a7 : Int) (a8 : List SpecSpec) (a9 : List Int) : Option (Int × Int × ByteArray × Bool) :=
 Option.bind (Ev.Seat.octet_Value κ a9) fun x0 =>
  some ((0 : Int), x0.1, (ByteArray.mk (List.toArray [])), x0.2)
def value_name_data (κ : Nat) (a0 : ByteArray) (a1 a2 a3 a4 : Int) (a5 : List ByteArray) (a6 : Bool) (a7 : Int) (a8 : List SpecSpec) (a9 a10 : Int) (a11 : ByteArray) : Option ((List Int)) :=
 bif (Nat.ble (ByteArray.size a11) Ev.maxI) then
  some (List.map (fun b => (((UInt8.toNat b) : Nat) : Int)) (Array.toList (ByteArray.data a11)))
 else
  none
def slices_Equal.w0 (κ : Nat) (rec : ((List Int) × (List Int) × Int × Int) → Option ((Unit) ⊕ (Bool))) (a0 a1 : List Int) (a2 a3 : Int) : Option ((Unit) ⊕ (Bool)) :=
 bif (decide (a3 < a2)) then
  bif (decide ((0 : Int) ≤ a3)) then
   Option.bind (a0[(Int.toNat a3)]?) fun x0 =>
    bif (decide ((0 : Int) ≤ a3)) then
     Option.bind (a1[(Int.toNat a3)]?) fun x1 =>
      bif (x0 != x1) then
       some (.inr Bool.false)
      else
       rec (a0, a1, a2, (IntKind.wrap IntKind.i64 (a3 + (1 : Int))))
    else
     none
  else
   none
 else
  some (.inl ())
def slices_Equal.l0 (κ : Nat) : Nat → ((List Int) × (List Int) × Int × Int) → Option ((Unit) ⊕ (Bool))
 | 0, _ => none
 | k + 1, (a0, a1, a2, a3) => slices_Equal.w0 κ (slices_Equal.l0 κ k) a0 a1 a2 a3
def slices_Equal (κ : Nat) (a0 a1 : List Int) : Option (Bool) :=
 bif ((((List.length a0) : Nat) : Int) != (((List.length a1) : Nat) : Int)) then
  some Bool.false
 else
  Option.bind (Ev.Seat.slices_Equal.l0 κ κ (Prod.mk a0 (Prod.mk a1 (Prod.mk (((List.length a0) : Nat) : Int) (0 : Int))))) fun x0 =>
   match x0 with
   | .inl x1 =>
    some Bool.true
   | .inr x2 =>
    some x2
def value_choice_data (κ : Nat) (a0 : ByteArray) (a1 a2 a3 a4 : Int) (a5 : List ByteArray) (a6 : Bool) (a7 : Int) (a8 : List SpecSpec) (a9 a10 : Int) (a11 : ByteArray) : Option ((List Int)) :=
 Option.bind (Ev.Seat.slices_Index κ a5 a11) fun x0 =>
  some ((IntKind.wrap IntKind.u8 x0) :: [])
def value_truth_data (κ : Nat) (a0 : ByteArray) (a1 a2 a3 a4 : Int) (a5 : List ByteArray) (a6 : Bool) (a7 : Int) (a8 : List SpecSpec) (a9 a10 : Int) (a11 : ByteArray) : Option ((List Int)) :=
 some ((IntKind.wrap IntKind.u8 a10) :: [])
def octet_Big.v0 (κ : Nat) (a0 a1 : Int) : Option (Int × Int × Bool) :=
 bif (decide (a1 < (1 : Int))) then
  some (a0, a1, Bool.true)
 else
  some (a0, a1, (decide (a1 > (8 : Int))))
def octet_Big.w2 (κ : Nat) (rec : (Int × Int × (List Int)) → Option ((List Int))) (a0 a1 : Int) (a2 : List Int) : Option ((List Int)) :=
 bif (decide (a1 ≥ (0 : Int))) then
  bif (decide ((IntKind.wrap IntKind.i64 ((8 : Int) * a1)) < (0 : Int))) then
   none
  else
   bif (Nat.ble ((List.length a2) + (List.length ((IntKind.wrap IntKind.u8 (Int.fdiv a0 ((2 : Int) ^ (Min.min (Int.toNat (IntKind.wrap IntKind.i64 ((8 : Int) * a1))) (IntKind.bits IntKind.u64))))) :: []))) (Ev.room (0 + 1))) then
    rec (a0, (IntKind.wrap IntKind.i64 (a1 - (1 : Int))), (a2 ++ ((IntKind.wrap IntKind.u8 (Int.fdiv a0 ((2 : Int) ^ (Min.min (Int.toNat (IntKind.wrap IntKind.i64 ((8 : Int) * a1))) (IntKind.bits IntKind.u64))))) :: [])))
   else
    none
 else
  some a2
def octet_Big.l2 (κ : Nat) : Nat → (Int × Int × (List Int)) → Option ((List Int))
 | 0, _ => none
 | k + 1, (a0, a1, a2) => octet_Big.w2 κ (octet_Big.l2 κ k) a0 a1 a2
def octet_Big (κ : Nat) (a0 a1 : Int) : Option ((List Int)) :=
 Option.bind (Ev.Seat.octet_Big.v0 κ a0 a1) fun x0 =>
  bif x0.2.2 then
   some []
  else
   Option.bind (Ev.Seat.octet_Big.l2 κ κ (Prod.mk x0.1 (Prod.mk (IntKind.wrap IntKind.i64 (x0.2.1 - (1 : Int))) []))) fun x1 =>
    some x1
def octet_Least.w0 (κ : Nat) (rec : (Int × Int × Int) → Option (Int × Int)) (a0 a1 a2 : Int) : Option (Int × Int) :=
 bif (decide (a2 > (0 : Int))) then
  rec (a0, (IntKind.wrap IntKind.i64 (a1 + (1 : Int))), (Int.fdiv a2 ((2 : Int) ^ (Min.min (Int.toNat (8 : Int)) (IntKind.bits IntKind.u64)))))
 else
  some (a0, a1)
def octet_Least.l0 (κ : Nat) : Nat → (Int × Int × Int) → Option (Int × Int)
 | 0, _ => none
 | k + 1, (a0, a1, a2) => octet_Least.w0 κ (octet_Least.l0 κ k) a0 a1 a2
def octet_Least (κ : Nat) (a0 : Int) : Option ((List Int)) :=
 Option.bind (Ev.Seat.octet_Least.l0 κ κ (Prod.mk a0 (Prod.mk (0 : Int) a0))) fun x0 =>
  Option.bind (Ev.Seat.octet_Big κ x0.1 x0.2) fun x1 =>
   some x1
def value_number_data (κ : Nat) (a0 : ByteArray) (a1 a2 a3 a4 : Int) (a5 : List ByteArray) (a6 : Bool) (a7 : Int) (a8 : List SpecSpec) (a9 a10 : Int) (a11 : ByteArray) : Option ((List Int)) :=
 Option.bind (Ev.Seat.octet_Least κ a10) fun x0 =>
  some x0
def value_number_data_2 (κ : Nat) (a0 : ByteArray) (a1 a2 a3 a4 : Int) (a5 : List ByteArray) (a6 : Bool) (a7 : Int) (a8 : List SpecSpec) (a9 a10 : Int) (a11 : ByteArray) : Option ((List Int)) :=
 Option.bind (Ev.Seat.octet_Least κ a10) fun x0 =>
  some x0
def value_Take.v0 (κ : Nat) (a0 : List Int) (a1 : Int) (a2 : ByteArray) (a3 a4 a5 a6 : Int) (a7 : List ByteArray) (a8 : Bool) (a9 : Int) (a10 : List SpecSpec) (a11 a12 : Int) (a13 : ByteArray) (a14 a15 : Int) (a16 : ByteArray) : Option (Int × Bool × Int × Int × ByteArray × Int × Int × ByteArray) :=
 bif (a1 == (0 : Int)) then
  Option.bind (Ev.Seat.value_name_data κ a2 a3 a4 a5 a6 a7 a8 a9 a10 a14 a15 a16) fun x0 =>
   Option.bind (Ev.Seat.slices_Equal κ x0 a0) fun x1 =>
    some (a1, (!x1), a11, a12, a13, a14, a15, a16)
 else
  some (a1, Bool.false, a11, a12, a13, a14, a15, a16)
def value_Take.v1 (κ : Nat) (a0 : List Int) (a1 : Int) (a2 : ByteArray) (a3 a4 a5 a6 : Int) (a7 : List ByteArray) (a8 : Bool) (a9 : Int) (a10 : List SpecSpec) (a11 a12 : Int) (a13 : ByteArray) (a14 a15 : Int) (a16 : ByteArray) : Option (Int × Bool × Int × Int × ByteArray × Int × Int × ByteArray) :=
 bif (a1 == (0 : Int)) then
  Option.bind (Ev.Seat.value_choice_data κ a2 a3 a4 a5 a6 a7 a8 a9 a10 a14 a15 a16) fun x0 =>
   Option.bind (Ev.Seat.slices_Equal κ x0 a0) fun x1 =>
    some (a1, (!x1), a11, a12, a13, a14, a15, a16)
 else
  some (a1, Bool.false, a11, a12, a13, a14, a15, a16)
def value_Take.v2 (κ : Nat) (a0 : List Int) (a1 : Int) (a2 : ByteArray) (a3 a4 a5 a6 : Int) (a7 : List ByteArray) (a8 : Bool) (a9 : Int) (a10 : List SpecSpec) (a11 a12 : Int) (a13 : ByteArray) (a14 a15 : Int) (a16 : ByteArray) : Option (Int × Bool × Int × Int × ByteArray × Int × Int × ByteArray) :=
 bif (a1 == (0 : Int)) then
  Option.bind (Ev.Seat.slices_Equal κ ((IntKind.wrap IntKind.u8 a15) :: []) a0) fun x0 =>
   some (a1, (!x0), a11, a12, a13, a14, a15, a16)
 else
  some (a1, Bool.false, a11, a12, a13, a14, a15, a16)
def value_Take.v3 (κ : Nat) (a0 : List Int) (a1 : Int) (a2 : ByteArray) (a3 a4 a5 a6 : Int) (a7 : List ByteArray) (a8 : Bool) (a9 : Int) (a10 : List SpecSpec) (a11 a12 : Int) (a13 : ByteArray) (a14 a15 : Int) (a16 : ByteArray) : Option (Int × Bool × Int × Int × ByteArray × Int × Int × ByteArray) :=
 bif (a1 == (0 : Int)) then
  Option.bind (Ev.Seat.value_number_data κ a2 a3 a4 a5 a6 a7 a8 a9 a10 a14 a15 a16) fun x0 =>
   Option.bind (Ev.Seat.slices_Equal κ x0 a0) fun x1 =>
    some (a1, (!x1), a11, a12, a13, a14, a15, a16)
 else
  some (a1, Bool.false, a11, a12, a13, a14, a15, a16)
def value_Take.v4 (κ : Nat) (a0 : List Int) (a1 : Int) (a2 : ByteArray) (a3 a4 a5 a6 : Int) (a7 : List ByteArray) (a8 : Bool) (a9 : Int) (a10 : List SpecSpec) (a11 a12 : Int) (a13 : ByteArray) (a14 a15 : Int) (a16 : ByteArray) : Option (Int × Bool × Int × Int × ByteArray × Int × Int × ByteArray) :=
 bif (a1 == (0 : Int)) then
  Option.bind (Ev.Seat.value_number_data_2 κ a2 a3 a4 a5 a6 a7 a8 a9 a10 a14 a15 a16) fun x0 =>
   Option.bind (Ev.Seat.slices_Equal κ x0 a0) fun x1 =>
    some (a1, (!x1), a11, a12, a13, a14, a15, a16)
 else
  some (a1, Bool.false, a11, a12, a13, a14, a15, a16)
def value_Take (κ : Nat) (a0 : ByteArray) (a1 a2 a3 a4 : Int) (a5 : List ByteArray) (a6 : Bool) (a7 : Int) (a8 : List SpecSpec) (a9 : List Int) : Option (Int × Int × ByteArray × Int) :=
 Option.bind (Ev.Seat.value_of κ a0 a1 a2 a3 a4 a5 a6 a7 a8) fun x0 =>
  match x0 with
  | .inl x1 =>
   some ((0 : Int), (0 : Int), (ByteArray.mk (List.toArray [])), (23 : Int))
  | .inr x2 =>
   match x2 with
   | .inl x3 =>
    Option.bind (Ev.Seat.value_told κ a0 a1 a2 a3 a4 a5 a6 a7 a8 (0 : Int) (0 : Int) (ByteArray.mk (List.toArray (List.map (fun x => (UInt8.ofNat (Int.toNat x))) a9))) Bool.true) fun x4 =>
     Option.bind (Ev.Seat.value_Take.v0 κ a9 x4.2.2.2 a0 a1 a2 a3 a4 a5 a6 a7 a8 (0 : Int) (0 : Int) (ByteArray.mk (List.toArray [])) x4.1 x4.2.1 x4.2.2.1) fun x5 =>
      bif x5.2.1 then
       some ((0 : Int), (0 : Int), (ByteArray.mk (List.toArray [])), (23 : Int))
      else
       some (x5.2.2.2.2.2.1, x5.2.2.2.2.2.2.1, x5.2.2.2.2.2.2.2, x5.1)
   | .inr x6 =>
    match x6 with
    | .inl x7 =>
     Option.bind (Ev.Seat.value_choice_take κ a0 a1 a2 a3 a4 a5 a6 a7 a8 a9) fun x8 =>
      Option.bind (Ev.Seat.value_told κ a0 a1 a2 a3 a4 a5 a6 a7 a8 x8.1 x8.2.1 x8.2.2.1 x8.2.2.2) fun x9 =>
       Option.bind (Ev.Seat.value_Take.v1 κ a9 x9.2.2.2 a0 a1 a2 a3 a4 a5 a6 a7 a8 (0 : Int) (0 : Int) (ByteArray.mk (List.toArray [])) x9.1 x9.2.1 x9.2.2.1) fun x10 =>
        bif x10.2.1 then
         some ((0 : Int), (0 : Int), (ByteArray.mk (List.toArray [])), (23 : Int))
        else
         some (x10.2.2.2.2.2.1, x10.2.2.2.2.2.2.1, x10.2.2.2.2.2.2.2, x10.1)
    | .inr x11 =>
     match x11 with
     | .inl x12 =>
      Option.bind (Ev.Seat.value_truth_take κ a0 a1 a2 a3 a4 a5 a6 a7 a8 a9) fun x13 =>
       Option.bind (Ev.Seat.value_told κ a0 a1 a2 a3 a4 a5 a6 a7 a8 x13.1 x13.2.1 x13.2.2.1 x13.2.2.2) fun x14 =>
        Option.bind (Ev.Seat.value_Take.v2 κ a9 x14.2.2.2 a0 a1 a2 a3 a4 a5 a6 a7 a8 (0 : Int) (0 : Int) (ByteArray.mk (List.toArray [])) x14.1 x14.2.1 x14.2.2.1) fun x15 =>
         bif x15.2.1 then
          some ((0 : Int), (0 : Int), (ByteArray.mk (List.toArray [])), (23 : Int))
         else
          some (x15.2.2.2.2.2.1, x15.2.2.2.2.2.2.1, x15.2.2.2.2.2.2.2, x15.1)
     | .inr x16 =>
      match x16 with
      | .inl x17 =>
       Option.bind (Ev.Seat.value_number_take κ a0 a1 a2 a3 a4 a5 a6 a7 a8 a9) fun x18 =>
        Option.bind (Ev.Seat.value_told κ a0 a1 a2 a3 a4 a5 a6 a7 a8 x18.1 x18.2.1 x18.2.2.1 x18.2.2.2) fun x19 =>
         Option.bind (Ev.Seat.value_Take.v3 κ a9 x19.2.2.2 a0 a1 a2 a3 a4 a5 a6 a7 a8 (0 : Int) (0 : Int) (ByteArray.mk (List.toArray [])) x19.1 x19.2.1 x19.2.2.1) fun x20 =>
          bif x20.2.1 then
           some ((0 : Int), (0 : Int), (ByteArray.mk (List.toArray [])), (23 : Int))
          else
           some (x20.2.2.2.2.2.1, x20.2.2.2.2.2.2.1, x20.2.2.2.2.2.2.2, x20.1)
      | .inr x21 =>
       Option.bind (Ev.Seat.value_number_take_2 κ a0 a1 a2 a3 a4 a5 a6 a7 a8 a9) fun x22 =>
        Option.bind (Ev.Seat.value_told κ a0 a1 a2 a3 a4 a5 a6 a7 a8 x22.1 x22.2.1 x22.2.2.1 x22.2.2.2) fun x23 =>
         Option.bind (Ev.Seat.value_Take.v4 κ a9 x23.2.2.2 a0 a1 a2 a3 a4 a5 a6 a7 a8 (0 : Int) (0 : Int) (ByteArray.mk (List.toArray [])) x23.1 x23.2.1 x23.2.2.1) fun x24 =>
          bif x24.2.1 then
           some ((0 : Int), (0 : Int), (ByteArray.mk (List.toArray [])), (23 : Int))
          else
           some (x24.2.2.2.2.2.1, x24.2.2.2.2.2.2.1, x24.2.2.2.2.2.2.2, x24.1)
def value_name_text (κ : Nat) (a0 a1 : Int) (a2 : ByteArray) : Option (ByteArray) :=
 some a2
def value_choice_text (κ : Nat) (a0 a1 : Int) (a2 : ByteArray) : Option (ByteArray) :=
 some a2
def value_truth_text (κ : Nat) (a0 a1 : Int) (a2 : ByteArray) : Option (ByteArray) :=
 bif ((decide ((0 : Int) ≤ a1)) && (Nat.blt (Int.toNat a1) (List.length ((ByteArray.mk (List.toArray ((102 : UInt8) :: ((97 : UInt8) :: ((108 : UInt8) :: ((115 : UInt8) :: ((101 : UInt8) :: []))))))) :: ((ByteArray.mk (List.toArray ((116 : UInt8) :: ((114 : UInt8) :: ((117 : UInt8) :: ((101 : UInt8) :: [])))))) :: []))))) then
  Option.bind (((ByteArray.mk (List.toArray ((102 : UInt8) :: ((97 : UInt8) :: ((108 : UInt8) :: ((115 : UInt8) :: ((101 : UInt8) :: []))))))) :: ((ByteArray.mk (List.toArray ((116 : UInt8) :: ((114 : UInt8) :: ((117 : UInt8) :: ((101 : UInt8) :: [])))))) :: []))[(Int.toNat a1)]?) fun x0 =>
   some x0
 else
  none
def value_number_text (κ : Nat) (a0 a1 : Int) (a2 : ByteArray) : Option (ByteArray) :=
 Option.bind (Ev.Seat.scalar_ShowRate κ a1) fun x0 =>
  some x0
def value_number_text_2 (κ : Nat) (a0 a1 : Int) (a2 : ByteArray) : Option (ByteArray) :=
 Option.bind (Ev.Seat.scalShow κ a1) fun x0 =>
  some x0
def value_Text (κ : Nat) (a0 : ByteArray) (a1 a2 a3 a4 : Int) (a5 : List ByteArray) (a6 : Bool) (a7 : Int) (a8 : List SpecSpec) (a9 a10 : Int) (a11 : ByteArray) : Option (ByteArray) :=
 Option.bind (Ev.Seat.value_Right κ a0 a1 a2 a3 a4 a5 a6 a7 a8 a9 a10 a11) fun x0 =>
  bif (!x0) then
   some (ByteArray.mk (List.toArray []))
  else
   Option.bind (Ev.Seat.value_of κ a0 a1 a2 a3 a4 a5 a6 a7 a8) fun x1 =>
    match x1 with
    | .inl x2 =>
     none
    | .inr x3 =>
     match x3 with
     | .inl x4 =>
      some a11
     | .inr x5 =>
      match x5 with
      | .inl x6 =>
       some a11
      | .inr x7 =>
       match x7 with
       | .inl x8 =>
        Option.bind (Ev.Seat.value_truth_text κ a9 a10 a11) fun x9 =>
         some x9
       | .inr x10 =>
        match x10 with
        | .inl x11 =>
         Option.bind (Ev.Seat.value_number_text κ a9 a10 a11) fun x12 =>
          some x12
        | .inr x13 =>
         Option.bind (Ev.Seat.value_number_text_2 κ a9 a10 a11) fun x14 =>
          some x14
def value_Data (κ : Nat) (a0 : ByteArray) (a1 a2 a3 a4 : Int) (a5 : List ByteArray) (a6 : Bool) (a7 : Int) (a8 : List SpecSpec) (a9 a10 : Int) (a11 : ByteArray) : Option ((List Int)) :=
 Option.bind (Ev.Seat.value_Right κ a0 a1 a2 a3 a4 a5 a6 a7 a8 a9 a10 a11) fun x0 =>
  bif (!x0) then
   some []
  else
   Option.bind (Ev.Seat.value_of κ a0 a1 a2 a3 a4 a5 a6 a7 a8) fun x1 =>
    match x1 with
    | .inl x2 =>
     none
    | .inr x3 =>
     match x3 with
     | .inl x4 =>
      Option.bind (Ev.Seat.value_name_data κ a0 a1 a2 a3 a4 a5 a6 a7 a8 a9 a10 a11) fun x5 =>
       some x5
     | .inr x6 =>
      match x6 with
      | .inl x7 =>
       Option.bind (Ev.Seat.value_choice_data κ a0 a1 a2 a3 a4 a5 a6 a7 a8 a9 a10 a11) fun x8 =>
        some x8
      | .inr x9 =>
       match x9 with
       | .inl x10 =>
        some ((IntKind.wrap IntKind.u8 a10) :: [])
       | .inr x11 =>
        match x11 with
        | .inl x12 =>
         Option.bind (Ev.Seat.value_number_data κ a0 a1 a2 a3 a4 a5 a6 a7 a8 a9 a10 a11) fun x13 =>
          some x13
        | .inr x14 =>
         Option.bind (Ev.Seat.value_number_data_2 κ a0 a1 a2 a3 a4 a5 a6 a7 a8 a9 a10 a11) fun x15 =>
          some x15
def l08_awake.v0 (κ : Nat) (a0 a1 a2 a3 a4 : Int) (a5 : ByteArray) (a6 a7 a8 a9 : Int) (a10 : List ByteArray) (a11 : Bool) (a12 : Int) (a13 : List SpecSpec) (a14 a15 : Int) (a16 : ByteArray) (a17 a18 : Int) (a19 : ByteArray) (a20 a21 : Int) (a22 : ByteArray) : Option (Bool) :=
 bif (a0 == (0 : Int)) then
  Option.bind (Ev.Seat.value_Right κ a5 a6 a7 a8 a9 a10 a11 a12 a13 a14 a15 a16) fun x0 =>
   bif x0 then
    Option.bind (Ev.Seat.value_Right κ a5 a6 a7 a8 a9 a10 a11 a12 a13 (1 : Int) (2000 : Int) (ByteArray.mk (List.toArray []))) fun x1 =>
     bif (!x1) then
      Option.bind (Ev.Seat.value_Text κ a5 a6 a7 a8 a9 a10 a11 a12 a13 a14 a15 a16) fun x2 =>
       bif (Ev.seq x2 (ByteArray.mk (List.toArray ((50 : UInt8) :: ((107 : UInt8) :: []))))) then
        Option.bind (Ev.Seat.value_Data κ a5 a6 a7 a8 a9 a10 a11 a12 a13 a14 a15 a16) fun x3 =>
         bif (Ev.seq (ByteArray.mk (List.toArray (List.map (fun x => (UInt8.ofNat (Int.toNat x))) x3))) (ByteArray.mk (List.toArray ((7 : UInt8) :: ((208 : UInt8) :: []))))) then
          bif ((a17 == a14) && ((a18 == a15) && (Ev.seq a19 a16))) then
           bif (a1 == (0 : Int)) then
            bif ((a20 == a14) && ((a21 == a15) && (Ev.seq a22 a16))) then
             bif (a2 == (0 : Int)) then
              bif (a3 == (23 : Int)) then
               some (a4 == (23 : Int))
              else
               some Bool.false
             else
              some Bool.false
            else
             some Bool.false
           else
            some Bool.false
          else
           some Bool.false
         else
          some Bool.false
       else
        some Bool.false
     else
      some Bool.false
   else
    some Bool.false
 else
  some Bool.false
def l08_awake (κ : Nat)  : Option (Bool) :=
 Option.bind (Ev.Seat.spec_At κ (1 : Int) ((ByteArray.mk (List.toArray ((112 : UInt8) :: ((111 : UInt8) :: ((114 : UInt8) :: ((116 : UInt8) :: [])))))) :: ((ByteArray.mk (List.toArray ((99 : UInt8) :: ((108 : UInt8) :: ((97 : UInt8) :: ((115 : UInt8) :: ((115 : UInt8) :: []))))))) :: ((ByteArray.mk (List.toArray ((114 : UInt8) :: ((97 : UInt8) :: ((116 : UInt8) :: ((101 : UInt8) :: [])))))) :: [])))) fun x0 =>
  Option.bind (Ev.Seat.value_Parse κ x0.1 x0.2.1 x0.2.2.1 x0.2.2.2.1 x0.2.2.2.2.1 x0.2.2.2.2.2.1 x0.2.2.2.2.2.2.1 x0.2.2.2.2.2.2.2.1 x0.2.2.2.2.2.2.2.2.1 (ByteArray.mk (List.toArray ((50 : UInt8) :: ((48 : UInt8) :: ((48 : UInt8) :: ((48 : UInt8) :: []))))))) fun x1 =>
   Option.bind (Ev.Seat.value_Take κ x0.1 x0.2.1 x0.2.2.1 x0.2.2.2.1 x0.2.2.2.2.1 x0.2.2.2.2.2.1 x0.2.2.2.2.2.2.1 x0.2.2.2.2.2.2.2.1 x0.2.2.2.2.2.2.2.2.1 ((7 : Int) :: ((208 : Int) :: []))) fun x2 =>
    Option.bind (Ev.Seat.value_Take κ x0.1 x0.2.1 x0.2.2.1 x0.2.2.2.1 x0.2.2.2.2.1 x0.2.2.2.2.2.1 x0.2.2.2.2.2.2.1 x0.2.2.2.2.2.2.2.1 x0.2.2.2.2.2.2.2.2.1 ((0 : Int) :: ((7 : Int) :: []))) fun x3 =>
     Option.bind (Ev.Seat.value_Parse κ x0.1 x0.2.1 x0.2.2.1 x0.2.2.2.1 x0.2.2.2.2.1 x0.2.2.2.2.2.1 x0.2.2.2.2.2.2.1 x0.2.2.2.2.2.2.2.1 x0.2.2.2.2.2.2.2.2.1 (ByteArray.mk (List.toArray ((50 : UInt8) :: ((103 : UInt8) :: []))))) fun x4 =>
      Option.bind (Ev.Seat.l08_awake.v0 κ x0.2.2.2.2.2.2.2.2.2 x1.2.2.2 x2.2.2.2 x3.2.2.2 x4.2.2.2 x0.1 x0.2.1 x0.2.2.1 x0.2.2.2.1 x0.2.2.2.2.1 x0.2.2.2.2.2.1 x0.2.2.2.2.2.2.1 x0.2.2.2.2.2.2.2.1 x0.2.2.2.2.2.2.2.2.1 (2 : Int) (2000 : Int) (ByteArray.mk (List.toArray [])) x1.1 x1.2.1 x1.2.2.1 x2.1 x2.2.1 x2.2.2.1) fun x5 =>
       some x5
def r07_num (κ : Nat) (a0 : ByteArray) (a1 a2 a3 : Int) : Option (ByteArray × Int × Int × Int × Int × Bool × Int) :=
 some (a0, (1 : Int), a1, a2, a3, Bool.true, (0 : Int))
def r07_class.v0 (κ : Nat) (a0 : Int) (a1 : Bool) (a2 : List Tollbarref07S) : Option (Int × (List Tollbarref07S)) :=
 bif a1 then
  bif (Nat.ble ((List.length a2) + (List.length ((Ev.Seat.Tollbarref07S.mk (ByteArray.mk (List.toArray ((108 : UInt8) :: ((105 : UInt8) :: ((109 : UInt8) :: ((105 : UInt8) :: ((116 : UInt8) :: []))))))) (1 : Int) (1 : Int) (1 : Int) (64 : Int) [] Bool.true (0 : Int) []) :: []))) (Ev.room (111 + 1))) then
   some (a0, (a2 ++ ((Ev.Seat.Tollbarref07S.mk (ByteArray.mk (List.toArray ((108 : UInt8) :: ((105 : UInt8) :: ((109 : UInt8) :: ((105 : UInt8) :: ((116 : UInt8) :: []))))))) (1 : Int) (1 : Int) (1 : Int) (64 : Int) [] Bool.true (0 : Int) []) :: [])))
  else
   none
 else
  bif (Nat.ble ((List.length a2) + (List.length ((Ev.Seat.Tollbarref07S.mk (ByteArray.mk (List.toArray ((100 : UInt8) :: ((101 : UInt8) :: ((112 : UInt8) :: ((116 : UInt8) :: ((104 : UInt8) :: []))))))) (1 : Int) (1 : Int) (1 : Int) (64 : Int) [] Bool.true (0 : Int) []) :: []))) (Ev.room (111 + 1))) then
   some (a0, (a2 ++ ((Ev.Seat.Tollbarref07S.mk (ByteArray.mk (List.toArray ((100 : UInt8) :: ((101 : UInt8) :: ((112 : UInt8) :: ((116 : UInt8) :: ((104 : UInt8) :: []))))))) (1 : Int) (1 : Int) (1 : Int) (64 : Int) [] Bool.true (0 : Int) []) :: [])))
  else
   none
def r07_class.v2 (κ : Nat) (a0 : Bool) (a1 : List Tollbarref07S) : Option ((List Tollbarref07S)) :=
 bif a0 then
  bif (Nat.ble ((List.length a1) + (List.length ((Ev.Seat.Tollbarref07S.mk (ByteArray.mk (List.toArray ((115 : UInt8) :: ((104 : UInt8) :: ((97 : UInt8) :: ((112 : UInt8) :: ((101 : UInt8) :: ((100 : UInt8) :: [])))))))) (1 : Int) (3 : Int) (0 : Int) (0 : Int) [] Bool.true (0 : Int) []) :: []))) (Ev.room (111 + 1))) then
   some (a1 ++ ((Ev.Seat.Tollbarref07S.mk (ByteArray.mk (List.toArray ((115 : UInt8) :: ((104 : UInt8) :: ((97 : UInt8) :: ((112 : UInt8) :: ((101 : UInt8) :: ((100 : UInt8) :: [])))))))) (1 : Int) (3 : Int) (0 : Int) (0 : Int) [] Bool.true (0 : Int) []) :: []))
  else
   none
 else
  some a1
def r07_class (κ : Nat) (a0 : Int) : Option ((List Tollbarref07S)) :=
 Option.bind (Ev.Seat.r07_class.v0 κ a0 (decide (a0 < (3 : Int))) ((Ev.Seat.Tollbarref07S.mk (ByteArray.mk (List.toArray ((113 : UInt8) :: ((117 : UInt8) :: ((97 : UInt8) :: ((110 : UInt8) :: ((116 : UInt8) :: ((117 : UInt8) :: ((109 : UInt8) :: []))))))))) (1 : Int) (1 : Int) (1500 : Int) (100000 : Int) [] Bool.true (0 : Int) []) :: ((Ev.Seat.Tollbarref07S.mk (ByteArray.mk (List.toArray ((114 : UInt8) :: ((97 : UInt8) :: ((116 : UInt8) :: ((101 : UInt8) :: [])))))) (1 : Int) (2 : Int) (0 : Int) (1000000 : Int) [] Bool.true (0 : Int) []) :: ((Ev.Seat.Tollbarref07S.mk (ByteArray.mk (List.toArray ((98 : UInt8) :: ((117 : UInt8) :: ((114 : UInt8) :: ((115 : UInt8) :: ((116 : UInt8) :: []))))))) (1 : Int) (1 : Int) (1500 : Int) (1000000 : Int) [] Bool.true (0 : Int) []) :: [])))) fun x0 =>
  Option.bind (Ev.Seat.r07_class.v2 κ (decide (x0.1 > (1 : Int))) x0.2) fun x1 =>
   some x1
def r07_Root.v0 (κ : Nat) (a0 : Int) (a1 : ByteArray) (a2 a3 a4 a5 : Int) (a6 : Bool) (a7 : Int) : Option (Int × Bool × ByteArray × Int × Int × Int × Int × Bool × Int) :=
 bif (decide (a0 < (1 : Int))) then
  some (a0, Bool.true, a1, a2, a3, a4, a5, a6, a7)
 else
  some (a0, (decide (a0 > (3 : Int))), a1, a2, a3, a4, a5, a6, a7)
def r07_Root.v2 (κ : Nat) (a0 : Int) (a1 : Bool) (a2 : ByteArray) (a3 a4 a5 a6 : Int) (a7 : Bool) (a8 : Int) (a9 : List Tollbarref07S) : Option (Int × ByteArray × Int × Int × Int × Int × Bool × Int × (List Tollbarref07S)) :=
 bif a1 then
  bif (Nat.ble ((List.length a9) + (List.length ((Ev.Seat.Tollbarref07S.mk (ByteArray.mk (List.toArray ((107 : UInt8) :: ((105 : UInt8) :: ((110 : UInt8) :: ((100 : UInt8) :: [])))))) (1 : Int) (4 : Int) (0 : Int) (0 : Int) ((ByteArray.mk (List.toArray ((101 : UInt8) :: ((100 : UInt8) :: ((103 : UInt8) :: ((101 : UInt8) :: [])))))) :: ((ByteArray.mk (List.toArray ((99 : UInt8) :: ((111 : UInt8) :: ((114 : UInt8) :: ((101 : UInt8) :: [])))))) :: ((ByteArray.mk (List.toArray ((108 : UInt8) :: ((97 : UInt8) :: ((98 : UInt8) :: []))))) :: []))) Bool.false (0 : Int) []) :: []))) (Ev.room (111 + 1))) then
   some (a0, a2, a3, a4, a5, a6, a7, a8, (a9 ++ ((Ev.Seat.Tollbarref07S.mk (ByteArray.mk (List.toArray ((107 : UInt8) :: ((105 : UInt8) :: ((110 : UInt8) :: ((100 : UInt8) :: [])))))) (1 : Int) (4 : Int) (0 : Int) (0 : Int) ((ByteArray.mk (List.toArray ((101 : UInt8) :: ((100 : UInt8) :: ((103 : UInt8) :: ((101 : UInt8) :: [])))))) :: ((ByteArray.mk (List.toArray ((99 : UInt8) :: ((111 : UInt8) :: ((114 : UInt8) :: ((101 : UInt8) :: [])))))) :: ((ByteArray.mk (List.toArray ((108 : UInt8) :: ((97 : UInt8) :: ((98 : UInt8) :: []))))) :: []))) Bool.false (0 : Int) []) :: [])))
  else
   none
 else
  some (a0, a2, a3, a4, a5, a6, a7, a8, a9)
def r07_Root.v4 (κ : Nat) (a0 : Bool) (a1 : ByteArray) (a2 a3 a4 a5 : Int) (a6 : Bool) (a7 : Int) (a8 : List Tollbarref07S) : Option (ByteArray × Int × Int × Int × Int × Bool × Int × (List Tollbarref07S)) :=
 bif a0 then
  bif (Nat.ble ((List.length a8) + (List.length ((Ev.Seat.Tollbarref07S.mk (ByteArray.mk (List.toArray ((119 : UInt8) :: ((97 : UInt8) :: ((105 : UInt8) :: ((116 : UInt8) :: [])))))) (1 : Int) (1 : Int) (1 : Int) (1000 : Int) [] Bool.false (0 : Int) []) :: []))) (Ev.room (111 + 1))) then
   some (a1, a2, a3, a4, a5, a6, a7, (a8 ++ ((Ev.Seat.Tollbarref07S.mk (ByteArray.mk (List.toArray ((119 : UInt8) :: ((97 : UInt8) :: ((105 : UInt8) :: ((116 : UInt8) :: [])))))) (1 : Int) (1 : Int) (1 : Int) (1000 : Int) [] Bool.false (0 : Int) []) :: [])))
  else
   none
 else
  some (a1, a2, a3, a4, a5, a6, a7, a8)
def r07_Root (κ : Nat) (a0 : Int) : Option (ByteArray × Int × Int × Int × Int × Bool × Int × Int × (List Tollbarref07S)) :=
 Option.bind (Ev.Seat.r07_Root.v0 κ a0 (ByteArray.mk (List.toArray [])) (0 : Int) (0 : Int) (0 : Int) (0 : Int) Bool.false (0 : Int)) fun x0 =>
  bif x0.2.1 then
   some ((ByteArray.mk (List.toArray [])), (0 : Int), (0 : Int), (0 : Int), (0 : Int), Bool.false, (0 : Int), (28 : Int), [])
  else
   Option.bind (Ev.Seat.r07_class κ x0.1) fun x1 =>
    Option.bind (Ev.Seat.r07_Root.v2 κ x0.1 (decide (x0.1 > (1 : Int))) x0.2.2.1 x0.2.2.2.1 x0.2.2.2.2.1 x0.2.2.2.2.2.1 x0.2.2.2.2.2.2.1 x0.2.2.2.2.2.2.2.1 x0.2.2.2.2.2.2.2.2 ((Ev.Seat.Tollbarref07S.mk (ByteArray.mk (List.toArray ((117 : UInt8) :: ((112 : UInt8) :: [])))) (1 : Int) (3 : Int) (0 : Int) (0 : Int) [] Bool.false (0 : Int) []) :: ((Ev.Seat.Tollbarref07S.mk (ByteArray.mk (List.toArray ((99 : UInt8) :: ((108 : UInt8) :: ((97 : UInt8) :: ((115 : UInt8) :: ((115 : UInt8) :: []))))))) (3 : Int) (0 : Int) (0 : Int) (0 : Int) [] Bool.false (8 : Int) x1) :: ((Ev.Seat.Tollbarref07S.mk (ByteArray.mk (List.toArray ((114 : UInt8) :: ((117 : UInt8) :: ((108 : UInt8) :: ((101 : UInt8) :: [])))))) (3 : Int) (0 : Int) (0 : Int) (0 : Int) [] Bool.false (16 : Int) ((Ev.Seat.Tollbarref07S.mk (ByteArray.mk (List.toArray ((108 : UInt8) :: ((111 : UInt8) :: ((119 : UInt8) :: []))))) (1 : Int) (1 : Int) (0 : Int) (65535 : Int) [] Bool.true (0 : Int) []) :: ((Ev.Seat.Tollbarref07S.mk (ByteArray.mk (List.toArray ((104 : UInt8) :: ((105 : UInt8) :: ((103 : UInt8) :: ((104 : UInt8) :: [])))))) (1 : Int) (1 : Int) (0 : Int) (65535 : Int) [] Bool.true (0 : Int) []) :: ((Ev.Seat.Tollbarref07S.mk (ByteArray.mk (List.toArray ((99 : UInt8) :: ((108 : UInt8) :: ((97 : UInt8) :: ((115 : UInt8) :: ((115 : UInt8) :: []))))))) (1 : Int) (6 : Int) (0 : Int) (0 : Int) [] Bool.true (0 : Int) []) :: [])))) :: ((Ev.Seat.Tollbarref07S.mk (ByteArray.mk (List.toArray ((100 : UInt8) :: ((101 : UInt8) :: ((102 : UInt8) :: ((97 : UInt8) :: ((117 : UInt8) :: ((108 : UInt8) :: ((116 : UInt8) :: []))))))))) (1 : Int) (6 : Int) (0 : Int) (0 : Int) [] Bool.true (0 : Int) []) :: []))))) fun x2 =>
     Option.bind (Ev.Seat.r07_Root.v4 κ (decide (x2.1 > (2 : Int))) x2.2.1 x2.2.2.1 x2.2.2.2.1 x2.2.2.2.2.1 x2.2.2.2.2.2.1 x2.2.2.2.2.2.2.1 x2.2.2.2.2.2.2.2.1 ((Ev.Seat.Tollbarref07S.mk (ByteArray.mk (List.toArray ((115 : UInt8) :: ((121 : UInt8) :: ((115 : UInt8) :: ((116 : UInt8) :: ((101 : UInt8) :: ((109 : UInt8) :: [])))))))) (1 : Int) (5 : Int) (0 : Int) (0 : Int) [] Bool.false (0 : Int) []) :: ((Ev.Seat.Tollbarref07S.mk (ByteArray.mk (List.toArray ((112 : UInt8) :: ((111 : UInt8) :: ((114 : UInt8) :: ((116 : UInt8) :: [])))))) (3 : Int) (0 : Int) (0 : Int) (0 : Int) [] Bool.false (4 : Int) x2.2.2.2.2.2.2.2.2) :: []))) fun x3 =>
      some ((ByteArray.mk (List.toArray [])), (2 : Int), (0 : Int), (0 : Int), (0 : Int), Bool.false, (0 : Int), (0 : Int), x3.2.2.2.2.2.2.2)
def r07_Find.w0 (κ : Nat) (rec : (ByteArray × Int × ByteArray × Int × Int × Int × Int × Bool × Int × (List Tollbarref07S)) → Option ((Unit) ⊕ (Int))) (a0 : ByteArray) (a1 : Int) (a2 : ByteArray) (a3 a4 a5 a6 : Int) (a7 : Bool) (a8 : Int) (a9 : List Tollbarref07S) : Option ((Unit) ⊕ (Int)) :=
 bif (decide (a1 < (((List.length a9) : Nat) : Int))) then
  bif (decide ((0 : Int) ≤ a1)) then
   Option.bind (a9[(Int.toNat a1)]?) fun x0 =>
    bif (Ev.seq (Ev.Seat.Tollbarref07S.name x0) a0) then
     some (.inr a1)
    else
     rec (a0, (IntKind.wrap IntKind.i64 (a1 + (1 : Int))), a2, a3, a4, a5, a6, a7, a8, a9)
  else
   none
 else
  some (.inl ())
def r07_Find.l0 (κ : Nat) : Nat → (ByteArray × Int × ByteArray × Int × Int × Int × Int × Bool × Int × (List Tollbarref07S)) → Option ((Unit) ⊕ (Int))
 | 0, _ => none
 | k + 1, (a0, a1, a2, a3, a4, a5, a6, a7, a8, a9) => r07_Find.w0 κ (r07_Find.l0 κ k) a0 a1 a2 a3 a4 a5 a6 a7 a8 a9
def r07_Find (κ : Nat) (a0 : ByteArray) (a1 a2 a3 a4 : Int) (a5 : Bool) (a6 : Int) (a7 : List Tollbarref07S) (a8 : ByteArray) : Option (Int) :=
 Option.bind (Ev.Seat.r07_Find.l0 κ κ (Prod.mk a8 (Prod.mk (0 : Int) (Prod.mk a0 (Prod.mk a1 (Prod.mk a2 (Prod.mk a3 (Prod.mk a4 (Prod.mk a5 (Prod.mk a6 a7)))))))))) fun x0 =>
  match x0 with
  | .inl x1 =>
   some (-(1 : Int))
  | .inr x2 =>
   some x2
def r07_Find_2.w0 (κ : Nat) (rec : (ByteArray × Int × ByteArray × Int × Int × Int × Int × (List ByteArray) × Bool × Int × (List Tollbarref07S)) → Option ((Unit) ⊕ (Int))) (a0 : ByteArray) (a1 : Int) (a2 : ByteArray) (a3 a4 a5 a6 : Int) (a7 : List ByteArray) (a8 : Bool) (a9 : Int) (a10 : List Tollbarref07S) : Option ((Unit) ⊕ (Int)) :=
 bif (decide (a1 < (((List.length a10) : Nat) : Int))) then
  bif (decide ((0 : Int) ≤ a1)) then
   Option.bind (a10[(Int.toNat a1)]?) fun x0 =>
    bif (Ev.seq (Ev.Seat.Tollbarref07S.name x0) a0) then
     some (.inr a1)
    else
     rec (a0, (IntKind.wrap IntKind.i64 (a1 + (1 : Int))), a2, a3, a4, a5, a6, a7, a8, a9, a10)
  else
   none
 else
  some (.inl ())
def r07_Find_2.l0 (κ : Nat) : Nat → (ByteArray × Int × ByteArray × Int × Int × Int × Int × (List ByteArray) × Bool × Int × (List Tollbarref07S)) → Option ((Unit) ⊕ (Int))
 | 0, _ => none
 | k + 1, (a0, a1, a2, a3, a4, a5, a6, a7, a8, a9, a10) => r07_Find_2.w0 κ (r07_Find_2.l0 κ k) a0 a1 a2 a3 a4 a5 a6 a7 a8 a9 a10
def r07_Find_2 (κ : Nat) (a0 : ByteArray) (a1 a2 a3 a4 : Int) (a5 : List ByteArray) (a6 : Bool) (a7 : Int) (a8 : List Tollbarref07S) (a9 : ByteArray) : Option (Int) :=
 Option.bind (Ev.Seat.r07_Find_2.l0 κ κ (Prod.mk a9 (Prod.mk (0 : Int) (Prod.mk a0 (Prod.mk a1 (Prod.mk a2 (Prod.mk a3 (Prod.mk a4 (Prod.mk a5 (Prod.mk a6 (Prod.mk a7 a8))))))))))) fun x0 =>
  match x0 with
  | .inl x1 =>
   some (-(1 : Int))
  | .inr x2 =>
   some x2
def r07_At.v5 (κ : Nat) (a0 : List ByteArray) (a1 a2 : Int) (a3 : ByteArray) (a4 a5 a6 a7 : Int) (a8 : Bool) (a9 : Int) (a10 : ByteArray) (a11 a12 a13 a14 : Int) (a15 : List ByteArray) (a16 : Bool) (a17 : Int) (a18 : List Tollbarref07S) : Option ((List ByteArray) × Int × Int × Bool × ByteArray × Int × Int × Int × Int × Bool × Int × ByteArray × Int × Int × Int × Int × (List ByteArray) × Bool × Int × (List Tollbarref07S)) :=
 bif (decide (a2 < (((List.length a0) : Nat) : Int))) then
  some (a0, a1, a2, (a1 == (0 : Int)), a3, a4, a5, a6, a7, a8, a9, a10, a11, a12, a13, a14, a15, a16, a17, a18)
 else
  some (a0, a1, a2, Bool.false, a3, a4, a5, a6, a7, a8, a9, a10, a11, a12, a13, a14, a15, a16, a17, a18)
def r07_At.w4 (κ : Nat) (rec : ((List ByteArray) × Int × Int × ByteArray × Int × Int × Int × Int × Bool × Int × ByteArray × Int × Int × Int × Int × (List ByteArray) × Bool × Int × (List Tollbarref07S)) → Option ((Int × ByteArray × Int × Int × Int × Int × Bool × Int × ByteArray × Int × Int × Int × Int × (List ByteArray) × Bool × Int × (List Tollbarref07S)) ⊕ (Int × ByteArray × Int × Int × Int × Int × Bool × Int))) (a0 : List ByteArray) (a1 a2 : Int) (a3 : ByteArray) (a4 a5 a6 a7 : Int) (a8 : Bool) (a9 : Int) (a10 : ByteArray) (a11 a12 a13 a14 : Int) (a15 : List ByteArray) (a16 : Bool) (a17 : Int) (a18 : List Tollbarref07S) : Option ((Int × ByteArray × Int × Int × Int × Int × Bool × Int × ByteArray × Int × Int × Int × Int × (List ByteArray) × Bool × Int × (List Tollbarref07S)) ⊕ (Int × ByteArray × Int × Int × Int × Int × Bool × Int)) :=
 Option.bind (Ev.Seat.r07_At.v5 κ a0 a1 a2 a3 a4 a5 a6 a7 a8 a9 a10 a11 a12 a13 a14 a15 a16 a17 a18) fun x0 =>
  bif x0.2.2.2.1 then
   bif (decide ((0 : Int) ≤ x0.2.2.1)) then
    Option.bind (x0.1[(Int.toNat x0.2.2.1)]?) fun x1 =>
     Option.bind (Ev.Seat.r07_Find_2 κ x0.2.2.2.2.2.2.2.2.2.2.2.1 x0.2.2.2.2.2.2.2.2.2.2.2.2.1 x0.2.2.2.2.2.2.2.2.2.2.2.2.2.1 x0.2.2.2.2.2.2.2.2.2.2.2.2.2.2.1 x0.2.2.2.2.2.2.2.2.2.2.2.2.2.2.2.1 x0.2.2.2.2.2.2.2.2.2.2.2.2.2.2.2.2.1 x0.2.2.2.2.2.2.2.2.2.2.2.2.2.2.2.2.2.1 x0.2.2.2.2.2.2.2.2.2.2.2.2.2.2.2.2.2.2.1 x0.2.2.2.2.2.2.2.2.2.2.2.2.2.2.2.2.2.2.2 x1) fun x2 =>
      bif (decide (x2 < (0 : Int))) then
       some (.inr ((22 : Int), (ByteArray.mk (List.toArray [])), (0 : Int), (0 : Int), (0 : Int), (0 : Int), Bool.false, (0 : Int)))
      else
       bif (decide ((0 : Int) ≤ x2)) then
        Option.bind (x0.2.2.2.2.2.2.2.2.2.2.2.2.2.2.2.2.2.2.2[(Int.toNat x2)]?) fun x3 =>
         rec (x0.1, x0.2.1, (IntKind.wrap IntKind.i64 (x0.2.2.1 + (1 : Int))), x0.2.2.2.2.1, x0.2.2.2.2.2.1, x0.2.2.2.2.2.2.1, x0.2.2.2.2.2.2.2.1, x0.2.2.2.2.2.2.2.2.1, x0.2.2.2.2.2.2.2.2.2.1, x0.2.2.2.2.2.2.2.2.2.2.1, (Ev.Seat.Tollbarref07S.name x3), (Ev.Seat.Tollbarref07S.kind x3), (Ev.Seat.Tollbarref07S.type_ x3), (Ev.Seat.Tollbarref07S.min x3), (Ev.Seat.Tollbarref07S.max x3), (Ev.Seat.Tollbarref07S.names x3), (Ev.Seat.Tollbarref07S.must x3), (Ev.Seat.Tollbarref07S.most x3), (Ev.Seat.Tollbarref07S.kids x3))
       else
        none
   else
    none
  else
   some (.inl (x0.2.1, x0.2.2.2.2.1, x0.2.2.2.2.2.1, x0.2.2.2.2.2.2.1, x0.2.2.2.2.2.2.2.1, x0.2.2.2.2.2.2.2.2.1, x0.2.2.2.2.2.2.2.2.2.1, x0.2.2.2.2.2.2.2.2.2.2.1, x0.2.2.2.2.2.2.2.2.2.2.2.1, x0.2.2.2.2.2.2.2.2.2.2.2.2.1, x0.2.2.2.2.2.2.2.2.2.2.2.2.2.1, x0.2.2.2.2.2.2.2.2.2.2.2.2.2.2.1, x0.2.2.2.2.2.2.2.2.2.2.2.2.2.2.2.1, x0.2.2.2.2.2.2.2.2.2.2.2.2.2.2.2.2.1, x0.2.2.2.2.2.2.2.2.2.2.2.2.2.2.2.2.2.1, x0.2.2.2.2.2.2.2.2.2.2.2.2.2.2.2.2.2.2.1, x0.2.2.2.2.2.2.2.2.2.2.2.2.2.2.2.2.2.2.2))
def r07_At.l4 (κ : Nat) : Nat → ((List ByteArray) × Int × Int × ByteArray × Int × Int × Int × Int × Bool × Int × ByteArray × Int × Int × Int × Int × (List ByteArray) × Bool × Int × (List Tollbarref07S)) → Option ((Int × ByteArray × Int × Int × Int × Int × Bool × Int × ByteArray × Int × Int × Int × Int × (List ByteArray) × Bool × Int × (List Tollbarref07S)) ⊕ (Int × ByteArray × Int × Int × Int × Int × Bool × Int))
 | 0, _ => none
 | k + 1, (a0, a1, a2, a3, a4, a5, a6, a7, a8, a9, a10, a11, a12, a13, a14, a15, a16, a17, a18) => r07_At.w4 κ (r07_At.l4 κ k) a0 a1 a2 a3 a4 a5 a6 a7 a8 a9 a10 a11 a12 a13 a14 a15 a16 a17 a18
def r07_At (κ : Nat) (a0 : Int) (a1 : List ByteArray) : Option (ByteArray × Int × Int × Int × Int × (List ByteArray) × Bool × Int × (List Tollbarref07S) × Int) :=
 Option.bind (Ev.Seat.r07_Root κ a0) fun x0 =>
  Option.bind (Ev.Seat.r07_At.l4 κ κ (Prod.mk a1 (Prod.mk x0.2.2.2.2.2.2.2.1 (Prod.mk (0 : Int) (Prod.mk (ByteArray.mk (List.toArray [])) (Prod.mk (0 : Int) (Prod.mk (0 : Int) (Prod.mk (0 : Int) (Prod.mk (0 : Int) (Prod.mk Bool.false (Prod.mk (0 : Int) (Prod.mk x0.1 (Prod.mk x0.2.1 (Prod.mk x0.2.2.1 (Prod.mk x0.2.2.2.1 (Prod.mk x0.2.2.2.2.1 (Prod.mk [] (Prod.mk x0.2.2.2.2.2.1 (Prod.mk x0.2.2.2.2.2.2.1 x0.2.2.2.2.2.2.2.2))))))))))))))))))) fun x1 =>
   match x1 with
   | .inl x2 =>
    some (x2.2.2.2.2.2.2.2.2.1, x2.2.2.2.2.2.2.2.2.2.1, x2.2.2.2.2.2.2.2.2.2.2.1, x2.2.2.2.2.2.2.2.2.2.2.2.1, x2.2.2.2.2.2.2.2.2.2.2.2.2.1, x2.2.2.2.2.2.2.2.2.2.2.2.2.2.1, x2.2.2.2.2.2.2.2.2.2.2.2.2.2.2.1, x2.2.2.2.2.2.2.2.2.2.2.2.2.2.2.2.1, x2.2.2.2.2.2.2.2.2.2.2.2.2.2.2.2.2, x2.1)
   | .inr x3 =>
    some (x3.2.1, x3.2.2.1, x3.2.2.2.1, x3.2.2.2.2.1, x3.2.2.2.2.2.1, [], x3.2.2.2.2.2.2.1, x3.2.2.2.2.2.2.2, [], x3.1)
def l08_both.v0 (κ : Nat) (a0 a1 : Int) (a2 : ByteArray) (a3 a4 a5 a6 : Int) (a7 : Bool) (a8 : Int) (a9 : ByteArray) (a10 a11 a12 a13 : Int) (a14 : Bool) (a15 : Int) (a16 : ByteArray) (a17 a18 a19 a20 : Int) (a21 : List ByteArray) (a22 : Bool) (a23 : Int) (a24 : List SpecSpec) (a25 : ByteArray) (a26 a27 a28 a29 : Int) (a30 : List ByteArray) (a31 : Bool) (a32 : Int) (a33 : List Tollbarref07S) : Option (Bool × ByteArray × Int × Int × Int × Int × (List ByteArray) × Bool × Int × (List SpecSpec) × ByteArray × Int × Int × Int × Int × (List ByteArray) × Bool × Int × (List Tollbarref07S)) :=
 bif (a0 == (0 : Int)) then
  some ((a1 == (0 : Int)), a16, a17, a18, a19, a20, a21, a22, a23, a24, a25, a26, a27, a28, a29, a30, a31, a32, a33)
 else
  some (Bool.false, a16, a17, a18, a19, a20, a21, a22, a23, a24, a25, a26, a27, a28, a29, a30, a31, a32, a33)
def l08_both (κ : Nat) (a0 : Int) (a1 : List ByteArray) : Option (ByteArray × Int × Int × Int × Int × (List ByteArray) × Bool × Int × (List SpecSpec) × ByteArray × Int × Int × Int × Int × (List ByteArray) × Bool × Int × (List Tollbarref07S) × Bool) :=
 bif (decide ((((List.length a1) : Nat) : Int) > (20 : Int))) then
  some ((ByteArray.mk (List.toArray [])), (0 : Int), (0 : Int), (0 : Int), (0 : Int), [], Bool.false, (0 : Int), [], (ByteArray.mk (List.toArray [])), (0 : Int), (0 : Int), (0 : Int), (0 : Int), [], Bool.false, (0 : Int), [], Bool.false)
 else
  Option.bind (Ev.Seat.spec_At κ a0 a1) fun x0 =>
   Option.bind (Ev.Seat.r07_At κ a0 a1) fun x1 =>
    Option.bind (Ev.Seat.l08_both.v0 κ x0.2.2.2.2.2.2.2.2.2 x1.2.2.2.2.2.2.2.2.2 (ByteArray.mk (List.toArray [])) (0 : Int) (0 : Int) (0 : Int) (0 : Int) Bool.false (0 : Int) (ByteArray.mk (List.toArray [])) (0 : Int) (0 : Int) (0 : Int) (0 : Int) Bool.false (0 : Int) x0.1 x0.2.1 x0.2.2.1 x0.2.2.2.1 x0.2.2.2.2.1 x0.2.2.2.2.2.1 x0.2.2.2.2.2.2.1 x0.2.2.2.2.2.2.2.1 x0.2.2.2.2.2.2.2.2.1 x1.1 x1.2.1 x1.2.2.1 x1.2.2.2.1 x1.2.2.2.2.1 x1.2.2.2.2.2.1 x1.2.2.2.2.2.2.1 x1.2.2.2.2.2.2.2.1 x1.2.2.2.2.2.2.2.2.1) fun x2 =>
     some (x2.2.1, x2.2.2.1, x2.2.2.2.1, x2.2.2.2.2.1, x2.2.2.2.2.2.1, x2.2.2.2.2.2.2.1, x2.2.2.2.2.2.2.2.1, x2.2.2.2.2.2.2.2.2.1, x2.2.2.2.2.2.2.2.2.2.1, x2.2.2.2.2.2.2.2.2.2.2.1, x2.2.2.2.2.2.2.2.2.2.2.2.1, x2.2.2.2.2.2.2.2.2.2.2.2.2.1, x2.2.2.2.2.2.2.2.2.2.2.2.2.2.1, x2.2.2.2.2.2.2.2.2.2.2.2.2.2.2.1, x2.2.2.2.2.2.2.2.2.2.2.2.2.2.2.2.1, x2.2.2.2.2.2.2.2.2.2.2.2.2.2.2.2.2.1, x2.2.2.2.2.2.2.2.2.2.2.2.2.2.2.2.2.2.1, x2.2.2.2.2.2.2.2.2.2.2.2.2.2.2.2.2.2.2, x2.1)
def l08_ValueBounds.v0 (κ : Nat) (a0 : Int) (a1 : Bool) (a2 : ByteArray) (a3 a4 a5 a6 : Int) (a7 : List ByteArray) (a8 : Bool) (a9 : Int) (a10 : List SpecSpec) : Option (Int × Bool × ByteArray × Int × Int × Int × Int × (List ByteArray) × Bool × Int × (List SpecSpec)) :=
 bif (!a1) then
  some (a0, Bool.true, a2, a3, a4, a5, a6, a7, a8, a9, a10)
 else
  bif (a3 != (1 : Int)) then
   some (a0, Bool.true, a2, a3, a4, a5, a6, a7, a8, a9, a10)
  else
   bif (a4 != (1 : Int)) then
    some (a0, (a4 != (2 : Int)), a2, a3, a4, a5, a6, a7, a8, a9, a10)
   else
    some (a0, Bool.false, a2, a3, a4, a5, a6, a7, a8, a9, a10)
def l08_ValueBounds.v2 (κ : Nat) (a0 : Int) (a1 : ByteArray) (a2 a3 a4 a5 : Int) (a6 : List ByteArray) (a7 : Bool) (a8 : Int) (a9 : List SpecSpec) : Option (Int × Bool × ByteArray × Int × Int × Int × Int × (List ByteArray) × Bool × Int × (List SpecSpec)) :=
 bif (decide (a0 ≥ a4)) then
  some (a0, (decide (a0 ≤ a5)), a1, a2, a3, a4, a5, a6, a7, a8, a9)
 else
  some (a0, Bool.false, a1, a2, a3, a4, a5, a6, a7, a8, a9)
def l08_ValueBounds.v4 (κ : Nat) (a0 : Int) (a1 a2 a3 a4 : Bool) (a5 : ByteArray) (a6 a7 a8 a9 : Int) (a10 : List ByteArray) (a11 : Bool) (a12 : Int) (a13 : List SpecSpec) : Option (Bool) :=
 Option.bind (Ev.Seat.value_Right κ a5 a6 a7 a8 a9 a10 a11 a12 a13 a7 a0 (ByteArray.mk (List.toArray []))) fun x0 =>
  bif (x0 == a1) then
   bif a2 then
    bif a3 then
     bif (!a4) then
      Option.bind (Ev.Seat.value_Right κ a5 a6 a7 a8 a9 a10 a11 a12 a13 a7 a8 (ByteArray.mk (List.toArray ((97 : UInt8) :: [])))) fun x1 =>
       bif (!x1) then
        Option.bind (Ev.Seat.value_Right κ a5 a6 a7 a8 a9 a10 a11 a12 a13 (5 : Int) (0 : Int) (ByteArray.mk (List.toArray ((97 : UInt8) :: [])))) fun x2 =>
         some (!x2)
       else
        some Bool.false
     else
      some Bool.false
    else
     some Bool.false
   else
    some Bool.false
  else
   some Bool.false
def l08_ValueBounds (κ : Nat) (a0 : Int) (a1 : List ByteArray) (a2 : Int) : Option (Bool) :=
 Option.bind (Ev.Seat.l08_awake κ) fun x0 =>
  bif (!x0) then
   some Bool.false
  else
   Option.bind (Ev.Seat.l08_both κ a0 a1) fun x1 =>
    Option.bind (Ev.Seat.l08_ValueBounds.v0 κ a2 x1.2.2.2.2.2.2.2.2.2.2.2.2.2.2.2.2.2.2 x1.1 x1.2.1 x1.2.2.1 x1.2.2.2.1 x1.2.2.2.2.1 x1.2.2.2.2.2.1 x1.2.2.2.2.2.2.1 x1.2.2.2.2.2.2.2.1 x1.2.2.2.2.2.2.2.2.1) fun x2 =>
     bif x2.2.1 then
      some Bool.true
     else
      Option.bind (Ev.Seat.l08_ValueBounds.v2 κ x2.1 x2.2.2.1 x2.2.2.2.1 x2.2.2.2.2.1 x2.2.2.2.2.2.1 x2.2.2.2.2.2.2.1 x2.2.2.2.2.2.2.2.1 x2.2.2.2.2.2.2.2.2.1 x2.2.2.2.2.2.2.2.2.2.1 x2.2.2.2.2.2.2.2.2.2.2) fun x3 =>
       Option.bind (Ev.Seat.value_Right κ x3.2.2.1 x3.2.2.2.1 x3.2.2.2.2.1 x3.2.2.2.2.2.1 x3.2.2.2.2.2.2.1 x3.2.2.2.2.2.2.2.1 x3.2.2.2.2.2.2.2.2.1 x3.2.2.2.2.2.2.2.2.2.1 x3.2.2.2.2.2.2.2.2.2.2 x3.2.2.2.2.1 x3.2.2.2.2.2.1 (ByteArray.mk (List.toArray []))) fun x4 =>
        Option.bind (Ev.Seat.value_Right κ x3.2.2.1 x3.2.2.2.1 x3.2.2.2.2.1 x3.2.2.2.2.2.1 x3.2.2.2.2.2.2.1 x3.2.2.2.2.2.2.2.1 x3.2.2.2.2.2.2.2.2.1 x3.2.2.2.2.2.2.2.2.2.1 x3.2.2.2.2.2.2.2.2.2.2 x3.2.2.2.2.1 x3.2.2.2.2.2.2.1 (ByteArray.mk (List.toArray []))) fun x5 =>
         Option.bind (Ev.Seat.value_Right κ x3.2.2.1 x3.2.2.2.1 x3.2.2.2.2.1 x3.2.2.2.2.2.1 x3.2.2.2.2.2.2.1 x3.2.2.2.2.2.2.2.1 x3.2.2.2.2.2.2.2.2.1 x3.2.2.2.2.2.2.2.2.2.1 x3.2.2.2.2.2.2.2.2.2.2 x3.2.2.2.2.1 (IntKind.wrap IntKind.u64 (x3.2.2.2.2.2.2.1 + (1 : Int))) (ByteArray.mk (List.toArray []))) fun x6 =>
          Option.bind (Ev.Seat.l08_ValueBounds.v4 κ x3.1 x3.2.1 x4 x5 x6 x3.2.2.1 x3.2.2.2.1 x3.2.2.2.2.1 x3.2.2.2.2.2.1 x3.2.2.2.2.2.2.1 x3.2.2.2.2.2.2.2.1 x3.2.2.2.2.2.2.2.2.1 x3.2.2.2.2.2.2.2.2.2.1 x3.2.2.2.2.2.2.2.2.2.2) fun x7 =>
           some x7
end Go.Proofs.YthmohmmbhjpbcaaGreatDoor.Ev.Seat
