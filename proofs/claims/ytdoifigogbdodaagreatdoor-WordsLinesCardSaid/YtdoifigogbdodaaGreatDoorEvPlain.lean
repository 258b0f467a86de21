import Derived.Test.YtdoifigogbdodaaGreatDoorEvSeat
set_option linter.unusedVariables false
set_option linter.unusedSimpArgs false
set_option maxHeartbeats 1000000
namespace Go.Proofs.YtdoifigogbdodaaGreatDoor.Ev.Seat
open Go Ev Go.Proofs
abbrev unc13{A0 A1 A2 A3 A4 A5 A6 A7 A8 A9 A10 A11 A12 R:Type}(f:A0→A1→A2→A3→A4→A5→A6→A7→A8→A9→A10→A11→A12→R)(x:A0×A1×A2×A3×A4×A5×A6×A7×A8×A9×A10×A11×A12):R:=f x.1 x.2.1 x.2.2.1 x.2.2.2.1 x.2.2.2.2.1 x.2.2.2.2.2.1 x.2.2.2.2.2.2.1 x.2.2.2.2.2.2.2.1 x.2.2.2.2.2.2.2.2.1 x.2.2.2.2.2.2.2.2.2.1 x.2.2.2.2.2.2.2.2.2.2.1 x.2.2.2.2.2.2.2.2.2.2.2.1 x.2.2.2.2.2.2.2.2.2.2.2.2
abbrev unc14{A0 A1 A2 A3 A4 A5 A6 A7 A8 A9 A10 A11 A12 A13 R:Type}(f:A0→A1→A2→A3→A4→A5→A6→A7→A8→A9→A10→A11→A12→A13→R)(x:A0×A1×A2×A3×A4×A5×A6×A7×A8×A9×A10×A11×A12×A13):R:=f x.1 x.2.1 x.2.2.1 x.2.2.2.1 x.2.2.2.2.1 x.2.2.2.2.2.1 x.2.2.2.2.2.2.1 x.2.2.2.2.2.2.2.1 x.2.2.2.2.2.2.2.2.1 x.2.2.2.2.2.2.2.2.2.1 x.2.2.2.2.2.2.2.2.2.2.1 x.2.2.2.2.2.2.2.2.2.2.2.1 x.2.2.2.2.2.2.2.2.2.2.2.2.1 x.2.2.2.2.2.2.2.2.2.2.2.2.2
abbrev unc17{A0 A1 A2 A3 A4 A5 A6 A7 A8 A9 A10 A11 A12 A13 A14 A15 A16 R:Type}(f:A0→A1→A2→A3→A4→A5→A6→A7→A8→A9→A10→A11→A12→A13→A14→A15→A16→R)(x:A0×A1×A2×A3×A4×A5×A6×A7×A8×A9×A10×A11×A12×A13×A14×A15×A16):R:=f x.1 x.2.1 x.2.2.1 x.2.2.2.1 x.2.2.2.2.1 x.2.2.2.2.2.1 x.2.2.2.2.2.2.1 x.2.2.2.2.2.2.2.1 x.2.2.2.2.2.2.2.2.1 x.2.2.2.2.2.2.2.2.2.1 x.2.2.2.2.2.2.2.2.2.2.1 x.2.2.2.2.2.2.2.2.2.2.2.1 x.2.2.2.2.2.2.2.2.2.2.2.2.1 x.2.2.2.2.2.2.2.2.2.2.2.2.2.1 x.2.2.2.2.2.2.2.2.2.2.2.2.2.2.1 x.2.2.2.2.2.2.2.2.2.2.2.2.2.2.2.1 x.2.2.2.2.2.2.2.2.2.2.2.2.2.2.2.2
abbrev unc25{A0 A1 A2 A3 A4 A5 A6 A7 A8 A9 A10 A11 A12 A13 A14 A15 A16 A17 A18 A19 A20 A21 A22 A23 A24 R:Type}(f:A0→A1→A2→A3→A4→A5→A6→A7→A8→A9→A10→A11→A12→A13→A14→A15→A16→A17→A18→A19→A20→A21→A22→A23→A24→R)(x:A0×A1×A2×A3×A4×A5×A6×A7×A8×A9×A10×A11×A12×A13×A14×A15×A16×A17×A18×A19×A20×A21×A22×A23×A24):R:=f x.1 x.2.1 x.2.2.1 x.2.2.2.1 x.2.2.2.2.1 x.2.2.2.2.2.1 x.2.2.2.2.2.2.1 x.2.2.2.2.2.2.2.1 x.2.2.2.2.2.2.2.2.1 x.2.2.2.2.2.2.2.2.2.1 x.2.2.2.2.2.2.2.2.2.2.1 x.2.2.2.2.2.2.2.2.2.2.2.1 x.2.2.2.2.2.2.2.2.2.2.2.2.1 x.2.2.2.2.2.2.2.2.2.2.2.2.2.1 x.2.2.2.2.2.2.2.2.2.2.2.2.2.2.1 x.2.2.2.2.2.2.2.2.2.2.2.2.2.2.2.1 x.2.2.2.2.2.2.2.2.2.2.2.2.2.2.2.2.1 x.2.2.2.2.2.2.2.2.2.2.2.2.2.2.2.2.2.1 x.2.2.2.2.2.2.2.2.2.2.2.2.2.2.2.2.2.2.1 x.2.2.2.2.2.2.2.2.2.2.2.2.2.2.2.2.2.2.2.1 x.2.2.2.2.2.2.2.2.2.2.2.2.2.2.2.2.2.2.2.2.1 x.2.2.2.2.2.2.2.2.2.2.2.2.2.2.2.2.2.2.2.2.2.1 x.2.2.2.2.2.2.2.2.2.2.2.2.2.2.2.2.2.2.2.2.2.2.1 x.2.2.2.2.2.2.2.2.2.2.2.2.2.2.2.2.2.2.2.2.2.2.2.1 x.2.2.2.2.2.2.2.2.2.2.2.2.2.2.2.2.2.2.2.2.2.2.2.2
abbrev unc26{A0 A1 A2 A3 A4 A5 A6 A7 A8 A9 A10 A11 A12 A13 A14 A15 A16 A17 A18 A19 A20 A21 A22 A23 A24 A25 R:Type}(f:A0→A1→A2→A3→A4→A5→A6→A7→A8→A9→A10→A11→A12→A13→A14→A15→A16→A17→A18→A19→A20→A21→A22→A23→A24→A25→R)(x:A0×A1×A2×A3×A4×A5×A6×A7×A8×A9×A10×A11×A12×A13×A14×A15×A16×A17×A18×A19×A20×A21×A22×A23×A24×A25):R:=f x.1 x.2.1 x.2.2.1 x.2.2.2.1 x.2.2.2.2.1 x.2.2.2.2.2.1 x.2.2.2.2.2.2.1 x.2.2.2.2.2.2.2.1 x.2.2.2.2.2.2.2.2.1 x.2.2.2.2.2.2.2.2.2.1 x.2.2.2.2.2.2.2.2.2.2.1 x.2.2.2.2.2.2.2.2.2.2.2.1 x.2.2.2.2.2.2.2.2.2.2.2.2.1 x.2.2.2.2.2.2.2.2.2.2.2.2.2.1 x.2.2.2.2.2.2.2.2.2.2.2.2.2.2.1 x.2.2.2.2.2.2.2.2.2.2.2.2.2.2.2.1 x.2.2.2.2.2.2.2.2.2.2.2.2.2.2.2.2.1 x.2.2.2.2.2.2.2.2.2.2.2.2.2.2.2.2.2.1 x.2.2.2.2.2.2.2.2.2.2.2.2.2.2.2.2.2.2.1 x.2.2.2.2.2.2.2.2.2.2.2.2.2.2.2.2.2.2.2.1 x.2.2.2.2.2.2.2.2.2.2.2.2.2.2.2.2.2.2.2.2.1 x.2.2.2.2.2.2.2.2.2.2.2.2.2.2.2.2.2.2.2.2.2.1 x.2.2.2.2.2.2.2.2.2.2.2.2.2.2.2.2.2.2.2.2.2.2.1 x.2.2.2.2.2.2.2.2.2.2.2.2.2.2.2.2.2.2.2.2.2.2.2.1 x.2.2.2.2.2.2.2.2.2.2.2.2.2.2.2.2.2.2.2.2.2.2.2.2.1 x.2.2.2.2.2.2.2.2.2.2.2.2.2.2.2.2.2.2.2.2.2.2.2.2.2
abbrev unc29{A0 A1 A2 A3 A4 A5 A6 A7 A8 A9 A10 A11 A12 A13 A14 A15 A16 A17 A18 A19 A20 A21 A22 A23 A24 A25 A26 A27 A28 R:Type}(f:A0→A1→A2→A3→A4→A5→A6→A7→A8→A9→A10→A11→A12→A13→A14→A15→A16→A17→A18→A19→A20→A21→A22→A23→A24→A25→A26→A27→A28→R)(x:A0×A1×A2×A3×A4×A5×A6×A7×A8×A9×A10×A11×A12×A13×A14×A15×A16×A17×A18×A19×A20×A21×A22×A23×A24×A25×A26×A27×A28):R:=f x.1 x.2.1 x.2.2.1 x.2.2.2.1 x.2.2.2.2.1 x.2.2.2.2.2.1 x.2.2.2.2.2.2.1 x.2.2.2.2.2.2.2.1 x.2.2.2.2.2.2.2.2.1 x.2.2.2.2.2.2.2.2.2.1 x.2.2.2.2.2.2.2.2.2.2.1 x.2.2.2.2.2.2.2.2.2.2.2.1 x.2.2.2.2.2.2.2.2.2.2.2.2.1 x.2.2.2.2.2.2.2.2.2.2.2.2.2.1 x.2.2.2.2.2.2.2.2.2.2.2.2.2.2.1 x.2.2.2.2.2.2.2.2.2.2.2.2.2.2.2.1 x.2.2.2.2.2.2.2.2.2.2.2.2.2.2.2.2.1 x.2.2.2.2.2.2.2.2.2.2.2.2.2.2.2.2.2.1 x.2.2.2.2.2.2.2.2.2.2.2.2.2.2.2.2.2.2.1 x.2.2.2.2.2.2.2.2.2.2.2.2.2.2.2.2.2.2.2.1 x.2.2.2.2.2.2.2.2.2.2.2.2.2.2.2.2.2.2.2.2.1 x.2.2.2.2.2.2.2.2.2.2.2.2.2.2.2.2.2.2.2.2.2.1 x.2.2.2.2.2.2.2.2.2.2.2.2.2.2.2.2.2.2.2.2.2.2.1 x.2.2.2.2.2.2.2.2.2.2.2.2.2.2.2.2.2.2.2.2.2.2.2.1 x.2.2.2.2.2.2.2.2.2.2.2.2.2.2.2.2.2.2.2.2.2.2.2.2.1 x.2.2.2.2.2.2.2.2.2.2.2.2.2.2.2.2.2.2.2.2.2.2.2.2.2.1 x.2.2.2.2.2.2.2.2.2.2.2.2.2.2.2.2.2.2.2.2.2.2.2.2.2.2.1 x.2.2.2.2.2.2.2.2.2.2.2.2.2.2.2.2.2.2.2.2.2.2.2.2.2.2.2.1 x.2.2.2.2.2.2.2.2.2.2.2.2.2.2.2.2.2.2.2.2.2.2.2.2.2.2.2.2
abbrev Ty0:=Int×ByteArray×Int×Int×(List ApiStep)×ByteArray×Int×Bool×Bool×ByteArray×Int×Int×(List Int)×Int×Int×(List ApiStep)×ByteArray×Int×Bool×Bool×ByteArray×Int×Int×(List Int)×ByteArray
abbrev Ty1:=Int×Int×(List ApiStep)×ByteArray×Int×Bool×Bool×ByteArray×Int×Int×(List Int)×Int×Int×(List ApiStep)×ByteArray×Int×Bool×Bool×ByteArray×Int×Int×(List Int)
abbrev Ty2:=Int×Int×(List ApiStep)×ByteArray×Int×Bool×Bool×ByteArray×Int×Int×(List Int)×(List ByteArray)×ByteArray
abbrev Ty3:=Bool×Int×Int×ByteArray×Int×Bool×Bool×ByteArray×Int×Int
abbrev Ty4:=Int×ByteArray×Int×Int×(List ApiStep)×ByteArray×Int×Bool×Bool×ByteArray×Int×Int×(List Int)×Int×Int×(List ApiStep)×ByteArray×Int×Bool×Bool×ByteArray×Int×Int×(List Int)×ByteArray×ByteArray
abbrev Ty5:=Int×Int×Int×(List ApiStep)×ByteArray×Int×Bool×Bool×ByteArray×Int×Int×ByteArray×Int×Int×ByteArray×Int×Bool×Bool×ByteArray×Int×Int×ByteArray×Int×Int×(List ApiStep)×ByteArray×Int×Bool×Bool×ByteArray×Int×Int×ByteArray
abbrev Ty6:=ByteArray×Bool×Int×Int×(List ApiStep)×ByteArray×Int×Bool×Bool×ByteArray×Int×Int×(List Int)
abbrev Ty8:=Int×ByteArray×Int×Int×(List ApiStep)×ByteArray×Int×Bool×Bool×ByteArray×Int×Int×(List Int)×Int×Int×(List ApiStep)×ByteArray×Int×Bool×Bool×ByteArray×Int×Int×(List Int)×ByteArray×ByteArray×ByteArray×ByteArray×ByteArray
abbrev Ty9:=Bool×Int×Int×(List ApiStep)×ByteArray×Int×Bool×Bool×ByteArray×Int×Int×(List Int)
abbrev Ty10:=Int×Int×(List ApiStep)×ByteArray×Int×Bool×Bool×ByteArray×Int×Int×(List Int)×(List ByteArray)×ByteArray×ByteArray
abbrev Ty14:=Int×Int×(List ApiStep)×ByteArray×Int×Bool×Bool×ByteArray×Int×Int×(List Int)×(List ByteArray)×ByteArray×ByteArray×ByteArray×ByteArray×ByteArray
abbrev Ty15:=Int×Bool×Int×Int×(List ApiStep)×ByteArray×Int×Bool×Bool×ByteArray×Int×Int×ByteArray×Int×Int×ByteArray×Int×Bool×Bool×ByteArray×Int×Int×ByteArray×Int×Int×(List ApiStep)×ByteArray×Int×Bool×Bool×ByteArray×Int×Int×ByteArray
abbrev Ty16:=Int×Int×(List ApiStep)×ByteArray×Int×Bool×Bool×ByteArray×Int×Int×(List Int)
abbrev Ty17:=Int×Int×(List ApiStep)×ByteArray×Int×Bool×Bool×ByteArray×Int×Int×ByteArray
abbrev Ty18:=Int×Int×Int×(List ApiStep)×ByteArray×Int×Bool×Bool×ByteArray×Int×Int×(List Int)
abbrev Ty21:=Int×Int×ByteArray×Int×Bool×Bool×ByteArray×Int×Int
def scalar_Ident.v0(κ:Nat)(a0:ByteArray):Option (Bool):=
 bif (!(Ev.seq a0 (ByteArray.mk (List.toArray []))))then
  bif (decide ((((ByteArray.size a0):Nat):Int)≤(12:Int)))then
   bif (((decide ((1:Int)≤(((ByteArray.size a0):Nat):Int)))&&(decide ((0:Int)≤(0:Int))))&&(decide ((0:Int)≤(1:Int))))then
    bif (Go.Lib.contains (Array.toList (ByteArray.data (ByteArray.mk (List.toArray ((97:UInt8)::((98:UInt8)::((99:UInt8)::((100:UInt8)::((101:UInt8)::((102:UInt8)::((103:UInt8)::((104:UInt8)::((105:UInt8)::((106:UInt8)::((107:UInt8)::((108:UInt8)::((109:UInt8)::((110:UInt8)::((111:UInt8)::((112:UInt8)::((113:UInt8)::((114:UInt8)::((115:UInt8)::((116:UInt8)::((117:UInt8)::((118:UInt8)::((119:UInt8)::((120:UInt8)::((121:UInt8)::((122:UInt8)::[])))))))))))))))))))))))))))))) (Array.toList (ByteArray.data (ByteArray.extract a0 (Int.toNat (0:Int)) (Int.toNat (1:Int))))))then
     Option.bind (Ev.Seat.strings_Trim κ a0 (ByteArray.mk (List.toArray ((97:UInt8)::((98:UInt8)::((99:UInt8)::((100:UInt8)::((101:UInt8)::((102:UInt8)::((103:UInt8)::((104:UInt8)::((105:UInt8)::((106:UInt8)::((107:UInt8)::((108:UInt8)::((109:UInt8)::((110:UInt8)::((111:UInt8)::((112:UInt8)::((113:UInt8)::((114:UInt8)::((115:UInt8)::((116:UInt8)::((117:UInt8)::((118:UInt8)::((119:UInt8)::((120:UInt8)::((121:UInt8)::((122:UInt8)::((48:UInt8)::((49:UInt8)::((50:UInt8)::((51:UInt8)::((52:UInt8)::((53:UInt8)::((54:UInt8)::((55:UInt8)::((56:UInt8)::((57:UInt8)::((45:UInt8)::[])))))))))))))))))))))))))))))))))))))))) fun x0=>
      some (Ev.seq x0 (ByteArray.mk (List.toArray [])))
    else
     some Bool.false
   else
    none
  else
   some Bool.false
 else
  some Bool.false
def scalar_Ident(κ:Nat)(a0:ByteArray):Option (Bool):=
 Option.bind (Ev.Seat.scalar_Ident.v0 κ a0) fun x0=>
  some x0
def strings_Builder_copyCheck.v0(κ:Nat)(a0:Bool):Option (Unit):=
 bif a0 then
  some ()
 else
  none
def strings_Builder_copyCheck(κ:Nat):Option (Unit):=
 some ()
def strings_Builder_copyCheck_2.v0(κ:Nat)(a0:Bool)(a1:List Int):Option ((List Int)):=
 bif a0 then
  some a1
 else
  some a1
def strings_Builder_copyCheck_2(κ:Nat)(a0:List Int):Option ((List Int)):=
 some a0
def strings_Builder_WriteString_2(κ:Nat)(a0:ByteArray)(a1:List Int):Option (Int×(List Int)):=
 bif (Nat.ble ((List.length a1)+(List.length (List.map (fun b=>(((UInt8.toNat b):Nat):Int)) (Array.toList (ByteArray.data a0))))) (Ev.room (0+1)))then
  some ((((ByteArray.size a0):Nat):Int),(a1++(List.map (fun b=>(((UInt8.toNat b):Nat):Int)) (Array.toList (ByteArray.data a0)))))
 else
  none
def strings_Builder_copyCheck_3.v0(κ:Nat)(a0:Bool)(a1:List Int):Option ((List Int)):=
 bif a0 then
  some a1
 else
  none
def strings_Builder_copyCheck_3(κ:Nat)(a0:List Int):Option ((List Int)):=
 some a0
def strings_Builder_WriteString_3(κ:Nat)(a0:ByteArray)(a1:List Int):Option (Int×(List Int)):=
 bif (Nat.ble ((List.length a1)+(List.length (List.map (fun b=>(((UInt8.toNat b):Nat):Int)) (Array.toList (ByteArray.data a0))))) (Ev.room (0+1)))then
  some ((((ByteArray.size a0):Nat):Int),(a1++(List.map (fun b=>(((UInt8.toNat b):Nat):Int)) (Array.toList (ByteArray.data a0)))))
 else
  none
def strings_Builder_String(κ:Nat)(a0:List Int):Option (ByteArray):=
 bif ((decide ((((List.length a0):Nat):Int)=(((List.length a0):Nat):Int)))&&(Nat.ble (List.length a0) Ev.maxI))then
  some (Ev.bytesOfA Ev.Seat.C a0)
 else
  none
def strings_Builder_String_2(κ:Nat)(a0:List Int):Option (ByteArray):=
 bif ((decide ((((List.length a0):Nat):Int)=(((List.length a0):Nat):Int)))&&(Nat.ble (List.length a0) Ev.maxI))then
  some (Ev.bytesOfA Ev.Seat.C a0)
 else
  none
def path_Show.v25(κ:Nat)(a0:List ApiStep)(a1 a2:Int)(a3 a4:ByteArray)(a5:List Int):Option ((List ApiStep)×Int×Int×Bool×ByteArray×ByteArray×(List Int)):=
 Option.bind (Ev.Seat.scalar_Ident κ a3) fun x0=>
  bif (!x0)then
   some (a0,a1,a2,Bool.true,a3,a4,a5)
  else
   bif (!(Ev.seq a4 (ByteArray.mk (List.toArray []))))then
    Option.bind (Ev.Seat.scalar_Ident κ a4) fun x1=>
     some (a0,a1,a2,(!x1),a3,a4,a5)
   else
    some (a0,a1,a2,Bool.false,a3,a4,a5)
def path_Show.v27(κ:Nat)(a0:List ApiStep)(a1 a2:Int)(a3:Bool)(a4 a5:ByteArray)(a6:List Int):Option ((List ApiStep)×Int×Int×(List Int)):=
 bif a3 then
  bif (Nat.ble ((ByteArray.size (ByteArray.mk (List.toArray ((91:UInt8)::[]))))+(ByteArray.size a5)) Ev.maxI)then
   bif (Nat.ble ((ByteArray.size ((ByteArray.mk (List.toArray ((91:UInt8)::[])))++a5))+(ByteArray.size (ByteArray.mk (List.toArray ((93:UInt8)::[]))))) Ev.maxI)then
    Option.bind (Ev.Seat.strings_Builder_WriteString_2 κ (((ByteArray.mk (List.toArray ((91:UInt8)::[])))++a5)++(ByteArray.mk (List.toArray ((93:UInt8)::[])))) a6) fun x0=>
     some (a0,a1,a2,x0.2)
   else
    none
  else
   none
 else
  some (a0,a1,a2,a6)
def path_Show.v24(κ:Nat)(a0:List ApiStep)(a1 a2:Int)(a3:List Int):Option (((List ApiStep)×Int×Int×(List Int))⊕(ByteArray)):=
 bif (decide ((0:Int)≤a2))then
  Option.bind (a0[(Int.toNat a2)]?) fun x0=>
   Option.bind (Ev.Seat.path_Show.v25 κ a0 a1 a2 (Ev.Seat.ApiStep.name x0) (Ev.Seat.ApiStep.key x0) a3) fun x1=>
    bif x1.2.2.2.1 then
     some (.inr (ByteArray.mk (List.toArray [])))
    else
     bif (Nat.ble ((ByteArray.size (ByteArray.mk (List.toArray ((47:UInt8)::[]))))+(ByteArray.size x1.2.2.2.2.1)) Ev.maxI)then
      Option.bind (Ev.Seat.strings_Builder_WriteString_3 κ ((ByteArray.mk (List.toArray ((47:UInt8)::[])))++x1.2.2.2.2.1) x1.2.2.2.2.2.2) fun x2=>
       Option.bind (Ev.Seat.path_Show.v27 κ x1.1 x1.2.1 x1.2.2.1 (!(Ev.seq x1.2.2.2.2.2.1 (ByteArray.mk (List.toArray [])))) x1.2.2.2.2.1 x1.2.2.2.2.2.1 x2.2) fun x3=>
        some (.inl (x3.1,x3.2.1,x3.2.2.1,x3.2.2.2))
     else
      none
 else
  none
def path_Show.v30(κ:Nat)(a0:List ApiStep)(a1 a2:Int)(a3 a4:ByteArray)(a5:List Int):Option ((List ApiStep)×Int×Int×Bool×ByteArray×ByteArray×(List Int)):=
 Option.bind (Ev.Seat.scalar_Ident κ a3) fun x0=>
  bif (!x0)then
   some (a0,a1,a2,Bool.true,a3,a4,a5)
  else
   bif (!(Ev.seq a4 (ByteArray.mk (List.toArray []))))then
    Option.bind (Ev.Seat.scalar_Ident κ a4) fun x1=>
     some (a0,a1,a2,(!x1),a3,a4,a5)
   else
    some (a0,a1,a2,Bool.false,a3,a4,a5)
def path_Show.v32(κ:Nat)(a0:List ApiStep)(a1 a2:Int)(a3:Bool)(a4 a5:ByteArray)(a6:List Int):Option ((List ApiStep)×Int×Int×(List Int)):=
 bif a3 then
  bif (Nat.ble ((ByteArray.size (ByteArray.mk (List.toArray ((91:UInt8)::[]))))+(ByteArray.size a5)) Ev.maxI)then
   bif (Nat.ble ((ByteArray.size ((ByteArray.mk (List.toArray ((91:UInt8)::[])))++a5))+(ByteArray.size (ByteArray.mk (List.toArray ((93:UInt8)::[]))))) Ev.maxI)then
    Option.bind (Ev.Seat.strings_Builder_WriteString_2 κ (((ByteArray.mk (List.toArray ((91:UInt8)::[])))++a5)++(ByteArray.mk (List.toArray ((93:UInt8)::[])))) a6) fun x0=>
     some (a0,a1,a2,x0.2)
   else
    none
  else
   none
 else
  some (a0,a1,a2,a6)
def path_Show.v29(κ:Nat)(a0:List ApiStep)(a1 a2:Int)(a3:List Int):Option (((List ApiStep)×Int×Int×(List Int))⊕(ByteArray)):=
 bif (decide ((0:Int)≤a2))then
  Option.bind (a0[(Int.toNat a2)]?) fun x0=>
   Option.bind (Ev.Seat.path_Show.v30 κ a0 a1 a2 (Ev.Seat.ApiStep.name x0) (Ev.Seat.ApiStep.key x0) a3) fun x1=>
    bif x1.2.2.2.1 then
     some (.inr (ByteArray.mk (List.toArray [])))
    else
     bif (Nat.ble ((ByteArray.size (ByteArray.mk (List.toArray ((47:UInt8)::[]))))+(ByteArray.size x1.2.2.2.2.1)) Ev.maxI)then
      Option.bind (Ev.Seat.strings_Builder_WriteString_2 κ ((ByteArray.mk (List.toArray ((47:UInt8)::[])))++x1.2.2.2.2.1) x1.2.2.2.2.2.2) fun x2=>
       Option.bind (Ev.Seat.path_Show.v32 κ x1.1 x1.2.1 x1.2.2.1 (!(Ev.seq x1.2.2.2.2.2.1 (ByteArray.mk (List.toArray [])))) x1.2.2.2.2.1 x1.2.2.2.2.2.1 x2.2) fun x3=>
        some (.inl (x3.1,x3.2.1,x3.2.2.1,x3.2.2.2))
     else
      none
 else
  none
def path_Show.w23(κ:Nat)(rec:(((List ApiStep)×Int×Int×(List Int))⊕((List ApiStep)×Int×Int×(List Int)))→Option (((List Int))⊕((ByteArray)⊕((List Int)))))(a0:List ApiStep)(a1 a2:Int)(a3:List Int):Option (((List Int))⊕((ByteArray)⊕((List Int)))):=
 bif (decide (a2<a1))then
  Option.bind (Ev.Seat.path_Show.v24 κ a0 a1 a2 a3) fun x0=>
   match x0 with
   | .inl x1=>
    rec (.inr (x1.1,x1.2.1,(IntKind.wrap IntKind.i64 (x1.2.2.1+(1:Int))),x1.2.2.2))
   | .inr x2=>
    some (.inr (.inl x2))
 else
  some (.inl a3)
def path_Show.w23_1(κ:Nat)(rec:(((List ApiStep)×Int×Int×(List Int))⊕((List ApiStep)×Int×Int×(List Int)))→Option (((List Int))⊕((ByteArray)⊕((List Int)))))(a0:List ApiStep)(a1 a2:Int)(a3:List Int):Option (((List Int))⊕((ByteArray)⊕((List Int)))):=
 bif (decide (a2<a1))then
  Option.bind (Ev.Seat.path_Show.v29 κ a0 a1 a2 a3) fun x0=>
   match x0 with
   | .inl x1=>
    rec (.inr (x1.1,x1.2.1,(IntKind.wrap IntKind.i64 (x1.2.2.1+(1:Int))),x1.2.2.2))
   | .inr x2=>
    some (.inr (.inl x2))
 else
  some (.inr (.inr a3))
def path_Show.l23(κ:Nat):Nat→(((List ApiStep)×Int×Int×(List Int))⊕((List ApiStep)×Int×Int×(List Int)))→Option (((List Int))⊕((ByteArray)⊕((List Int))))
 |0,_ =>none
 |k+1,(.inl (a0,a1,a2,a3))=>path_Show.w23 κ (path_Show.l23 κ k) a0 a1 a2 a3
 |k+1,(.inr (a0,a1,a2,a3))=>path_Show.w23_1 κ (path_Show.l23 κ k) a0 a1 a2 a3
def path_Show(κ:Nat)(a0:List ApiStep):Option (ByteArray):=
 bif ((((List.length a0):Nat):Int)==(0:Int))then
  some (ByteArray.mk (List.toArray ((47:UInt8)::[])))
 else
  bif (decide ((((List.length a0):Nat):Int)>(6:Int)))then
   some (ByteArray.mk (List.toArray []))
  else
   Option.bind (Ev.Seat.path_Show.l23 κ κ (Sum.inl (a0,(((List.length a0):Nat):Int),(0:Int),[]))) fun x0=>
    match x0 with
    | .inl x1=>
     Option.bind (Ev.Seat.strings_Builder_String κ x1) fun x2=>
      some x2
    | .inr x3=>
     match x3 with
     | .inl x4=>
      some x4
     | .inr x5=>
      Option.bind (Ev.Seat.strings_Builder_String_2 κ x5) fun x6=>
       some x6
def internal_stringslite_HasPrefix.v0(κ:Nat)(a0 a1:ByteArray):Option (Bool):=
 bif (decide ((((ByteArray.size a0):Nat):Int)≥(((ByteArray.size a1):Nat):Int)))then
  bif (((decide ((((ByteArray.size a1):Nat):Int)≤(((ByteArray.size a0):Nat):Int)))&&(decide ((0:Int)≤(0:Int))))&&(decide ((0:Int)≤(((ByteArray.size a1):Nat):Int))))then
   some (Ev.seq (ByteArray.extract a0 (Int.toNat (0:Int)) (Int.toNat (((ByteArray.size a1):Nat):Int))) a1)
  else
   none
 else
  some Bool.false
def internal_stringslite_HasPrefix(κ:Nat)(a0 a1:ByteArray):Option (Bool):=
 Option.bind (Ev.Seat.internal_stringslite_HasPrefix.v0 κ a0 a1) fun x0=>
  some x0
def strings_HasPrefix(κ:Nat)(a0 a1:ByteArray):Option (Bool):=
 Option.bind (Ev.Seat.internal_stringslite_HasPrefix κ a0 a1) fun x0=>
  some x0
def path_reader_fail.v0(κ:Nat)(a0:Int)(a1:Bool)(a2:ByteArray)(a3 a4 a5:Int):Option (ByteArray×Int×Int×Int):=
 bif a1 then
  some (a2,a3,a0,(IntKind.wrap IntKind.i64 (a3-(((ByteArray.size a2):Nat):Int))))
 else
  some (a2,a3,a4,a5)
def path_reader_fail(κ:Nat)(a0:Int)(a1:ByteArray)(a2 a3 a4:Int):Option (ByteArray×Int×Int×Int):=
 Option.bind (Ev.Seat.path_reader_fail.v0 κ a0 (a3==(0:Int)) a1 a2 a3 a4) fun x0=>
  some (x0.1,x0.2.1,x0.2.2.1,x0.2.2.2)
def internal_stringslite_CutPrefix(κ:Nat)(a0 a1:ByteArray):Option (ByteArray×Bool):=
 Option.bind (Ev.Seat.internal_stringslite_HasPrefix κ a0 a1) fun x0=>
  bif (!x0)then
   some (a0,Bool.false)
  else
   bif (((decide ((((ByteArray.size a0):Nat):Int)≤(((ByteArray.size a0):Nat):Int)))&&(decide ((0:Int)≤(((ByteArray.size a1):Nat):Int))))&&(decide ((((ByteArray.size a1):Nat):Int)≤(((ByteArray.size a0):Nat):Int))))then
    some ((ByteArray.extract a0 (Int.toNat (((ByteArray.size a1):Nat):Int)) (Int.toNat (((ByteArray.size a0):Nat):Int))),Bool.true)
   else
    none
def strings_CutPrefix(κ:Nat)(a0 a1:ByteArray):Option (ByteArray×Bool):=
 Option.bind (Ev.Seat.internal_stringslite_CutPrefix κ a0 a1) fun x0=>
  some (x0.1,x0.2)
def path_reader_sign(κ:Nat)(a0 a1:ByteArray)(a2 a3 a4:Int):Option (ByteArray×Int×Int×Int):=
 Option.bind (Ev.Seat.strings_CutPrefix κ a1 a0) fun x0=>
  bif (!x0.2)then
   Option.bind (Ev.Seat.path_reader_fail κ (21:Int) a1 a2 a3 a4) fun x1=>
    some (x1.1,x1.2.1,x1.2.2.1,x1.2.2.2)
  else
   some (x0.1,a2,a3,a4)
def path_reader_name.v0(κ:Nat)(a0 a1:ByteArray)(a2:Bool)(a3:ByteArray)(a4 a5 a6:Int):Option (ByteArray×ByteArray×ByteArray×Int×Int×Int):=
 bif a2 then
  Option.bind (Ev.Seat.path_reader_fail κ (22:Int) a3 a4 a5 a6) fun x0=>
   some (a0,a1,x0.1,x0.2.1,x0.2.2.1,x0.2.2.2)
 else
  some (a0,a1,a3,a4,a5,a6)
def path_reader_name(κ:Nat)(a0:ByteArray)(a1 a2 a3:Int):Option (ByteArray×ByteArray×Int×Int×Int):=
 bif ((((decide ((0:Int)≤(IntKind.wrap IntKind.i64 ((((ByteArray.size a0):Nat):Int)-(((ByteArray.size (ByteArray.mk (List.toArray (Go.Lib.trimLeftS (Array.toList (ByteArray.data a0)) (Array.toList (ByteArray.data (ByteArray.mk (List.toArray ((97:UInt8)::((98:UInt8)::((99:UInt8)::((100:UInt8)::((101:UInt8)::((102:UInt8)::((103:UInt8)::((104:UInt8)::((105:UInt8)::((106:UInt8)::((107:UInt8)::((108:UInt8)::((109:UInt8)::((110:UInt8)::((111:UInt8)::((112:UInt8)::((113:UInt8)::((114:UInt8)::((115:UInt8)::((116:UInt8)::((117:UInt8)::((118:UInt8)::((119:UInt8)::((120:UInt8)::((121:UInt8)::((122:UInt8)::((48:UInt8)::((49:UInt8)::((50:UInt8)::((51:UInt8)::((52:UInt8)::((53:UInt8)::((54:UInt8)::((55:UInt8)::((56:UInt8)::((57:UInt8)::((45:UInt8)::[]))))))))))))))))))))))))))))))))))))))))))))):Nat):Int)))))&&(decide ((IntKind.wrap IntKind.i64 ((((ByteArray.size a0):Nat):Int)-(((ByteArray.size (ByteArray.mk (List.toArray (Go.Lib.trimLeftS (Array.toList (ByteArray.data a0)) (Array.toList (ByteArray.data (ByteArray.mk (List.toArray ((97:UInt8)::((98:UInt8)::((99:UInt8)::((100:UInt8)::((101:UInt8)::((102:UInt8)::((103:UInt8)::((104:UInt8)::((105:UInt8)::((106:UInt8)::((107:UInt8)::((108:UInt8)::((109:UInt8)::((110:UInt8)::((111:UInt8)::((112:UInt8)::((113:UInt8)::((114:UInt8)::((115:UInt8)::((116:UInt8)::((117:UInt8)::((118:UInt8)::((119:UInt8)::((120:UInt8)::((121:UInt8)::((122:UInt8)::((48:UInt8)::((49:UInt8)::((50:UInt8)::((51:UInt8)::((52:UInt8)::((53:UInt8)::((54:UInt8)::((55:UInt8)::((56:UInt8)::((57:UInt8)::((45:UInt8)::[]))))))))))))))))))))))))))))))))))))))))))))):Nat):Int)))≤(((ByteArray.size a0):Nat):Int))))&&(decide ((0:Int)≤(0:Int))))&&(decide ((0:Int)≤(IntKind.wrap IntKind.i64 ((((ByteArray.size a0):Nat):Int)-(((ByteArray.size (ByteArray.mk (List.toArray (Go.Lib.trimLeftS (Array.toList (ByteArray.data a0)) (Array.toList (ByteArray.data (ByteArray.mk (List.toArray ((97:UInt8)::((98:UInt8)::((99:UInt8)::((100:UInt8)::((101:UInt8)::((102:UInt8)::((103:UInt8)::((104:UInt8)::((105:UInt8)::((106:UInt8)::((107:UInt8)::((108:UInt8)::((109:UInt8)::((110:UInt8)::((111:UInt8)::((112:UInt8)::((113:UInt8)::((114:UInt8)::((115:UInt8)::((116:UInt8)::((117:UInt8)::((118:UInt8)::((119:UInt8)::((120:UInt8)::((121:UInt8)::((122:UInt8)::((48:UInt8)::((49:UInt8)::((50:UInt8)::((51:UInt8)::((52:UInt8)::((53:UInt8)::((54:UInt8)::((55:UInt8)::((56:UInt8)::((57:UInt8)::((45:UInt8)::[]))))))))))))))))))))))))))))))))))))))))))))):Nat):Int))))))then
  Option.bind (Ev.Seat.scalar_Ident κ (ByteArray.extract a0 (Int.toNat (0:Int)) (Int.toNat (IntKind.wrap IntKind.i64 ((((ByteArray.size a0):Nat):Int)-(((ByteArray.size (ByteArray.mk (List.toArray (Go.Lib.trimLeftS (Array.toList (ByteArray.data a0)) (Array.toList (ByteArray.data (ByteArray.mk (List.toArray ((97:UInt8)::((98:UInt8)::((99:UInt8)::((100:UInt8)::((101:UInt8)::((102:UInt8)::((103:UInt8)::((104:UInt8)::((105:UInt8)::((106:UInt8)::((107:UInt8)::((108:UInt8)::((109:UInt8)::((110:UInt8)::((111:UInt8)::((112:UInt8)::((113:UInt8)::((114:UInt8)::((115:UInt8)::((116:UInt8)::((117:UInt8)::((118:UInt8)::((119:UInt8)::((120:UInt8)::((121:UInt8)::((122:UInt8)::((48:UInt8)::((49:UInt8)::((50:UInt8)::((51:UInt8)::((52:UInt8)::((53:UInt8)::((54:UInt8)::((55:UInt8)::((56:UInt8)::((57:UInt8)::((45:UInt8)::[]))))))))))))))))))))))))))))))))))))))))))))):Nat):Int)))))) fun x0=>
   Option.bind (Ev.Seat.path_reader_name.v0 κ (ByteArray.mk (List.toArray (Go.Lib.trimLeftS (Array.toList (ByteArray.data a0)) (Array.toList (ByteArray.data (ByteArray.mk (List.toArray ((97:UInt8)::((98:UInt8)::((99:UInt8)::((100:UInt8)::((101:UInt8)::((102:UInt8)::((103:UInt8)::((104:UInt8)::((105:UInt8)::((106:UInt8)::((107:UInt8)::((108:UInt8)::((109:UInt8)::((110:UInt8)::((111:UInt8)::((112:UInt8)::((113:UInt8)::((114:UInt8)::((115:UInt8)::((116:UInt8)::((117:UInt8)::((118:UInt8)::((119:UInt8)::((120:UInt8)::((121:UInt8)::((122:UInt8)::((48:UInt8)::((49:UInt8)::((50:UInt8)::((51:UInt8)::((52:UInt8)::((53:UInt8)::((54:UInt8)::((55:UInt8)::((56:UInt8)::((57:UInt8)::((45:UInt8)::[])))))))))))))))))))))))))))))))))))))))))))) (ByteArray.extract a0 (Int.toNat (0:Int)) (Int.toNat (IntKind.wrap IntKind.i64 ((((ByteArray.size a0):Nat):Int)-(((ByteArray.size (ByteArray.mk (List.toArray (Go.Lib.trimLeftS (Array.toList (ByteArray.data a0)) (Array.toList (ByteArray.data (ByteArray.mk (List.toArray ((97:UInt8)::((98:UInt8)::((99:UInt8)::((100:UInt8)::((101:UInt8)::((102:UInt8)::((103:UInt8)::((104:UInt8)::((105:UInt8)::((106:UInt8)::((107:UInt8)::((108:UInt8)::((109:UInt8)::((110:UInt8)::((111:UInt8)::((112:UInt8)::((113:UInt8)::((114:UInt8)::((115:UInt8)::((116:UInt8)::((117:UInt8)::((118:UInt8)::((119:UInt8)::((120:UInt8)::((121:UInt8)::((122:UInt8)::((48:UInt8)::((49:UInt8)::((50:UInt8)::((51:UInt8)::((52:UInt8)::((53:UInt8)::((54:UInt8)::((55:UInt8)::((56:UInt8)::((57:UInt8)::((45:UInt8)::[]))))))))))))))))))))))))))))))))))))))))))))):Nat):Int))))) (!x0) a0 a1 a2 a3) fun x1=>
    some (x1.2.1,x1.1,x1.2.2.2.1,x1.2.2.2.2.1,x1.2.2.2.2.2)
 else
  none
def path_reader_step.v0(κ:Nat)(a0:Int)(a1:ByteArray)(a2 a3 a4:Int)(a5 a6:ByteArray):Option (Bool×ByteArray×Int×Int×Int×ByteArray×ByteArray):=
 bif (decide (a0≥(6:Int)))then
  Option.bind (Ev.Seat.strings_HasPrefix κ a1 (ByteArray.mk (List.toArray ((47:UInt8)::[])))) fun x0=>
   some (x0,a1,a2,a3,a4,a5,a6)
 else
  some (Bool.false,a1,a2,a3,a4,a5,a6)
def path_reader_step.v2(κ:Nat)(a0:Bool)(a1:ByteArray)(a2 a3 a4:Int)(a5 a6:ByteArray):Option (ByteArray×Int×Int×Int×ByteArray×ByteArray):=
 bif a0 then
  Option.bind (Ev.Seat.path_reader_fail κ (13:Int) a1 a2 a3 a4) fun x0=>
   some (x0.1,x0.2.1,x0.2.2.1,x0.2.2.2,a5,a6)
 else
  some (a1,a2,a3,a4,a5,a6)
def path_reader_step.v4(κ:Nat)(a0:Bool)(a1:ByteArray)(a2 a3 a4:Int)(a5 a6 a7 a8:ByteArray):Option (ByteArray×Int×Int×Int×ByteArray×ByteArray×ByteArray×ByteArray):=
 bif a0 then
  Option.bind (Ev.Seat.path_reader_sign κ (ByteArray.mk (List.toArray ((91:UInt8)::[]))) a1 a2 a3 a4) fun x0=>
   Option.bind (Ev.Seat.path_reader_name κ x0.1 x0.2.1 x0.2.2.1 x0.2.2.2) fun x1=>
    Option.bind (Ev.Seat.path_reader_sign κ (ByteArray.mk (List.toArray ((93:UInt8)::[]))) x1.2.1 x1.2.2.1 x1.2.2.2.1 x1.2.2.2.2) fun x2=>
     some (x2.1,x2.2.1,x2.2.2.1,x2.2.2.2,a5,a6,a7,x1.1)
 else
  some (a1,a2,a3,a4,a5,a6,a7,a8)
def path_reader_step(κ:Nat)(a0:Int)(a1:ByteArray)(a2 a3 a4:Int):Option (ByteArray×ByteArray×ByteArray×Int×Int×Int):=
 Option.bind (Ev.Seat.path_reader_step.v0 κ a0 a1 a2 a3 a4 (ByteArray.mk (List.toArray [])) (ByteArray.mk (List.toArray []))) fun x0=>
  Option.bind (Ev.Seat.path_reader_step.v2 κ x0.1 x0.2.1 x0.2.2.1 x0.2.2.2.1 x0.2.2.2.2.1 x0.2.2.2.2.2.1 x0.2.2.2.2.2.2) fun x1=>
   Option.bind (Ev.Seat.path_reader_sign κ (ByteArray.mk (List.toArray ((47:UInt8)::[]))) x1.1 x1.2.1 x1.2.2.1 x1.2.2.2.1) fun x2=>
    Option.bind (Ev.Seat.path_reader_name κ x2.1 x2.2.1 x2.2.2.1 x2.2.2.2) fun x3=>
     Option.bind (Ev.Seat.strings_HasPrefix κ x3.2.1 (ByteArray.mk (List.toArray ((91:UInt8)::[])))) fun x4=>
      Option.bind (Ev.Seat.path_reader_step.v4 κ x4 x3.2.1 x3.2.2.1 x3.2.2.2.1 x3.2.2.2.2 x1.2.2.2.2.1 x1.2.2.2.2.2 x3.1 (ByteArray.mk (List.toArray []))) fun x5=>
       some (x5.2.2.2.2.2.2.1,x5.2.2.2.2.2.2.2,x5.1,x5.2.1,x5.2.2.1,x5.2.2.2.1)
def path_Parse.v3(κ:Nat)(a0:ByteArray)(a1 a2 a3:Int)(a4:List ApiStep):Option (Bool×ByteArray×Int×Int×Int×(List ApiStep)):=
 bif (!(Ev.seq a0 (ByteArray.mk (List.toArray []))))then
  some ((a2==(0:Int)),a0,a1,a2,a3,a4)
 else
  some (Bool.false,a0,a1,a2,a3,a4)
def path_Parse.w2(κ:Nat)(rec:(ByteArray×Int×Int×Int×(List ApiStep))→Option (ByteArray×Int×Int×Int×(List ApiStep)))(a0:ByteArray)(a1 a2 a3:Int)(a4:List ApiStep):Option (ByteArray×Int×Int×Int×(List ApiStep)):=
 Option.bind (Ev.Seat.path_Parse.v3 κ a0 a1 a2 a3 a4) fun x0=>
  bif x0.1 then
   Option.bind (Ev.Seat.path_reader_step κ (((List.length x0.2.2.2.2.2):Nat):Int) x0.2.1 x0.2.2.1 x0.2.2.2.1 x0.2.2.2.2.1) fun x1=>
    bif (Nat.ble ((List.length x0.2.2.2.2.2)+(List.length ((Ev.Seat.ApiStep.mk x1.1 x1.2.1)::[]))) (Ev.room (31+1)))then
     rec (x1.2.2.1,x1.2.2.2.1,x1.2.2.2.2.1,x1.2.2.2.2.2,(x0.2.2.2.2.2++((Ev.Seat.ApiStep.mk x1.1 x1.2.1)::[])))
    else
     none
  else
   some (x0.2.1,x0.2.2.1,x0.2.2.2.1,x0.2.2.2.2.1,x0.2.2.2.2.2)
def path_Parse.l2(κ:Nat):Nat→(ByteArray×Int×Int×Int×(List ApiStep))→Option (ByteArray×Int×Int×Int×(List ApiStep))
 |0,_ =>none
 |k+1,(a0,a1,a2,a3,a4)=>path_Parse.w2 κ (path_Parse.l2 κ k) a0 a1 a2 a3 a4
def path_Parse(κ:Nat)(a0:ByteArray):Option (Int×Int×(List ApiStep)):=
 bif (Ev.seq a0 (ByteArray.mk (List.toArray ((47:UInt8)::[]))))then
  some ((0:Int),(0:Int),[])
 else
  Option.bind (Ev.Seat.path_reader_step κ (0:Int) a0 (((ByteArray.size a0):Nat):Int) (0:Int) (0:Int)) fun x0=>
   Option.bind (Ev.Seat.path_Parse.l2 κ κ (x0.2.2.1,x0.2.2.2.1,x0.2.2.2.2.1,x0.2.2.2.2.2,((Ev.Seat.ApiStep.mk x0.1 x0.2.1)::[]))) fun x1=>
    bif (x1.2.2.1 !=(0:Int))then
     some (x1.2.2.1,x1.2.2.2.1,[])
    else
     some ((0:Int),(0:Int),x1.2.2.2.2)
def words_parts.v5(κ:Nat)(a0 a1:Int)(a2:Bool):Option (Int×Int×Bool):=
 bif a2 then
  some (a0,a1,a2)
 else
  some (a0,a1,(a1==(6:Int)))
def words_parts.v4(κ:Nat)(a0 a1:Int)(a2:Bool):Option (Int×Int×Bool):=
 bif a2 then
  some (a0,a1,a2)
 else
  Option.bind (Ev.Seat.words_parts.v5 κ a0 a1 (a1==(5:Int))) fun x0=>
   some (x0.1,x0.2.1,x0.2.2)
def words_parts.v3(κ:Nat)(a0 a1:Int)(a2:Bool):Option (Int×Int×Bool):=
 bif a2 then
  some (a0,a1,a2)
 else
  Option.bind (Ev.Seat.words_parts.v4 κ a0 a1 (a1==(4:Int))) fun x0=>
   some (x0.1,x0.2.1,x0.2.2)
def words_parts.v2(κ:Nat)(a0 a1:Int)(a2:Bool):Option (Int×Int×Bool):=
 bif a2 then
  some (a0,a1,a2)
 else
  Option.bind (Ev.Seat.words_parts.v3 κ a0 a1 (a1==(3:Int))) fun x0=>
   some (x0.1,x0.2.1,x0.2.2)
def words_parts.v1(κ:Nat)(a0 a1:Int)(a2:Bool):Option (Int×Int×Bool):=
 bif a2 then
  some (a0,a1,a2)
 else
  Option.bind (Ev.Seat.words_parts.v2 κ a0 a1 (a1==(2:Int))) fun x0=>
   some (x0.1,x0.2.1,x0.2.2)
def words_parts.v0(κ:Nat)(a0 a1:Int)(a2:Bool):Option (Int×Int×Bool):=
 bif a2 then
  some (a0,a1,a2)
 else
  Option.bind (Ev.Seat.words_parts.v1 κ a0 a1 (a1==(1:Int))) fun x0=>
   some (x0.1,x0.2.1,x0.2.2)
def words_parts(κ:Nat)(a0:Int):Option ((Unit)⊕((ByteArray)⊕((ByteArray)⊕((ByteArray)⊕((ByteArray×ByteArray)⊕((ByteArray×ByteArray)⊕((ByteArray×ByteArray×ByteArray×ByteArray×ByteArray)⊕((ByteArray)⊕((ByteArray)⊕((ByteArray)⊕((ByteArray)⊕(ByteArray)))))))))))):=
 Option.bind (Ev.Seat.words_parts.v0 κ a0 a0 (a0==(0:Int))) fun x0=>
  bif x0.2.2 then
   bif ((decide ((0:Int)≤x0.1))&&(Nat.blt (Int.toNat x0.1) (List.length ((ByteArray.mk (List.toArray ((108:UInt8)::((111:UInt8)::((99:UInt8)::((107:UInt8)::[]))))))::((ByteArray.mk (List.toArray ((117:UInt8)::((110:UInt8)::((108:UInt8)::((111:UInt8)::((99:UInt8)::((107:UInt8)::[]))))))))::((ByteArray.mk (List.toArray ((100:UInt8)::((105:UInt8)::((115:UInt8)::((99:UInt8)::((97:UInt8)::((114:UInt8)::((100:UInt8)::[])))))))))::((ByteArray.mk (List.toArray ((99:UInt8)::((104:UInt8)::((101:UInt8)::((99:UInt8)::((107:UInt8)::[])))))))::((ByteArray.mk (List.toArray ((99:UInt8)::((111:UInt8)::((110:UInt8)::((102:UInt8)::((105:UInt8)::((114:UInt8)::((109:UInt8)::[])))))))))::((ByteArray.mk (List.toArray ((99:UInt8)::((97:UInt8)::((110:UInt8)::((99:UInt8)::((101:UInt8)::((108:UInt8)::[]))))))))::((ByteArray.mk (List.toArray ((115:UInt8)::((97:UInt8)::((118:UInt8)::((101:UInt8)::[]))))))::[]))))))))))then
    Option.bind (((ByteArray.mk (List.toArray ((108:UInt8)::((111:UInt8)::((99:UInt8)::((107:UInt8)::[]))))))::((ByteArray.mk (List.toArray ((117:UInt8)::((110:UInt8)::((108:UInt8)::((111:UInt8)::((99:UInt8)::((107:UInt8)::[]))))))))::((ByteArray.mk (List.toArray ((100:UInt8)::((105:UInt8)::((115:UInt8)::((99:UInt8)::((97:UInt8)::((114:UInt8)::((100:UInt8)::[])))))))))::((ByteArray.mk (List.toArray ((99:UInt8)::((104:UInt8)::((101:UInt8)::((99:UInt8)::((107:UInt8)::[])))))))::((ByteArray.mk (List.toArray ((99:UInt8)::((111:UInt8)::((110:UInt8)::((102:UInt8)::((105:UInt8)::((114:UInt8)::((109:UInt8)::[])))))))))::((ByteArray.mk (List.toArray ((99:UInt8)::((97:UInt8)::((110:UInt8)::((99:UInt8)::((101:UInt8)::((108:UInt8)::[]))))))))::((ByteArray.mk (List.toArray ((115:UInt8)::((97:UInt8)::((118:UInt8)::((101:UInt8)::[]))))))::[])))))))[(Int.toNat x0.1)]?) fun x1=>
     some (.inr (.inr (.inr (.inr (.inr (.inr (.inr (.inr (.inr (.inr (.inr x1)))))))))))
   else
    none
  else
   bif (x0.2.1==(7:Int))then
    some (.inr (.inr (.inr (.inr (.inr (.inr (.inr (.inr (.inr (.inr (.inl (ByteArray.mk (List.toArray ((115:UInt8)::((101:UInt8)::((116:UInt8)::[]))))))))))))))))
   else
    bif (x0.2.1==(8:Int))then
     some (.inr (.inr (.inr (.inr (.inr (.inr (.inr (.inr (.inr (.inl (ByteArray.mk (List.toArray ((100:UInt8)::((101:UInt8)::((108:UInt8)::[])))))))))))))))
    else
     bif (x0.2.1==(9:Int))then
      some (.inr (.inr (.inr (.inr (.inr (.inr (.inr (.inr (.inl (ByteArray.mk (List.toArray ((99:UInt8)::((111:UInt8)::((109:UInt8)::((109:UInt8)::((105:UInt8)::((116:UInt8)::[])))))))))))))))))
     else
      bif (x0.2.1==(10:Int))then
       some (.inr (.inr (.inr (.inr (.inr (.inr (.inr (.inl (ByteArray.mk (List.toArray ((114:UInt8)::((111:UInt8)::((108:UInt8)::((108:UInt8)::((98:UInt8)::((97:UInt8)::((99:UInt8)::((107:UInt8)::[]))))))))))))))))))
      else
       bif (x0.2.1==(11:Int))then
        some (.inr (.inr (.inr (.inr (.inr (.inr (.inr (.inl (ByteArray.mk (List.toArray ((112:UInt8)::((114:UInt8)::((117:UInt8)::((110:UInt8)::((101:UInt8)::[])))))))))))))))
       else
        bif (x0.2.1==(12:Int))then
         some (.inr (.inr (.inr (.inr (.inr (.inr (.inl ((ByteArray.mk (List.toArray ((115:UInt8)::((104:UInt8)::((111:UInt8)::((119:UInt8)::[])))))),(ByteArray.mk (List.toArray ((99:UInt8)::((97:UInt8)::((110:UInt8)::((100:UInt8)::((105:UInt8)::((100:UInt8)::((97:UInt8)::((116:UInt8)::((101:UInt8)::[]))))))))))),(ByteArray.mk (List.toArray ((114:UInt8)::((117:UInt8)::((110:UInt8)::((110:UInt8)::((105:UInt8)::((110:UInt8)::((103:UInt8)::[]))))))))),(ByteArray.mk (List.toArray ((116:UInt8)::((101:UInt8)::((120:UInt8)::((116:UInt8)::[])))))),(ByteArray.mk (List.toArray ((98:UInt8)::((121:UInt8)::((116:UInt8)::((101:UInt8)::((115:UInt8)::[])))))))))))))))
        else
         bif (x0.2.1==(13:Int))then
          some (.inr (.inr (.inr (.inr (.inr (.inl ((ByteArray.mk (List.toArray ((108:UInt8)::((111:UInt8)::((97:UInt8)::((100:UInt8)::[])))))),(ByteArray.mk (List.toArray ((116:UInt8)::((101:UInt8)::((120:UInt8)::((116:UInt8)::[])))))))))))))
         else
          bif (x0.2.1==(14:Int))then
           some (.inr (.inr (.inr (.inr (.inl ((ByteArray.mk (List.toArray ((108:UInt8)::((111:UInt8)::((97:UInt8)::((100:UInt8)::[])))))),(ByteArray.mk (List.toArray ((98:UInt8)::((121:UInt8)::((116:UInt8)::((101:UInt8)::((115:UInt8)::[])))))))))))))
          else
           bif (x0.2.1==(15:Int))then
            some (.inr (.inr (.inr (.inl (ByteArray.mk (List.toArray ((112:UInt8)::((97:UInt8)::((99:UInt8)::((107:UInt8)::((101:UInt8)::((116:UInt8)::[]))))))))))))
           else
            bif (x0.2.1==(16:Int))then
             some (.inr (.inr (.inl (ByteArray.mk (List.toArray ((116:UInt8)::((105:UInt8)::((99:UInt8)::((107:UInt8)::[])))))))))
            else
             bif (x0.2.1==(17:Int))then
              some (.inr (.inl (ByteArray.mk (List.toArray ((110:UInt8)::((101:UInt8)::((120:UInt8)::((116:UInt8)::[]))))))))
             else
              bif (x0.2.1==(18:Int))then
               some (.inr (.inl (ByteArray.mk (List.toArray ((100:UInt8)::((117:UInt8)::((109:UInt8)::((112:UInt8)::[]))))))))
              else
               some (.inl ())
def words_show(κ:Nat)(a0:ByteArray)(a1 a2:Int)(a3:List ApiStep)(a4:ByteArray)(a5:Int)(a6 a7:Bool)(a8:ByteArray)(a9 a10:Int)(a11:List Int):Option Ty6:=
 some (a0,Bool.true,a1,a2,a3,a4,a5,a6,a7,a8,a9,a10,a11)
def words_show_2(κ:Nat)(a0 a1:Int)(a2:List ApiStep)(a3:ByteArray)(a4:Int)(a5 a6:Bool)(a7:ByteArray)(a8 a9:Int)(a10:List Int):Option Ty6:=
 Option.bind (Ev.Seat.scalShow κ (IntKind.wrap IntKind.u64 a1)) fun x0=>
  bif (decide (a1≥(1:Int)))then
   some (x0,(decide (a1≤(9:Int))),a0,a1,a2,a3,a4,a5,a6,a7,a8,a9,a10)
  else
   some (x0,Bool.false,a0,a1,a2,a3,a4,a5,a6,a7,a8,a9,a10)
def words_show_3(κ:Nat)(a0 a1:Int)(a2:List ApiStep)(a3:ByteArray)(a4:Int)(a5 a6:Bool)(a7:ByteArray)(a8 a9:Int)(a10:List Int):Option Ty6:=
 Option.bind (Ev.Seat.scalar_Ident κ a7) fun x0=>
  some (a7,x0,a0,a1,a2,a3,a4,a5,a6,a7,a8,a9,a10)
def words_n(κ:Nat)(a0 a1:Int)(a2:List ApiStep)(a3:ByteArray)(a4:Int)(a5 a6:Bool)(a7:ByteArray)(a8 a9:Int)(a10:List Int):Option Ty16:=
 some (a0,a1,a2,a3,a4,a5,a6,a7,a8,a9,a10)
def words_show_4(κ:Nat)(a0 a1:Int)(a2:List ApiStep)(a3:ByteArray)(a4:Int)(a5 a6:Bool)(a7:ByteArray)(a8 a9:Int)(a10:List Int):Option Ty6:=
 Option.bind (Ev.Seat.scalShow κ a4) fun x0=>
  some (x0,Bool.true,a0,a1,a2,a3,a4,a5,a6,a7,a8,a9,a10)
def words_flow(κ:Nat)(a0 a1:Int)(a2:List ApiStep)(a3:ByteArray)(a4:Int)(a5 a6:Bool)(a7:ByteArray)(a8 a9:Int)(a10:List Int):Option Ty16:=
 some (a0,a1,a2,a3,a4,a5,a6,a7,a8,a9,a10)
def words_show_5(κ:Nat)(a0 a1:Int)(a2:List ApiStep)(a3:ByteArray)(a4:Int)(a5 a6:Bool)(a7:ByteArray)(a8 a9:Int)(a10:List Int):Option Ty6:=
 Option.bind (Ev.Seat.scalShow κ a8) fun x0=>
  some (x0,Bool.true,a0,a1,a2,a3,a4,a5,a6,a7,a8,a9,a10)
def words_parts_1(κ:Nat)(a0 a1:Int)(a2:List ApiStep)(a3:ByteArray)(a4:Int)(a5 a6:Bool)(a7:ByteArray)(a8 a9:Int)(a10:List Int):Option Ty16:=
 some (a0,a1,a2,a3,a4,a5,a6,a7,a8,a9,a10)
def words_show_6(κ:Nat)(a0 a1:ByteArray)(a2 a3:Int)(a4:List ApiStep)(a5:ByteArray)(a6:Int)(a7 a8:Bool)(a9:ByteArray)(a10 a11:Int)(a12:List Int):Option Ty6:=
 bif a7 then
  some (a1,Bool.true,a2,a3,a4,a5,a6,a7,a8,a9,a10,a11,a12)
 else
  some (a0,Bool.true,a2,a3,a4,a5,a6,a7,a8,a9,a10,a11,a12)
def words_show_7(κ:Nat)(a0 a1:Int)(a2:List ApiStep)(a3:ByteArray)(a4:Int)(a5 a6:Bool)(a7:ByteArray)(a8 a9:Int)(a10:List Int):Option Ty6:=
 Option.bind (Ev.Seat.scalShow κ a4) fun x0=>
  some (x0,Bool.true,a0,a1,a2,a3,a4,a5,a6,a7,a8,a9,a10)
def words_show_8(κ:Nat)(a0 a1:Int)(a2:List ApiStep)(a3:ByteArray)(a4:Int)(a5 a6:Bool)(a7:ByteArray)(a8 a9:Int)(a10:List Int):Option Ty6:=
 Option.bind (Ev.Seat.path_Show κ a2) fun x0=>
  bif (decide ((((List.length a2):Nat):Int)>(0:Int)))then
   some (x0,(!(Ev.seq x0 (ByteArray.mk (List.toArray [])))),a0,a1,a2,a3,a4,a5,a6,a7,a8,a9,a10)
  else
   some (x0,Bool.false,a0,a1,a2,a3,a4,a5,a6,a7,a8,a9,a10)
def words_size(κ:Nat)(a0 a1:Int)(a2:List ApiStep)(a3:ByteArray)(a4:Int)(a5 a6:Bool)(a7:ByteArray)(a8 a9:Int)(a10:List Int):Option Ty16:=
 some (a0,a1,a2,a3,a4,a5,a6,a7,a8,a9,a10)
def words_show_9(κ:Nat)(a0 a1:Int)(a2:List ApiStep)(a3:ByteArray)(a4:Int)(a5 a6:Bool)(a7:ByteArray)(a8 a9:Int)(a10:List Int):Option Ty6:=
 Option.bind (Ev.Seat.scalShow κ a9) fun x0=>
  some (x0,Bool.true,a0,a1,a2,a3,a4,a5,a6,a7,a8,a9,a10)
def strings_Builder_WriteByte(κ:Nat)(a0:Int):Option ((List Int)):=
 some (a0::[])
def strings_Builder_WriteByte_2(κ:Nat)(a0:Int)(a1:List Int):Option ((List Int)):=
 bif (Nat.ble ((List.length a1)+(List.length (a0::[]))) (Ev.room (0+1)))then
  some (a1++(a0::[]))
 else
  none
def strings_Builder_WriteByte_3(κ:Nat)(a0:Int)(a1:List Int):Option ((List Int)):=
 bif (Nat.ble ((List.length a1)+(List.length (a0::[]))) (Ev.room (0+1)))then
  some (a1++(a0::[]))
 else
  none
def words_hex.w0(κ:Nat)(rec:(((List Int)×Int×Int×(List Int))⊕((List Int)×Int×Int×(List Int)))→Option (((List Int))⊕((List Int))))(a0:List Int)(a1 a2:Int)(a3:List Int):Option (((List Int))⊕((List Int))):=
 bif (decide (a2<a1))then
  bif (decide ((0:Int)≤a2))then
   Option.bind (a0[(Int.toNat a2)]?) fun x0=>
    bif (decide ((0:Int)≤(Int.fdiv x0 ((2:Int)^(Min.min (Int.toNat (4:Int)) (IntKind.bits IntKind.u8))))))then
     Option.bind ((Array.toList (ByteArray.data (ByteArray.mk (List.toArray ((48:UInt8)::((49:UInt8)::((50:UInt8)::((51:UInt8)::((52:UInt8)::((53:UInt8)::((54:UInt8)::((55:UInt8)::((56:UInt8)::((57:UInt8)::((97:UInt8)::((98:UInt8)::((99:UInt8)::((100:UInt8)::((101:UInt8)::((102:UInt8)::[]))))))))))))))))))))[(Int.toNat (Int.fdiv x0 ((2:Int)^(Min.min (Int.toNat (4:Int)) (IntKind.bits IntKind.u8)))))]?) fun x1=>
      Option.bind (Ev.Seat.strings_Builder_WriteByte_3 κ (((UInt8.toNat x1):Nat):Int) a3) fun x2=>
       Option.bind ((Array.toList (ByteArray.data (ByteArray.mk (List.toArray ((48:UInt8)::((49:UInt8)::((50:UInt8)::((51:UInt8)::((52:UInt8)::((53:UInt8)::((54:UInt8)::((55:UInt8)::((56:UInt8)::((57:UInt8)::((97:UInt8)::((98:UInt8)::((99:UInt8)::((100:UInt8)::((101:UInt8)::((102:UInt8)::[]))))))))))))))))))))[(Int.toNat (IntKind.wrap IntKind.u8 (((BitVec.toNat (HAnd.hAnd (BitVec.ofInt (IntKind.bits IntKind.u8) x0) (BitVec.ofInt (IntKind.bits IntKind.u8) (15:Int)))):Nat):Int)))]?) fun x3=>
        Option.bind (Ev.Seat.strings_Builder_WriteByte_2 κ (((UInt8.toNat x3):Nat):Int) x2) fun x4=>
         rec (.inr (a0,a1,(IntKind.wrap IntKind.i64 (a2+(1:Int))),x4))
    else
     none
  else
   none
 else
  some (.inl a3)
def words_hex.w0_1(κ:Nat)(rec:(((List Int)×Int×Int×(List Int))⊕((List Int)×Int×Int×(List Int)))→Option (((List Int))⊕((List Int))))(a0:List Int)(a1 a2:Int)(a3:List Int):Option (((List Int))⊕((List Int))):=
 bif (decide (a2<a1))then
  bif (decide ((0:Int)≤a2))then
   Option.bind (a0[(Int.toNat a2)]?) fun x0=>
    bif (decide ((0:Int)≤(Int.fdiv x0 ((2:Int)^(Min.min (Int.toNat (4:Int)) (IntKind.bits IntKind.u8))))))then
     Option.bind ((Array.toList (ByteArray.data (ByteArray.mk (List.toArray ((48:UInt8)::((49:UInt8)::((50:UInt8)::((51:UInt8)::((52:UInt8)::((53:UInt8)::((54:UInt8)::((55:UInt8)::((56:UInt8)::((57:UInt8)::((97:UInt8)::((98:UInt8)::((99:UInt8)::((100:UInt8)::((101:UInt8)::((102:UInt8)::[]))))))))))))))))))))[(Int.toNat (Int.fdiv x0 ((2:Int)^(Min.min (Int.toNat (4:Int)) (IntKind.bits IntKind.u8)))))]?) fun x1=>
      Option.bind (Ev.Seat.strings_Builder_WriteByte_2 κ (((UInt8.toNat x1):Nat):Int) a3) fun x2=>
       Option.bind ((Array.toList (ByteArray.data (ByteArray.mk (List.toArray ((48:UInt8)::((49:UInt8)::((50:UInt8)::((51:UInt8)::((52:UInt8)::((53:UInt8)::((54:UInt8)::((55:UInt8)::((56:UInt8)::((57:UInt8)::((97:UInt8)::((98:UInt8)::((99:UInt8)::((100:UInt8)::((101:UInt8)::((102:UInt8)::[]))))))))))))))))))))[(Int.toNat (IntKind.wrap IntKind.u8 (((BitVec.toNat (HAnd.hAnd (BitVec.ofInt (IntKind.bits IntKind.u8) x0) (BitVec.ofInt (IntKind.bits IntKind.u8) (15:Int)))):Nat):Int)))]?) fun x3=>
        Option.bind (Ev.Seat.strings_Builder_WriteByte_2 κ (((UInt8.toNat x3):Nat):Int) x2) fun x4=>
         rec (.inr (a0,a1,(IntKind.wrap IntKind.i64 (a2+(1:Int))),x4))
    else
     none
  else
   none
 else
  some (.inr a3)
def words_hex.l0(κ:Nat):Nat→(((List Int)×Int×Int×(List Int))⊕((List Int)×Int×Int×(List Int)))→Option (((List Int))⊕((List Int)))
 |0,_ =>none
 |k+1,(.inl (a0,a1,a2,a3))=>words_hex.w0 κ (words_hex.l0 κ k) a0 a1 a2 a3
 |k+1,(.inr (a0,a1,a2,a3))=>words_hex.w0_1 κ (words_hex.l0 κ k) a0 a1 a2 a3
def words_hex(κ:Nat)(a0:List Int):Option (ByteArray):=
 Option.bind (Ev.Seat.words_hex.l0 κ κ (Sum.inl (a0,(((List.length a0):Nat):Int),(0:Int),[]))) fun x0=>
  match x0 with
  | .inl x1=>
   Option.bind (Ev.Seat.strings_Builder_String κ x1) fun x2=>
    some x2
  | .inr x3=>
   Option.bind (Ev.Seat.strings_Builder_String_2 κ x3) fun x4=>
    some x4
def words_show_10(κ:Nat)(a0 a1:Int)(a2:List ApiStep)(a3:ByteArray)(a4:Int)(a5 a6:Bool)(a7:ByteArray)(a8 a9:Int)(a10:List Int):Option Ty6:=
 Option.bind (Ev.Seat.words_hex κ a10) fun x0=>
  some (x0,Bool.true,a0,a1,a2,a3,a4,a5,a6,a7,a8,a9,a10)
def words_show_11(κ:Nat)(a0 a1:Int)(a2:List ApiStep)(a3:ByteArray)(a4:Int)(a5 a6:Bool)(a7:ByteArray)(a8 a9:Int)(a10:List Int):Option Ty6:=
 some ((ByteArray.mk (List.toArray (List.map (fun x=>(UInt8.ofNat (Int.toNat x))) a10))),Bool.true,a0,a1,a2,a3,a4,a5,a6,a7,a8,a9,a10)
def words_parts_2(κ:Nat)(a0 a1:Int)(a2:List ApiStep)(a3:ByteArray)(a4:Int)(a5 a6:Bool)(a7:ByteArray)(a8 a9:Int)(a10:List Int):Option Ty16:=
 some (a0,a1,a2,a3,a4,a5,a6,a7,a8,a9,a10)
def words_show_12(κ:Nat)(a0 a1:ByteArray)(a2 a3:Int)(a4:List ApiStep)(a5:ByteArray)(a6:Int)(a7 a8:Bool)(a9:ByteArray)(a10 a11:Int)(a12:List Int):Option Ty6:=
 bif a8 then
  some (a1,Bool.true,a2,a3,a4,a5,a6,a7,a8,a9,a10,a11,a12)
 else
  some (a0,Bool.true,a2,a3,a4,a5,a6,a7,a8,a9,a10,a11,a12)
def lex_Plain.v0(κ:Nat)(a0:ByteArray):Option (Bool):=
 bif (!(Ev.seq a0 (ByteArray.mk (List.toArray []))))then
  Option.bind (Ev.Seat.strings_Trim κ a0 (ByteArray.mk (List.toArray (List.append ((97:UInt8)::((98:UInt8)::((99:UInt8)::((100:UInt8)::((101:UInt8)::((102:UInt8)::((103:UInt8)::((104:UInt8)::((105:UInt8)::((106:UInt8)::((107:UInt8)::((108:UInt8)::((109:UInt8)::((110:UInt8)::((111:UInt8)::((112:UInt8)::((113:UInt8)::((114:UInt8)::((115:UInt8)::((116:UInt8)::((117:UInt8)::((118:UInt8)::((119:UInt8)::((120:UInt8)::((121:UInt8)::((122:UInt8)::((65:UInt8)::((66:UInt8)::((67:UInt8)::((68:UInt8)::((69:UInt8)::((70:UInt8)::[])))))))))))))))))))))))))))))))) ((71:UInt8)::((72:UInt8)::((73:UInt8)::((74:UInt8)::((75:UInt8)::((76:UInt8)::((77:UInt8)::((78:UInt8)::((79:UInt8)::((80:UInt8)::((81:UInt8)::((82:UInt8)::((83:UInt8)::((84:UInt8)::((85:UInt8)::((86:UInt8)::((87:UInt8)::((88:UInt8)::((89:UInt8)::((90:UInt8)::((48:UInt8)::((49:UInt8)::((50:UInt8)::((51:UInt8)::((52:UInt8)::((53:UInt8)::((54:UInt8)::((55:UInt8)::((56:UInt8)::((57:UInt8)::((95:UInt8)::((45:UInt8)::((46:UInt8)::[]))))))))))))))))))))))))))))))))))))) fun x0=>
   some (Ev.seq x0 (ByteArray.mk (List.toArray [])))
 else
  some Bool.false
def lex_Plain(κ:Nat)(a0:ByteArray):Option (Bool):=
 Option.bind (Ev.Seat.lex_Plain.v0 κ a0) fun x0=>
  some x0
def words_show_13(κ:Nat)(a0 a1:Int)(a2:List ApiStep)(a3:ByteArray)(a4:Int)(a5 a6:Bool)(a7:ByteArray)(a8 a9:Int)(a10:List Int):Option Ty6:=
 Option.bind (Ev.Seat.lex_Plain κ a3) fun x0=>
  some (a3,x0,a0,a1,a2,a3,a4,a5,a6,a7,a8,a9,a10)
def strings_Join(κ:Nat)(a0:ByteArray):Option (ByteArray):=
 some (ByteArray.mk (List.toArray []))
def words_line.v0(κ:Nat)(a0 a1:Int)(a2:List ApiStep)(a3:ByteArray)(a4:Int)(a5 a6:Bool)(a7:ByteArray)(a8 a9:Int)(a10:List Int):Option (Unit):=
 some ()
def words_line.v1(κ:Nat)(a0 a1:Int)(a2:List ApiStep)(a3:ByteArray)(a4:Int)(a5 a6:Bool)(a7:ByteArray)(a8 a9:Int)(a10:List Int)(a11:ByteArray):Option Ty2:=
 some (a0,a1,a2,a3,a4,a5,a6,a7,a8,a9,a10,(a11::[]),a11)
def words_line.v2(κ:Nat)(a0 a1:Int)(a2:List ApiStep)(a3:ByteArray)(a4:Int)(a5 a6:Bool)(a7:ByteArray)(a8 a9:Int)(a10:List Int)(a11:ByteArray):Option Ty2:=
 some (a0,a1,a2,a3,a4,a5,a6,a7,a8,a9,a10,(a11::[]),a11)
def words_line.v3(κ:Nat)(a0 a1:Int)(a2:List ApiStep)(a3:ByteArray)(a4:Int)(a5 a6:Bool)(a7:ByteArray)(a8 a9:Int)(a10:List Int)(a11:ByteArray):Option Ty2:=
 some (a0,a1,a2,a3,a4,a5,a6,a7,a8,a9,a10,(a11::[]),a11)
def words_line.v4(κ:Nat)(a0 a1:Int)(a2:List ApiStep)(a3:ByteArray)(a4:Int)(a5 a6:Bool)(a7:ByteArray)(a8 a9:Int)(a10:List Int)(a11 a12:ByteArray):Option (Ty10⊕(ByteArray×Bool)):=
 Option.bind (Ev.Seat.words_show_2 κ a0 a1 a2 a3 a4 a5 a6 a7 a8 a9 a10) fun x0=>
  bif (!x0.2.1)then
   some (.inr ((ByteArray.mk (List.toArray [])),Bool.false))
  else
   some (.inl (x0.2.2.1,x0.2.2.2.1,x0.2.2.2.2.1,x0.2.2.2.2.2.1,x0.2.2.2.2.2.2.1,x0.2.2.2.2.2.2.2.1,x0.2.2.2.2.2.2.2.2.1,x0.2.2.2.2.2.2.2.2.2.1,x0.2.2.2.2.2.2.2.2.2.2.1,x0.2.2.2.2.2.2.2.2.2.2.2.1,x0.2.2.2.2.2.2.2.2.2.2.2.2,(x0.1::[]),a11,a12))
def words_line.v5(κ:Nat)(a0 a1:Int)(a2:List ApiStep)(a3:ByteArray)(a4:Int)(a5 a6:Bool)(a7:ByteArray)(a8 a9:Int)(a10:List Int)(a11 a12:ByteArray):Option (Ty10⊕(ByteArray×Bool)):=
 Option.bind (Ev.Seat.words_show_2 κ a0 a1 a2 a3 a4 a5 a6 a7 a8 a9 a10) fun x0=>
  bif (!x0.2.1)then
   some (.inr ((ByteArray.mk (List.toArray [])),Bool.false))
  else
   some (.inl (x0.2.2.1,x0.2.2.2.1,x0.2.2.2.2.1,x0.2.2.2.2.2.1,x0.2.2.2.2.2.2.1,x0.2.2.2.2.2.2.2.1,x0.2.2.2.2.2.2.2.2.1,x0.2.2.2.2.2.2.2.2.2.1,x0.2.2.2.2.2.2.2.2.2.2.1,x0.2.2.2.2.2.2.2.2.2.2.2.1,x0.2.2.2.2.2.2.2.2.2.2.2.2,(x0.1::[]),a11,a12))
def words_line.v6(κ:Nat)(a0 a1:Int)(a2:List ApiStep)(a3:ByteArray)(a4:Int)(a5 a6:Bool)(a7:ByteArray)(a8 a9:Int)(a10:List Int)(a11 a12 a13 a14 a15:ByteArray):Option (Ty14⊕(ByteArray×Bool)):=
 Option.bind (Ev.Seat.words_show_2 κ a0 a1 a2 a3 a4 a5 a6 a7 a8 a9 a10) fun x0=>
  bif (!x0.2.1)then
   some (.inr ((ByteArray.mk (List.toArray [])),Bool.false))
  else
   some (.inl (x0.2.2.1,x0.2.2.2.1,x0.2.2.2.2.1,x0.2.2.2.2.2.1,x0.2.2.2.2.2.2.1,x0.2.2.2.2.2.2.2.1,x0.2.2.2.2.2.2.2.2.1,x0.2.2.2.2.2.2.2.2.2.1,x0.2.2.2.2.2.2.2.2.2.2.1,x0.2.2.2.2.2.2.2.2.2.2.2.1,x0.2.2.2.2.2.2.2.2.2.2.2.2,(x0.1::[]),a11,a12,a13,a14,a15))
def words_line.v7(κ:Nat)(a0 a1:Int)(a2:List ApiStep)(a3:ByteArray)(a4:Int)(a5 a6:Bool)(a7:ByteArray)(a8 a9:Int)(a10:List Int)(a11:ByteArray):Option (Ty2⊕(ByteArray×Bool)):=
 Option.bind (Ev.Seat.words_show_2 κ a0 a1 a2 a3 a4 a5 a6 a7 a8 a9 a10) fun x0=>
  bif (!x0.2.1)then
   some (.inr ((ByteArray.mk (List.toArray [])),Bool.false))
  else
   some (.inl (x0.2.2.1,x0.2.2.2.1,x0.2.2.2.2.1,x0.2.2.2.2.2.1,x0.2.2.2.2.2.2.1,x0.2.2.2.2.2.2.2.1,x0.2.2.2.2.2.2.2.2.1,x0.2.2.2.2.2.2.2.2.2.1,x0.2.2.2.2.2.2.2.2.2.2.1,x0.2.2.2.2.2.2.2.2.2.2.2.1,x0.2.2.2.2.2.2.2.2.2.2.2.2,(x0.1::[]),a11))
def words_line.v8(κ:Nat)(a0 a1:Int)(a2:List ApiStep)(a3:ByteArray)(a4:Int)(a5 a6:Bool)(a7:ByteArray)(a8 a9:Int)(a10:List Int)(a11:ByteArray):Option (Ty2⊕(ByteArray×Bool)):=
 Option.bind (Ev.Seat.words_show_2 κ a0 a1 a2 a3 a4 a5 a6 a7 a8 a9 a10) fun x0=>
  bif (!x0.2.1)then
   some (.inr ((ByteArray.mk (List.toArray [])),Bool.false))
  else
   some (.inl (x0.2.2.1,x0.2.2.2.1,x0.2.2.2.2.1,x0.2.2.2.2.2.1,x0.2.2.2.2.2.2.1,x0.2.2.2.2.2.2.2.1,x0.2.2.2.2.2.2.2.2.1,x0.2.2.2.2.2.2.2.2.2.1,x0.2.2.2.2.2.2.2.2.2.2.1,x0.2.2.2.2.2.2.2.2.2.2.2.1,x0.2.2.2.2.2.2.2.2.2.2.2.2,(x0.1::[]),a11))
def words_line.v9(κ:Nat)(a0 a1:Int)(a2:List ApiStep)(a3:ByteArray)(a4:Int)(a5 a6:Bool)(a7:ByteArray)(a8 a9:Int)(a10:List Int)(a11:ByteArray):Option (Ty2⊕(ByteArray×Bool)):=
 Option.bind (Ev.Seat.words_show_2 κ a0 a1 a2 a3 a4 a5 a6 a7 a8 a9 a10) fun x0=>
  bif (!x0.2.1)then
   some (.inr ((ByteArray.mk (List.toArray [])),Bool.false))
  else
   some (.inl (x0.2.2.1,x0.2.2.2.1,x0.2.2.2.2.1,x0.2.2.2.2.2.1,x0.2.2.2.2.2.2.1,x0.2.2.2.2.2.2.2.1,x0.2.2.2.2.2.2.2.2.1,x0.2.2.2.2.2.2.2.2.2.1,x0.2.2.2.2.2.2.2.2.2.2.1,x0.2.2.2.2.2.2.2.2.2.2.2.1,x0.2.2.2.2.2.2.2.2.2.2.2.2,(x0.1::[]),a11))
def words_line.v10(κ:Nat)(a0 a1:Int)(a2:List ApiStep)(a3:ByteArray)(a4:Int)(a5 a6:Bool)(a7:ByteArray)(a8 a9:Int)(a10:List Int)(a11:ByteArray):Option (Ty2⊕(ByteArray×Bool)):=
 Option.bind (Ev.Seat.words_show_2 κ a0 a1 a2 a3 a4 a5 a6 a7 a8 a9 a10) fun x0=>
  bif (!x0.2.1)then
   some (.inr ((ByteArray.mk (List.toArray [])),Bool.false))
  else
   some (.inl (x0.2.2.1,x0.2.2.2.1,x0.2.2.2.2.1,x0.2.2.2.2.2.1,x0.2.2.2.2.2.2.1,x0.2.2.2.2.2.2.2.1,x0.2.2.2.2.2.2.2.2.1,x0.2.2.2.2.2.2.2.2.2.1,x0.2.2.2.2.2.2.2.2.2.2.1,x0.2.2.2.2.2.2.2.2.2.2.2.1,x0.2.2.2.2.2.2.2.2.2.2.2.2,(x0.1::[]),a11))
def words_line.v11(κ:Nat)(a0 a1:Int)(a2:List ApiStep)(a3:ByteArray)(a4:Int)(a5 a6:Bool)(a7:ByteArray)(a8 a9:Int)(a10:List Int)(a11:ByteArray):Option (Ty2⊕(ByteArray×Bool)):=
 Option.bind (Ev.Seat.words_show_2 κ a0 a1 a2 a3 a4 a5 a6 a7 a8 a9 a10) fun x0=>
  bif (!x0.2.1)then
   some (.inr ((ByteArray.mk (List.toArray [])),Bool.false))
  else
   some (.inl (x0.2.2.1,x0.2.2.2.1,x0.2.2.2.2.1,x0.2.2.2.2.2.1,x0.2.2.2.2.2.2.1,x0.2.2.2.2.2.2.2.1,x0.2.2.2.2.2.2.2.2.1,x0.2.2.2.2.2.2.2.2.2.1,x0.2.2.2.2.2.2.2.2.2.2.1,x0.2.2.2.2.2.2.2.2.2.2.2.1,x0.2.2.2.2.2.2.2.2.2.2.2.2,(x0.1::[]),a11))
def words_line.v12(κ:Nat)(a0 a1:Int)(a2:List ApiStep)(a3:ByteArray)(a4:Int)(a5 a6:Bool)(a7:ByteArray)(a8 a9:Int)(a10:List Int)(a11:List ByteArray)(a12:ByteArray):Option (Ty2⊕(ByteArray×Bool)):=
 Option.bind (Ev.Seat.words_show_3 κ a0 a1 a2 a3 a4 a5 a6 a7 a8 a9 a10) fun x0=>
  bif (!x0.2.1)then
   some (.inr ((ByteArray.mk (List.toArray [])),Bool.false))
  else
   bif (Nat.ble ((List.length a11)+(List.length (x0.1::[]))) (Ev.room (15+1)))then
    some (.inl (x0.2.2.1,x0.2.2.2.1,x0.2.2.2.2.1,x0.2.2.2.2.2.1,x0.2.2.2.2.2.2.1,x0.2.2.2.2.2.2.2.1,x0.2.2.2.2.2.2.2.2.1,x0.2.2.2.2.2.2.2.2.2.1,x0.2.2.2.2.2.2.2.2.2.2.1,x0.2.2.2.2.2.2.2.2.2.2.2.1,x0.2.2.2.2.2.2.2.2.2.2.2.2,(a11++(x0.1::[])),a12))
   else
    none
def words_line.v13(κ:Nat)(a0 a1:Int)(a2:List ApiStep)(a3:ByteArray)(a4:Int)(a5 a6:Bool)(a7:ByteArray)(a8 a9:Int)(a10:List Int)(a11:List ByteArray)(a12:ByteArray):Option (Ty2⊕(ByteArray×Bool)):=
 Option.bind (Ev.Seat.words_show_4 κ a0 a1 a2 a3 a4 a5 a6 a7 a8 a9 a10) fun x0=>
  bif (!x0.2.1)then
   some (.inr ((ByteArray.mk (List.toArray [])),Bool.false))
  else
   bif (Nat.ble ((List.length a11)+(List.length (x0.1::[]))) (Ev.room (15+1)))then
    some (.inl (x0.2.2.1,x0.2.2.2.1,x0.2.2.2.2.1,x0.2.2.2.2.2.1,x0.2.2.2.2.2.2.1,x0.2.2.2.2.2.2.2.1,x0.2.2.2.2.2.2.2.2.1,x0.2.2.2.2.2.2.2.2.2.1,x0.2.2.2.2.2.2.2.2.2.2.1,x0.2.2.2.2.2.2.2.2.2.2.2.1,x0.2.2.2.2.2.2.2.2.2.2.2.2,(a11++(x0.1::[])),a12))
   else
    none
def words_line.v14(κ:Nat)(a0 a1:Int)(a2:List ApiStep)(a3:ByteArray)(a4:Int)(a5 a6:Bool)(a7:ByteArray)(a8 a9:Int)(a10:List Int)(a11:List ByteArray)(a12:ByteArray):Option (Ty2⊕(ByteArray×Bool)):=
 Option.bind (Ev.Seat.words_show_3 κ a0 a1 a2 a3 a4 a5 a6 a7 a8 a9 a10) fun x0=>
  bif (!x0.2.1)then
   some (.inr ((ByteArray.mk (List.toArray [])),Bool.false))
  else
   bif (Nat.ble ((List.length a11)+(List.length (x0.1::[]))) (Ev.room (15+1)))then
    some (.inl (x0.2.2.1,x0.2.2.2.1,x0.2.2.2.2.1,x0.2.2.2.2.2.1,x0.2.2.2.2.2.2.1,x0.2.2.2.2.2.2.2.1,x0.2.2.2.2.2.2.2.2.1,x0.2.2.2.2.2.2.2.2.2.1,x0.2.2.2.2.2.2.2.2.2.2.1,x0.2.2.2.2.2.2.2.2.2.2.2.1,x0.2.2.2.2.2.2.2.2.2.2.2.2,(a11++(x0.1::[])),a12))
   else
    none
def words_line.v15(κ:Nat)(a0 a1:Int)(a2:List ApiStep)(a3:ByteArray)(a4:Int)(a5 a6:Bool)(a7:ByteArray)(a8 a9:Int)(a10:List Int)(a11:List ByteArray)(a12 a13:ByteArray):Option Ty10:=
 bif (Nat.ble ((List.length a11)+(List.length (a12::[]))) (Ev.room (15+1)))then
  some (a0,a1,a2,a3,a4,a5,a6,a7,a8,a9,a10,(a11++(a12::[])),a12,a13)
 else
  none
def words_line.v16(κ:Nat)(a0 a1:Int)(a2:List ApiStep)(a3:ByteArray)(a4:Int)(a5 a6:Bool)(a7:ByteArray)(a8 a9:Int)(a10:List Int)(a11:List ByteArray)(a12 a13:ByteArray):Option Ty10:=
 bif (Nat.ble ((List.length a11)+(List.length (a12::[]))) (Ev.room (15+1)))then
  some (a0,a1,a2,a3,a4,a5,a6,a7,a8,a9,a10,(a11++(a12::[])),a12,a13)
 else
  none
def words_line.v17(κ:Nat)(a0 a1:Int)(a2:List ApiStep)(a3:ByteArray)(a4:Int)(a5 a6:Bool)(a7:ByteArray)(a8 a9:Int)(a10:List Int)(a11:List ByteArray)(a12 a13 a14 a15 a16:ByteArray):Option Ty14:=
 bif (Nat.ble ((List.length a11)+(List.length (a12::[]))) (Ev.room (15+1)))then
  some (a0,a1,a2,a3,a4,a5,a6,a7,a8,a9,a10,(a11++(a12::[])),a12,a13,a14,a15,a16)
 else
  none
def words_line.v18(κ:Nat)(a0 a1:Int)(a2:List ApiStep)(a3:ByteArray)(a4:Int)(a5 a6:Bool)(a7:ByteArray)(a8 a9:Int)(a10:List Int)(a11:List ByteArray)(a12:ByteArray):Option Ty2:=
 bif (Nat.ble ((List.length a11)+(List.length (a12::[]))) (Ev.room (15+1)))then
  some (a0,a1,a2,a3,a4,a5,a6,a7,a8,a9,a10,(a11++(a12::[])),a12)
 else
  none
def words_line.v19(κ:Nat)(a0 a1:Int)(a2:List ApiStep)(a3:ByteArray)(a4:Int)(a5 a6:Bool)(a7:ByteArray)(a8 a9:Int)(a10:List Int)(a11:List ByteArray)(a12:ByteArray):Option Ty2:=
 bif (Nat.ble ((List.length a11)+(List.length (a12::[]))) (Ev.room (15+1)))then
  some (a0,a1,a2,a3,a4,a5,a6,a7,a8,a9,a10,(a11++(a12::[])),a12)
 else
  none
def words_line.v20(κ:Nat)(a0 a1:Int)(a2:List ApiStep)(a3:ByteArray)(a4:Int)(a5 a6:Bool)(a7:ByteArray)(a8 a9:Int)(a10:List Int)(a11:List ByteArray)(a12:ByteArray):Option Ty2:=
 bif (Nat.ble ((List.length a11)+(List.length (a12::[]))) (Ev.room (15+1)))then
  some (a0,a1,a2,a3,a4,a5,a6,a7,a8,a9,a10,(a11++(a12::[])),a12)
 else
  none
def words_line.v21(κ:Nat)(a0 a1:Int)(a2:List ApiStep)(a3:ByteArray)(a4:Int)(a5 a6:Bool)(a7:ByteArray)(a8 a9:Int)(a10:List Int)(a11:List ByteArray)(a12:ByteArray):Option Ty2:=
 bif (Nat.ble ((List.length a11)+(List.length (a12::[]))) (Ev.room (15+1)))then
  some (a0,a1,a2,a3,a4,a5,a6,a7,a8,a9,a10,(a11++(a12::[])),a12)
 else
  none
def words_line.v22(κ:Nat)(a0 a1:Int)(a2:List ApiStep)(a3:ByteArray)(a4:Int)(a5 a6:Bool)(a7:ByteArray)(a8 a9:Int)(a10:List Int)(a11:List ByteArray)(a12:ByteArray):Option Ty2:=
 bif (Nat.ble ((List.length a11)+(List.length (a12::[]))) (Ev.room (15+1)))then
  some (a0,a1,a2,a3,a4,a5,a6,a7,a8,a9,a10,(a11++(a12::[])),a12)
 else
  none
def words_line.v23(κ:Nat)(a0 a1:Int)(a2:List ApiStep)(a3:ByteArray)(a4:Int)(a5 a6:Bool)(a7:ByteArray)(a8 a9:Int)(a10:List Int)(a11:List ByteArray)(a12:ByteArray):Option ((List ByteArray)):=
 some a11
def words_line.v24(κ:Nat)(a0 a1:Int)(a2:List ApiStep)(a3:ByteArray)(a4:Int)(a5 a6:Bool)(a7:ByteArray)(a8 a9:Int)(a10:List Int)(a11:List ByteArray)(a12:ByteArray):Option ((List ByteArray)):=
 some a11
def words_line.v25(κ:Nat)(a0 a1:Int)(a2:List ApiStep)(a3:ByteArray)(a4:Int)(a5 a6:Bool)(a7:ByteArray)(a8 a9:Int)(a10:List Int)(a11:List ByteArray)(a12:ByteArray):Option (Ty2⊕(ByteArray×Bool)):=
 Option.bind (Ev.Seat.words_show_5 κ a0 a1 a2 a3 a4 a5 a6 a7 a8 a9 a10) fun x0=>
  bif (!x0.2.1)then
   some (.inr ((ByteArray.mk (List.toArray [])),Bool.false))
  else
   bif (Nat.ble ((List.length a11)+(List.length (x0.1::[]))) (Ev.room (15+1)))then
    some (.inl (x0.2.2.1,x0.2.2.2.1,x0.2.2.2.2.1,x0.2.2.2.2.2.1,x0.2.2.2.2.2.2.1,x0.2.2.2.2.2.2.2.1,x0.2.2.2.2.2.2.2.2.1,x0.2.2.2.2.2.2.2.2.2.1,x0.2.2.2.2.2.2.2.2.2.2.1,x0.2.2.2.2.2.2.2.2.2.2.2.1,x0.2.2.2.2.2.2.2.2.2.2.2.2,(a11++(x0.1::[])),a12))
   else
    none
def words_line.v26(κ:Nat)(a0 a1:Int)(a2:List ApiStep)(a3:ByteArray)(a4:Int)(a5 a6:Bool)(a7:ByteArray)(a8 a9:Int)(a10:List Int)(a11:List ByteArray)(a12 a13:ByteArray):Option Ty10:=
 bif (Nat.ble ((List.length a11)+(List.length (a13::[]))) (Ev.room (15+1)))then
  some (a0,a1,a2,a3,a4,a5,a6,a7,a8,a9,a10,(a11++(a13::[])),a12,a13)
 else
  none
def words_line.v27(κ:Nat)(a0 a1:Int)(a2:List ApiStep)(a3:ByteArray)(a4:Int)(a5 a6:Bool)(a7:ByteArray)(a8 a9:Int)(a10:List Int)(a11:List ByteArray)(a12 a13:ByteArray):Option Ty10:=
 bif (Nat.ble ((List.length a11)+(List.length (a13::[]))) (Ev.room (15+1)))then
  some (a0,a1,a2,a3,a4,a5,a6,a7,a8,a9,a10,(a11++(a13::[])),a12,a13)
 else
  none
def words_line.v28(κ:Nat)(a0 a1:Int)(a2:List ApiStep)(a3:ByteArray)(a4:Int)(a5 a6:Bool)(a7:ByteArray)(a8 a9:Int)(a10:List Int)(a11:List ByteArray)(a12 a13 a14 a15 a16:ByteArray):Option (Ty14⊕(ByteArray×Bool)):=
 Option.bind (Ev.Seat.words_show_6 κ a13 a14 a0 a1 a2 a3 a4 a5 a6 a7 a8 a9 a10) fun x0=>
  bif (!x0.2.1)then
   some (.inr ((ByteArray.mk (List.toArray [])),Bool.false))
  else
   bif (Nat.ble ((List.length a11)+(List.length (x0.1::[]))) (Ev.room (15+1)))then
    some (.inl (x0.2.2.1,x0.2.2.2.1,x0.2.2.2.2.1,x0.2.2.2.2.2.1,x0.2.2.2.2.2.2.1,x0.2.2.2.2.2.2.2.1,x0.2.2.2.2.2.2.2.2.1,x0.2.2.2.2.2.2.2.2.2.1,x0.2.2.2.2.2.2.2.2.2.2.1,x0.2.2.2.2.2.2.2.2.2.2.2.1,x0.2.2.2.2.2.2.2.2.2.2.2.2,(a11++(x0.1::[])),a12,a13,a14,a15,a16))
   else
    none
def words_line.v29(κ:Nat)(a0 a1:Int)(a2:List ApiStep)(a3:ByteArray)(a4:Int)(a5 a6:Bool)(a7:ByteArray)(a8 a9:Int)(a10:List Int)(a11:List ByteArray)(a12:ByteArray):Option (Ty2⊕(ByteArray×Bool)):=
 Option.bind (Ev.Seat.words_show_4 κ a0 a1 a2 a3 a4 a5 a6 a7 a8 a9 a10) fun x0=>
  bif (!x0.2.1)then
   some (.inr ((ByteArray.mk (List.toArray [])),Bool.false))
  else
   bif (Nat.ble ((List.length a11)+(List.length (x0.1::[]))) (Ev.room (15+1)))then
    some (.inl (x0.2.2.1,x0.2.2.2.1,x0.2.2.2.2.1,x0.2.2.2.2.2.1,x0.2.2.2.2.2.2.1,x0.2.2.2.2.2.2.2.1,x0.2.2.2.2.2.2.2.2.1,x0.2.2.2.2.2.2.2.2.2.1,x0.2.2.2.2.2.2.2.2.2.2.1,x0.2.2.2.2.2.2.2.2.2.2.2.1,x0.2.2.2.2.2.2.2.2.2.2.2.2,(a11++(x0.1::[])),a12))
   else
    none
def words_line.v30(κ:Nat)(a0 a1:Int)(a2:List ApiStep)(a3:ByteArray)(a4:Int)(a5 a6:Bool)(a7:ByteArray)(a8 a9:Int)(a10:List Int)(a11:List ByteArray)(a12:ByteArray):Option (Ty2⊕(ByteArray×Bool)):=
 Option.bind (Ev.Seat.words_show_7 κ a0 a1 a2 a3 a4 a5 a6 a7 a8 a9 a10) fun x0=>
  bif (!x0.2.1)then
   some (.inr ((ByteArray.mk (List.toArray [])),Bool.false))
  else
   bif (decide (x0.2.2.2.2.2.2.1>(0:Int)))then
    bif (Nat.ble ((List.length a11)+(List.length (x0.1::[]))) (Ev.room (15+1)))then
     some (.inl (x0.2.2.1,x0.2.2.2.1,x0.2.2.2.2.1,x0.2.2.2.2.2.1,x0.2.2.2.2.2.2.1,x0.2.2.2.2.2.2.2.1,x0.2.2.2.2.2.2.2.2.1,x0.2.2.2.2.2.2.2.2.2.1,x0.2.2.2.2.2.2.2.2.2.2.1,x0.2.2.2.2.2.2.2.2.2.2.2.1,x0.2.2.2.2.2.2.2.2.2.2.2.2,(a11++(x0.1::[])),a12))
    else
     none
   else
    some (.inl (x0.2.2.1,x0.2.2.2.1,x0.2.2.2.2.1,x0.2.2.2.2.2.1,x0.2.2.2.2.2.2.1,x0.2.2.2.2.2.2.2.1,x0.2.2.2.2.2.2.2.2.1,x0.2.2.2.2.2.2.2.2.2.1,x0.2.2.2.2.2.2.2.2.2.2.1,x0.2.2.2.2.2.2.2.2.2.2.2.1,x0.2.2.2.2.2.2.2.2.2.2.2.2,a11,a12))
def words_line.v31(κ:Nat)(a0 a1:Int)(a2:List ApiStep)(a3:ByteArray)(a4:Int)(a5 a6:Bool)(a7:ByteArray)(a8 a9:Int)(a10:List Int)(a11:List ByteArray)(a12:ByteArray):Option (Ty2⊕(ByteArray×Bool)):=
 Option.bind (Ev.Seat.words_show_8 κ a0 a1 a2 a3 a4 a5 a6 a7 a8 a9 a10) fun x0=>
  bif (!x0.2.1)then
   some (.inr ((ByteArray.mk (List.toArray [])),Bool.false))
  else
   bif (Nat.ble ((List.length a11)+(List.length (x0.1::[]))) (Ev.room (15+1)))then
    some (.inl (x0.2.2.1,x0.2.2.2.1,x0.2.2.2.2.1,x0.2.2.2.2.2.1,x0.2.2.2.2.2.2.1,x0.2.2.2.2.2.2.2.1,x0.2.2.2.2.2.2.2.2.1,x0.2.2.2.2.2.2.2.2.2.1,x0.2.2.2.2.2.2.2.2.2.2.1,x0.2.2.2.2.2.2.2.2.2.2.2.1,x0.2.2.2.2.2.2.2.2.2.2.2.2,(a11++(x0.1::[])),a12))
   else
    none
def words_line.v32(κ:Nat)(a0 a1:Int)(a2:List ApiStep)(a3:ByteArray)(a4:Int)(a5 a6:Bool)(a7:ByteArray)(a8 a9:Int)(a10:List Int)(a11:List ByteArray)(a12:ByteArray):Option (Ty2⊕(ByteArray×Bool)):=
 Option.bind (Ev.Seat.words_show_8 κ a0 a1 a2 a3 a4 a5 a6 a7 a8 a9 a10) fun x0=>
  bif (!x0.2.1)then
   some (.inr ((ByteArray.mk (List.toArray [])),Bool.false))
  else
   bif (Nat.ble ((List.length a11)+(List.length (x0.1::[]))) (Ev.room (15+1)))then
    some (.inl (x0.2.2.1,x0.2.2.2.1,x0.2.2.2.2.1,x0.2.2.2.2.2.1,x0.2.2.2.2.2.2.1,x0.2.2.2.2.2.2.2.1,x0.2.2.2.2.2.2.2.2.1,x0.2.2.2.2.2.2.2.2.2.1,x0.2.2.2.2.2.2.2.2.2.2.1,x0.2.2.2.2.2.2.2.2.2.2.2.1,x0.2.2.2.2.2.2.2.2.2.2.2.2,(a11++(x0.1::[])),a12))
   else
    none
def words_line.v33(κ:Nat)(a0 a1:Int)(a2:List ApiStep)(a3:ByteArray)(a4:Int)(a5 a6:Bool)(a7:ByteArray)(a8 a9:Int)(a10:List Int)(a11:List ByteArray)(a12:ByteArray):Option ((List ByteArray)):=
 some a11
def words_line.v34(κ:Nat)(a0 a1:Int)(a2:List ApiStep)(a3:ByteArray)(a4:Int)(a5 a6:Bool)(a7:ByteArray)(a8 a9:Int)(a10:List Int)(a11:List ByteArray)(a12:ByteArray):Option (Ty2⊕(ByteArray×Bool)):=
 Option.bind (Ev.Seat.words_show_9 κ a0 a1 a2 a3 a4 a5 a6 a7 a8 a9 a10) fun x0=>
  bif (!x0.2.1)then
   some (.inr ((ByteArray.mk (List.toArray [])),Bool.false))
  else
   bif (Nat.ble ((List.length a11)+(List.length (x0.1::[]))) (Ev.room (15+1)))then
    some (.inl (x0.2.2.1,x0.2.2.2.1,x0.2.2.2.2.1,x0.2.2.2.2.2.1,x0.2.2.2.2.2.2.1,x0.2.2.2.2.2.2.2.1,x0.2.2.2.2.2.2.2.2.1,x0.2.2.2.2.2.2.2.2.2.1,x0.2.2.2.2.2.2.2.2.2.2.1,x0.2.2.2.2.2.2.2.2.2.2.2.1,x0.2.2.2.2.2.2.2.2.2.2.2.2,(a11++(x0.1::[])),a12))
   else
    none
def words_line.v35(κ:Nat)(a0 a1:Int)(a2:List ApiStep)(a3:ByteArray)(a4:Int)(a5 a6:Bool)(a7:ByteArray)(a8 a9:Int)(a10:List Int)(a11:List ByteArray)(a12 a13:ByteArray):Option (Ty10⊕(ByteArray×Bool)):=
 Option.bind (Ev.Seat.words_show_10 κ a0 a1 a2 a3 a4 a5 a6 a7 a8 a9 a10) fun x0=>
  bif (!x0.2.1)then
   some (.inr ((ByteArray.mk (List.toArray [])),Bool.false))
  else
   bif (Nat.ble ((List.length a11)+(List.length (x0.1::[]))) (Ev.room (15+1)))then
    some (.inl (x0.2.2.1,x0.2.2.2.1,x0.2.2.2.2.1,x0.2.2.2.2.2.1,x0.2.2.2.2.2.2.1,x0.2.2.2.2.2.2.2.1,x0.2.2.2.2.2.2.2.2.1,x0.2.2.2.2.2.2.2.2.2.1,x0.2.2.2.2.2.2.2.2.2.2.1,x0.2.2.2.2.2.2.2.2.2.2.2.1,x0.2.2.2.2.2.2.2.2.2.2.2.2,(a11++(x0.1::[])),a12,a13))
   else
    none
def words_line.v36(κ:Nat)(a0 a1:Int)(a2:List ApiStep)(a3:ByteArray)(a4:Int)(a5 a6:Bool)(a7:ByteArray)(a8 a9:Int)(a10:List Int)(a11:List ByteArray)(a12 a13:ByteArray):Option Ty10:=
 bif (Nat.ble ((List.length a11)+(List.length ((ByteArray.mk (List.toArray (List.map (fun x=>(UInt8.ofNat (Int.toNat x))) a10)))::[]))) (Ev.room (15+1)))then
  some (a0,a1,a2,a3,a4,a5,a6,a7,a8,a9,a10,(a11++((ByteArray.mk (List.toArray (List.map (fun x=>(UInt8.ofNat (Int.toNat x))) a10)))::[])),a12,a13)
 else
  none
def words_line.v37(κ:Nat)(a0 a1:Int)(a2:List ApiStep)(a3:ByteArray)(a4:Int)(a5 a6:Bool)(a7:ByteArray)(a8 a9:Int)(a10:List Int)(a11:List ByteArray)(a12 a13 a14 a15 a16:ByteArray):Option (Ty14⊕(ByteArray×Bool)):=
 Option.bind (Ev.Seat.words_show_12 κ a15 a16 a0 a1 a2 a3 a4 a5 a6 a7 a8 a9 a10) fun x0=>
  bif (!x0.2.1)then
   some (.inr ((ByteArray.mk (List.toArray [])),Bool.false))
  else
   bif (Nat.ble ((List.length a11)+(List.length (x0.1::[]))) (Ev.room (15+1)))then
    some (.inl (x0.2.2.1,x0.2.2.2.1,x0.2.2.2.2.1,x0.2.2.2.2.2.1,x0.2.2.2.2.2.2.1,x0.2.2.2.2.2.2.2.1,x0.2.2.2.2.2.2.2.2.1,x0.2.2.2.2.2.2.2.2.2.1,x0.2.2.2.2.2.2.2.2.2.2.1,x0.2.2.2.2.2.2.2.2.2.2.2.1,x0.2.2.2.2.2.2.2.2.2.2.2.2,(a11++(x0.1::[])),a12,a13,a14,a15,a16))
   else
    none
def words_line.v38(κ:Nat)(a0 a1:Int)(a2:List ApiStep)(a3:ByteArray)(a4:Int)(a5 a6:Bool)(a7:ByteArray)(a8 a9:Int)(a10:List Int)(a11:List ByteArray)(a12:ByteArray):Option ((List ByteArray)):=
 some a11
def words_line.v39(κ:Nat)(a0 a1:Int)(a2:List ApiStep)(a3:ByteArray)(a4:Int)(a5 a6:Bool)(a7:ByteArray)(a8 a9:Int)(a10:List Int)(a11:List ByteArray)(a12:ByteArray):Option ((List ByteArray)):=
 some a11
def words_line.v40(κ:Nat)(a0 a1:Int)(a2:List ApiStep)(a3:ByteArray)(a4:Int)(a5 a6:Bool)(a7:ByteArray)(a8 a9:Int)(a10:List Int)(a11:List ByteArray)(a12:ByteArray):Option ((List ByteArray)):=
 some a11
def words_line.v41(κ:Nat)(a0 a1:Int)(a2:List ApiStep)(a3:ByteArray)(a4:Int)(a5 a6:Bool)(a7:ByteArray)(a8 a9:Int)(a10:List Int)(a11:List ByteArray)(a12:ByteArray):Option (Ty2⊕(ByteArray×Bool)):=
 Option.bind (Ev.Seat.words_show_13 κ a0 a1 a2 a3 a4 a5 a6 a7 a8 a9 a10) fun x0=>
  bif (!x0.2.1)then
   some (.inr ((ByteArray.mk (List.toArray [])),Bool.false))
  else
   bif (Nat.ble ((List.length a11)+(List.length (x0.1::[]))) (Ev.room (15+1)))then
    some (.inl (x0.2.2.1,x0.2.2.2.1,x0.2.2.2.2.1,x0.2.2.2.2.2.1,x0.2.2.2.2.2.2.1,x0.2.2.2.2.2.2.2.1,x0.2.2.2.2.2.2.2.2.1,x0.2.2.2.2.2.2.2.2.2.1,x0.2.2.2.2.2.2.2.2.2.2.1,x0.2.2.2.2.2.2.2.2.2.2.2.1,x0.2.2.2.2.2.2.2.2.2.2.2.2,(a11++(x0.1::[])),a12))
   else
    none
def words_line.v42(κ:Nat)(a0 a1:Int)(a2:List ApiStep)(a3:ByteArray)(a4:Int)(a5 a6:Bool)(a7:ByteArray)(a8 a9:Int)(a10:List Int)(a11:List ByteArray)(a12:ByteArray):Option ((List ByteArray)):=
 some a11
def words_line.v43(κ:Nat)(a0 a1:Int)(a2:List ApiStep)(a3:ByteArray)(a4:Int)(a5 a6:Bool)(a7:ByteArray)(a8 a9:Int)(a10:List Int)(a11:List ByteArray)(a12 a13:ByteArray):Option ((List ByteArray)):=
 some a11
def words_line.v44(κ:Nat)(a0 a1:Int)(a2:List ApiStep)(a3:ByteArray)(a4:Int)(a5 a6:Bool)(a7:ByteArray)(a8 a9:Int)(a10:List Int)(a11:List ByteArray)(a12 a13:ByteArray):Option ((List ByteArray)):=
 some a11
def words_line.v45(κ:Nat)(a0 a1:Int)(a2:List ApiStep)(a3:ByteArray)(a4:Int)(a5 a6:Bool)(a7:ByteArray)(a8 a9:Int)(a10:List Int)(a11:List ByteArray)(a12 a13 a14 a15 a16:ByteArray):Option (Ty14⊕(ByteArray×Bool)):=
 Option.bind (Ev.Seat.words_show_4 κ a0 a1 a2 a3 a4 a5 a6 a7 a8 a9 a10) fun x0=>
  bif (!x0.2.1)then
   some (.inr ((ByteArray.mk (List.toArray [])),Bool.false))
  else
   bif (Nat.ble ((List.length a11)+(List.length (x0.1::[]))) (Ev.room (15+1)))then
    some (.inl (x0.2.2.1,x0.2.2.2.1,x0.2.2.2.2.1,x0.2.2.2.2.2.1,x0.2.2.2.2.2.2.1,x0.2.2.2.2.2.2.2.1,x0.2.2.2.2.2.2.2.2.1,x0.2.2.2.2.2.2.2.2.2.1,x0.2.2.2.2.2.2.2.2.2.2.1,x0.2.2.2.2.2.2.2.2.2.2.2.1,x0.2.2.2.2.2.2.2.2.2.2.2.2,(a11++(x0.1::[])),a12,a13,a14,a15,a16))
   else
    none
def words_line.v46(κ:Nat)(a0 a1:Int)(a2:List ApiStep)(a3:ByteArray)(a4:Int)(a5 a6:Bool)(a7:ByteArray)(a8 a9:Int)(a10:List Int)(a11:List ByteArray)(a12:ByteArray):Option ((List ByteArray)):=
 some a11
def words_line.v47(κ:Nat)(a0 a1:Int)(a2:List ApiStep)(a3:ByteArray)(a4:Int)(a5 a6:Bool)(a7:ByteArray)(a8 a9:Int)(a10:List Int)(a11:List ByteArray)(a12 a13 a14 a15 a16:ByteArray):Option ((List ByteArray)):=
 some a11
def words_line(κ:Nat)(a0 a1:Int)(a2:List ApiStep)(a3:ByteArray)(a4:Int)(a5 a6:Bool)(a7:ByteArray)(a8 a9:Int)(a10:List Int):Option (ByteArray×Bool):=
 Option.bind (Ev.Seat.words_parts κ a0) fun x0=>
  match x0 with
  | .inl x1=>
   some ((ByteArray.mk (List.toArray [])),(decide ((0:Int)>(0:Int))))
  | .inr x2=>
   match x2 with
   | .inl x3=>
    Option.bind (Ev.Seat.words_line.v12 κ a0 a1 a2 a3 a4 a5 a6 a7 a8 a9 a10 (x3::[]) x3) fun x4=>
     match x4 with
     | .inl x5=>
      Option.bind (Ev.Seat.strJoin κ x5.2.2.2.2.2.2.2.2.2.2.2.1 (ByteArray.mk (List.toArray ((32:UInt8)::[])))) fun x6=>
       some (x6,(decide ((((List.length x5.2.2.2.2.2.2.2.2.2.2.2.1):Nat):Int)>(0:Int))))
     | .inr x7=>
      some (x7.1,x7.2)
   | .inr x8=>
    match x8 with
    | .inl x9=>
     Option.bind (Ev.Seat.words_line.v13 κ a0 a1 a2 a3 a4 a5 a6 a7 a8 a9 a10 (x9::[]) x9) fun x10=>
      match x10 with
      | .inl x11=>
       Option.bind (Ev.Seat.strJoin κ x11.2.2.2.2.2.2.2.2.2.2.2.1 (ByteArray.mk (List.toArray ((32:UInt8)::[])))) fun x12=>
        some (x12,(decide ((((List.length x11.2.2.2.2.2.2.2.2.2.2.2.1):Nat):Int)>(0:Int))))
      | .inr x13=>
       some (x13.1,x13.2)
    | .inr x14=>
     match x14 with
     | .inl x15=>
      Option.bind (Ev.Seat.words_line.v14 κ a0 a1 a2 a3 a4 a5 a6 a7 a8 a9 a10 (x15::[]) x15) fun x16=>
       match x16 with
       | .inl x17=>
        Option.bind (unc13 (Ev.Seat.words_line.v25 κ) x17) fun x18=>
         match x18 with
         | .inl x19=>
          Option.bind (unc13 (Ev.Seat.words_line.v34 κ) x19) fun x20=>
           match x20 with
           | .inl x21=>
            Option.bind (Ev.Seat.strJoin κ x21.2.2.2.2.2.2.2.2.2.2.2.1 (ByteArray.mk (List.toArray ((32:UInt8)::[])))) fun x22=>
             some (x22,(decide ((((List.length x21.2.2.2.2.2.2.2.2.2.2.2.1):Nat):Int)>(0:Int))))
           | .inr x23=>
            some (x23.1,x23.2)
         | .inr x24=>
          some (x24.1,x24.2)
       | .inr x25=>
        some (x25.1,x25.2)
     | .inr x26=>
      match x26 with
      | .inl x27=>
       Option.bind (Ev.Seat.words_line.v4 κ a0 a1 a2 a3 a4 a5 a6 a7 a8 a9 a10 x27.1 x27.2) fun x28=>
        match x28 with
        | .inl x29=>
         Option.bind (unc14 (Ev.Seat.words_line.v15 κ) x29) fun x30=>
          Option.bind (unc14 (Ev.Seat.words_line.v26 κ) x30) fun x31=>
           Option.bind (unc14 (Ev.Seat.words_line.v35 κ) x31) fun x32=>
            match x32 with
            | .inl x33=>
             Option.bind (Ev.Seat.strJoin κ x33.2.2.2.2.2.2.2.2.2.2.2.1 (ByteArray.mk (List.toArray ((32:UInt8)::[])))) fun x34=>
              some (x34,(decide ((((List.length x33.2.2.2.2.2.2.2.2.2.2.2.1):Nat):Int)>(0:Int))))
            | .inr x35=>
             some (x35.1,x35.2)
        | .inr x36=>
         some (x36.1,x36.2)
      | .inr x37=>
       match x37 with
       | .inl x38=>
        Option.bind (Ev.Seat.words_line.v5 κ a0 a1 a2 a3 a4 a5 a6 a7 a8 a9 a10 x38.1 x38.2) fun x39=>
         match x39 with
         | .inl x40=>
          Option.bind (unc14 (Ev.Seat.words_line.v16 κ) x40) fun x41=>
           Option.bind (unc14 (Ev.Seat.words_line.v27 κ) x41) fun x42=>
            Option.bind (unc14 (Ev.Seat.words_line.v36 κ) x42) fun x43=>
             Option.bind (Ev.Seat.strJoin κ x43.2.2.2.2.2.2.2.2.2.2.2.1 (ByteArray.mk (List.toArray ((32:UInt8)::[])))) fun x44=>
              some (x44,(decide ((((List.length x43.2.2.2.2.2.2.2.2.2.2.2.1):Nat):Int)>(0:Int))))
         | .inr x45=>
          some (x45.1,x45.2)
       | .inr x46=>
        match x46 with
        | .inl x47=>
         Option.bind (Ev.Seat.words_line.v6 κ a0 a1 a2 a3 a4 a5 a6 a7 a8 a9 a10 x47.1 x47.2.1 x47.2.2.1 x47.2.2.2.1 x47.2.2.2.2) fun x48=>
          match x48 with
          | .inl x49=>
           Option.bind (unc17 (Ev.Seat.words_line.v17 κ) x49) fun x50=>
            Option.bind (unc17 (Ev.Seat.words_line.v28 κ) x50) fun x51=>
             match x51 with
             | .inl x52=>
              Option.bind (unc17 (Ev.Seat.words_line.v37 κ) x52) fun x53=>
               match x53 with
               | .inl x54=>
                Option.bind (unc17 (Ev.Seat.words_line.v45 κ) x54) fun x55=>
                 match x55 with
                 | .inl x56=>
                  Option.bind (Ev.Seat.strJoin κ x56.2.2.2.2.2.2.2.2.2.2.2.1 (ByteArray.mk (List.toArray ((32:UInt8)::[])))) fun x57=>
                   some (x57,(decide ((((List.length x56.2.2.2.2.2.2.2.2.2.2.2.1):Nat):Int)>(0:Int))))
                 | .inr x58=>
                  some (x58.1,x58.2)
               | .inr x59=>
                some (x59.1,x59.2)
             | .inr x60=>
              some (x60.1,x60.2)
          | .inr x61=>
           some (x61.1,x61.2)
        | .inr x62=>
         match x62 with
         | .inl x63=>
          Option.bind (Ev.Seat.words_line.v7 κ a0 a1 a2 a3 a4 a5 a6 a7 a8 a9 a10 x63) fun x64=>
           match x64 with
           | .inl x65=>
            Option.bind (unc13 (Ev.Seat.words_line.v18 κ) x65) fun x66=>
             Option.bind (unc13 (Ev.Seat.words_line.v29 κ) x66) fun x67=>
              match x67 with
              | .inl x68=>
               Option.bind (Ev.Seat.strJoin κ x68.2.2.2.2.2.2.2.2.2.2.2.1 (ByteArray.mk (List.toArray ((32:UInt8)::[])))) fun x69=>
                some (x69,(decide ((((List.length x68.2.2.2.2.2.2.2.2.2.2.2.1):Nat):Int)>(0:Int))))
              | .inr x70=>
               some (x70.1,x70.2)
           | .inr x71=>
            some (x71.1,x71.2)
         | .inr x72=>
          match x72 with
          | .inl x73=>
           Option.bind (Ev.Seat.words_line.v8 κ a0 a1 a2 a3 a4 a5 a6 a7 a8 a9 a10 x73) fun x74=>
            match x74 with
            | .inl x75=>
             Option.bind (unc13 (Ev.Seat.words_line.v19 κ) x75) fun x76=>
              Option.bind (unc13 (Ev.Seat.words_line.v30 κ) x76) fun x77=>
               match x77 with
               | .inl x78=>
                Option.bind (Ev.Seat.strJoin κ x78.2.2.2.2.2.2.2.2.2.2.2.1 (ByteArray.mk (List.toArray ((32:UInt8)::[])))) fun x79=>
                 some (x79,(decide ((((List.length x78.2.2.2.2.2.2.2.2.2.2.2.1):Nat):Int)>(0:Int))))
               | .inr x80=>
                some (x80.1,x80.2)
            | .inr x81=>
             some (x81.1,x81.2)
          | .inr x82=>
           match x82 with
           | .inl x83=>
            Option.bind (Ev.Seat.words_line.v9 κ a0 a1 a2 a3 a4 a5 a6 a7 a8 a9 a10 x83) fun x84=>
             match x84 with
             | .inl x85=>
              Option.bind (unc13 (Ev.Seat.words_line.v20 κ) x85) fun x86=>
               Option.bind (unc13 (Ev.Seat.words_line.v31 κ) x86) fun x87=>
                match x87 with
                | .inl x88=>
                 Option.bind (Ev.Seat.strJoin κ x88.2.2.2.2.2.2.2.2.2.2.2.1 (ByteArray.mk (List.toArray ((32:UInt8)::[])))) fun x89=>
                  some (x89,(decide ((((List.length x88.2.2.2.2.2.2.2.2.2.2.2.1):Nat):Int)>(0:Int))))
                | .inr x90=>
                 some (x90.1,x90.2)
             | .inr x91=>
              some (x91.1,x91.2)
           | .inr x92=>
            match x92 with
            | .inl x93=>
             Option.bind (Ev.Seat.words_line.v10 κ a0 a1 a2 a3 a4 a5 a6 a7 a8 a9 a10 x93) fun x94=>
              match x94 with
              | .inl x95=>
               Option.bind (unc13 (Ev.Seat.words_line.v21 κ) x95) fun x96=>
                Option.bind (unc13 (Ev.Seat.words_line.v32 κ) x96) fun x97=>
                 match x97 with
                 | .inl x98=>
                  Option.bind (unc13 (Ev.Seat.words_line.v41 κ) x98) fun x99=>
                   match x99 with
                   | .inl x100=>
                    Option.bind (Ev.Seat.strJoin κ x100.2.2.2.2.2.2.2.2.2.2.2.1 (ByteArray.mk (List.toArray ((32:UInt8)::[])))) fun x101=>
                     some (x101,(decide ((((List.length x100.2.2.2.2.2.2.2.2.2.2.2.1):Nat):Int)>(0:Int))))
                   | .inr x102=>
                    some (x102.1,x102.2)
                 | .inr x103=>
                  some (x103.1,x103.2)
              | .inr x104=>
               some (x104.1,x104.2)
            | .inr x105=>
             Option.bind (Ev.Seat.words_line.v11 κ a0 a1 a2 a3 a4 a5 a6 a7 a8 a9 a10 x105) fun x106=>
              match x106 with
              | .inl x107=>
               Option.bind (unc13 (Ev.Seat.words_line.v22 κ) x107) fun x108=>
                Option.bind (Ev.Seat.strJoin κ x108.2.2.2.2.2.2.2.2.2.2.2.1 (ByteArray.mk (List.toArray ((32:UInt8)::[])))) fun x109=>
                 some (x109,(decide ((((List.length x108.2.2.2.2.2.2.2.2.2.2.2.1):Nat):Int)>(0:Int))))
              | .inr x110=>
               some (x110.1,x110.2)
def internal_stringslite_Cut(κ:Nat)(a0 a1:ByteArray):Option (ByteArray×ByteArray×Bool):=
 Option.bind (Ev.Seat.slIndex κ a0 a1) fun x0=>
  bif (decide (x0≥(0:Int)))then
   bif ((((decide ((0:Int)≤x0))&&(decide (x0≤(((ByteArray.size a0):Nat):Int))))&&(decide ((0:Int)≤(0:Int))))&&(decide ((0:Int)≤x0)))then
    bif (((decide ((((ByteArray.size a0):Nat):Int)≤(((ByteArray.size a0):Nat):Int)))&&(decide ((0:Int)≤(IntKind.wrap IntKind.i64 (x0+(((ByteArray.size a1):Nat):Int))))))&&(decide ((IntKind.wrap IntKind.i64 (x0+(((ByteArray.size a1):Nat):Int)))≤(((ByteArray.size a0):Nat):Int))))then
     some ((ByteArray.extract a0 (Int.toNat (0:Int)) (Int.toNat x0)),(ByteArray.extract a0 (Int.toNat (IntKind.wrap IntKind.i64 (x0+(((ByteArray.size a1):Nat):Int)))) (Int.toNat (((ByteArray.size a0):Nat):Int))),Bool.true)
    else
     none
   else
    none
  else
   some (a0,(ByteArray.mk (List.toArray [])),Bool.false)
def strings_Cut(κ:Nat)(a0 a1:ByteArray):Option (ByteArray×ByteArray×Bool):=
 Option.bind (Ev.Seat.internal_stringslite_Cut κ a0 a1) fun x0=>
  some (x0.1,x0.2.1,x0.2.2)
def words_read(κ:Nat)(a0 a1:ByteArray)(a2 a3:Int)(a4:List ApiStep)(a5:ByteArray)(a6:Int)(a7 a8:Bool)(a9:ByteArray)(a10 a11:Int)(a12:List Int):Option Ty9:=
 some ((Ev.seq a1 a0),a2,a3,a4,a5,a6,a7,a8,a9,a10,a11,a12)
def words_read_2(κ:Nat)(a0:ByteArray)(a1 a2:Int)(a3:List ApiStep)(a4:ByteArray)(a5:Int)(a6 a7:Bool)(a8:ByteArray)(a9 a10:Int)(a11:List Int):Option Ty9:=
 Option.bind (Ev.Seat.scalUint κ a0) fun x0=>
  some (x0.2,a1,(IntKind.wrap IntKind.i64 (bif Bool.false then(if((10:Int)>x0.1)then(10:Int)else x0.1)else(if((10:Int)<x0.1)then(10:Int)else x0.1))),a3,a4,a5,a6,a7,a8,a9,a10,a11)
def words_read_3(κ:Nat)(a0:ByteArray)(a1 a2:Int)(a3:List ApiStep)(a4:ByteArray)(a5:Int)(a6 a7:Bool)(a8:ByteArray)(a9 a10:Int)(a11:List Int):Option Ty9:=
 some (Bool.true,a1,a2,a3,a4,a5,a6,a7,a0,a9,a10,a11)
def words_read_4(κ:Nat)(a0:ByteArray)(a1 a2:Int)(a3:List ApiStep)(a4:ByteArray)(a5:Int)(a6 a7:Bool)(a8:ByteArray)(a9 a10:Int)(a11:List Int):Option Ty9:=
 Option.bind (Ev.Seat.scalUint κ a0) fun x0=>
  some (x0.2,a1,a2,a3,a4,x0.1,a6,a7,a8,a9,a10,a11)
def words_read_5(κ:Nat)(a0:ByteArray)(a1 a2:Int)(a3:List ApiStep)(a4:ByteArray)(a5:Int)(a6 a7:Bool)(a8:ByteArray)(a9 a10:Int)(a11:List Int):Option Ty9:=
 Option.bind (Ev.Seat.scalUint κ a0) fun x0=>
  some (x0.2,a1,a2,a3,a4,a5,a6,a7,a8,x0.1,a10,a11)
def words_read_6(κ:Nat)(a0 a1 a2:ByteArray)(a3 a4:Int)(a5:List ApiStep)(a6:ByteArray)(a7:Int)(a8 a9:Bool)(a10:ByteArray)(a11 a12:Int)(a13:List Int):Option Ty9:=
 bif (Ev.seq a2 a1)then
  some (Bool.true,a3,a4,a5,a6,a7,(Ev.seq a2 a1),a9,a10,a11,a12,a13)
 else
  some ((Ev.seq a2 a0),a3,a4,a5,a6,a7,(Ev.seq a2 a1),a9,a10,a11,a12,a13)
def words_read_7(κ:Nat)(a0:ByteArray)(a1 a2:Int)(a3:List ApiStep)(a4:ByteArray)(a5:Int)(a6 a7:Bool)(a8:ByteArray)(a9 a10:Int)(a11:List Int):Option Ty9:=
 Option.bind (Ev.Seat.scalUint κ a0) fun x0=>
  bif x0.2 then
   some ((decide (x0.1>(0:Int))),a1,a2,a3,a4,x0.1,a6,a7,a8,a9,a10,a11)
  else
   some (Bool.false,a1,a2,a3,a4,x0.1,a6,a7,a8,a9,a10,a11)
def words_read_8(κ:Nat)(a0:ByteArray)(a1 a2:Int)(a3:List ApiStep)(a4:ByteArray)(a5:Int)(a6 a7:Bool)(a8:ByteArray)(a9 a10:Int)(a11:List Int):Option (Bool×Int×Int×ByteArray×Int×Bool×Bool×ByteArray×Int×Int×(List Int)×(List ApiStep)):=
 Option.bind (Ev.Seat.path_Parse κ a0) fun x0=>
  some ((x0.1==(0:Int)),a1,a2,a4,a5,a6,a7,a8,a9,a10,a11,x0.2.2)
def words_read_9(κ:Nat)(a0:ByteArray)(a1 a2:Int)(a3:List ApiStep)(a4:ByteArray)(a5:Int)(a6 a7:Bool)(a8:ByteArray)(a9 a10:Int)(a11:List Int):Option Ty9:=
 Option.bind (Ev.Seat.scalUint κ a0) fun x0=>
  some (x0.2,a1,a2,a3,a4,a5,a6,a7,a8,a9,x0.1,a11)
def words_unhex.v5(κ:Nat)(a0:ByteArray)(a1 a2 a3:Int)(a4:List Int):Option (ByteArray×Int×Int×Int×Bool×(List Int)):=
 bif (decide (a2<(0:Int)))then
  some (a0,a1,a2,a3,Bool.true,a4)
 else
  some (a0,a1,a2,a3,(decide (a3<(0:Int))),a4)
def words_unhex.w4(κ:Nat)(rec:(ByteArray×Int×(List Int))→Option (((List Int))⊕(Bool)))(a0:ByteArray)(a1:Int)(a2:List Int):Option (((List Int))⊕(Bool)):=
 bif (decide (a1<(((ByteArray.size a0):Nat):Int)))then
  bif (decide ((0:Int)≤a1))then
   Option.bind ((Array.toList (ByteArray.data a0))[(Int.toNat a1)]?) fun x0=>
    bif (decide ((0:Int)≤(IntKind.wrap IntKind.i64 (a1+(1:Int)))))then
     Option.bind ((Array.toList (ByteArray.data a0))[(Int.toNat (IntKind.wrap IntKind.i64 (a1+(1:Int))))]?) fun x1=>
      Option.bind (Ev.Seat.words_unhex.v5 κ a0 a1 (Go.Lib.indexByte (Array.toList (ByteArray.data (ByteArray.mk (List.toArray ((48:UInt8)::((49:UInt8)::((50:UInt8)::((51:UInt8)::((52:UInt8)::((53:UInt8)::((54:UInt8)::((55:UInt8)::((56:UInt8)::((57:UInt8)::((97:UInt8)::((98:UInt8)::((99:UInt8)::((100:UInt8)::((101:UInt8)::((102:UInt8)::[])))))))))))))))))))) (Nat.toUInt8 (Int.toNat (((UInt8.toNat x0):Nat):Int)))) (Go.Lib.indexByte (Array.toList (ByteArray.data (ByteArray.mk (List.toArray ((48:UInt8)::((49:UInt8)::((50:UInt8)::((51:UInt8)::((52:UInt8)::((53:UInt8)::((54:UInt8)::((55:UInt8)::((56:UInt8)::((57:UInt8)::((97:UInt8)::((98:UInt8)::((99:UInt8)::((100:UInt8)::((101:UInt8)::((102:UInt8)::[])))))))))))))))))))) (Nat.toUInt8 (Int.toNat (((UInt8.toNat x1):Nat):Int)))) a2) fun x2=>
       bif x2.2.2.2.2.1 then
        some (.inr Bool.false)
       else
        bif (Nat.ble ((List.length x2.2.2.2.2.2)+(List.length ((IntKind.wrap IntKind.u8 (IntKind.wrap IntKind.i64 (((BitVec.toNat (HOr.hOr (BitVec.ofInt (IntKind.bits IntKind.i64) (IntKind.wrap IntKind.i64 (x2.2.2.1*((2:Int)^(Min.min (Int.toNat (4:Int)) (IntKind.bits IntKind.i64)))))) (BitVec.ofInt (IntKind.bits IntKind.i64) x2.2.2.2.1))):Nat):Int)))::[]))) (Ev.room (0+1)))then
         rec (x2.1,(IntKind.wrap IntKind.i64 (x2.2.1+(2:Int))),(x2.2.2.2.2.2++((IntKind.wrap IntKind.u8 (IntKind.wrap IntKind.i64 (((BitVec.toNat (HOr.hOr (BitVec.ofInt (IntKind.bits IntKind.i64) (IntKind.wrap IntKind.i64 (x2.2.2.1*((2:Int)^(Min.min (Int.toNat (4:Int)) (IntKind.bits IntKind.i64)))))) (BitVec.ofInt (IntKind.bits IntKind.i64) x2.2.2.2.1))):Nat):Int)))::[])))
        else
         none
    else
     none
  else
   none
 else
  some (.inl a2)
def words_unhex.l4(κ:Nat):Nat→(ByteArray×Int×(List Int))→Option (((List Int))⊕(Bool))
 |0,_ =>none
 |k+1,(a0,a1,a2)=>words_unhex.w4 κ (words_unhex.l4 κ k) a0 a1 a2
def words_unhex(κ:Nat)(a0:ByteArray):Option (Bool×(List Int)):=
 bif (decide ((Int.tmod (((ByteArray.size a0):Nat):Int) (2:Int))>(0:Int)))then
  some (Bool.false,[])
 else
  Option.bind (Ev.Seat.words_unhex.l4 κ κ (a0,(0:Int),[])) fun x0=>
   match x0 with
   | .inl x1=>
    some (Bool.true,x1)
   | .inr x2=>
    some (x2,[])
def words_read_10(κ:Nat)(a0:ByteArray)(a1 a2:Int)(a3:List ApiStep)(a4:ByteArray)(a5:Int)(a6 a7:Bool)(a8:ByteArray)(a9 a10:Int)(a11:List Int):Option Ty9:=
 Option.bind (Ev.Seat.words_unhex κ a0) fun x0=>
  some (x0.1,a1,a2,a3,a4,a5,a6,a7,a8,a9,a10,x0.2)
def words_read_11(κ:Nat)(a0:ByteArray)(a1 a2:Int)(a3:List ApiStep)(a4:ByteArray)(a5:Int)(a6 a7:Bool)(a8:ByteArray)(a9 a10:Int)(a11:List Int):Option Ty9:=
 bif (Nat.ble (ByteArray.size a0) Ev.maxI)then
  some (Bool.true,a1,a2,a3,a4,a5,a6,a7,a8,a9,a10,(List.map (fun b=>(((UInt8.toNat b):Nat):Int)) (Array.toList (ByteArray.data a0))))
 else
  none
def words_read_12(κ:Nat)(a0 a1 a2:ByteArray)(a3 a4:Int)(a5:List ApiStep)(a6:ByteArray)(a7:Int)(a8 a9:Bool)(a10:ByteArray)(a11 a12:Int)(a13:List Int):Option Ty9:=
 bif (Ev.seq a2 a1)then
  some (Bool.true,a3,a4,a5,a6,a7,a8,(Ev.seq a2 a1),a10,a11,a12,a13)
 else
  some ((Ev.seq a2 a0),a3,a4,a5,a6,a7,a8,(Ev.seq a2 a1),a10,a11,a12,a13)
def words_read_13(κ:Nat)(a0:ByteArray)(a1 a2:Int)(a3:List ApiStep)(a4:ByteArray)(a5:Int)(a6 a7:Bool)(a8:ByteArray)(a9 a10:Int)(a11:List Int):Option Ty9:=
 some (Bool.true,a1,a2,a3,a0,a5,a6,a7,a8,a9,a10,a11)
def words_parse.v0(κ:Nat)(a0:Int)(a1:ByteArray)(a2 a3:Int)(a4:List ApiStep)(a5:ByteArray)(a6:Int)(a7 a8:Bool)(a9:ByteArray)(a10 a11:Int)(a12:List Int)(a13 a14:Int)(a15:List ApiStep)(a16:ByteArray)(a17:Int)(a18 a19:Bool)(a20:ByteArray)(a21 a22:Int)(a23:List Int):Option Ty1:=
 some (a2,a3,a4,a5,a6,a7,a8,a9,a10,a11,a12,a13,a14,a15,a16,a17,a18,a19,a20,a21,a22,a23)
def words_parse.v1(κ:Nat)(a0:Int)(a1:ByteArray)(a2 a3:Int)(a4:List ApiStep)(a5:ByteArray)(a6:Int)(a7 a8:Bool)(a9:ByteArray)(a10 a11:Int)(a12:List Int)(a13 a14:Int)(a15:List ApiStep)(a16:ByteArray)(a17:Int)(a18 a19:Bool)(a20:ByteArray)(a21 a22:Int)(a23:List Int)(a24:ByteArray):Option (Ty0⊕(Ty3⊕Ty1)):=
 Option.bind (Ev.Seat.strings_Cut κ a1 (ByteArray.mk (List.toArray ((32:UInt8)::[])))) fun x0=>
  bif (!(Ev.seq x0.1 a24))then
   some (.inr (.inl (Bool.false,(0:Int),(0:Int),(ByteArray.mk (List.toArray [])),(0:Int),Bool.false,Bool.false,(ByteArray.mk (List.toArray [])),(0:Int),(0:Int))))
  else
   bif (!x0.2.2)then
    bif (a0==(9:Int))then
     some (.inr (.inr (a2,a3,a4,a5,a6,a7,a8,a9,a10,a11,a12,a13,a14,a15,a16,a17,a18,a19,a20,a21,a22,a23)))
    else
     bif (!x0.2.2)then
      some (.inr (.inl (Bool.false,(0:Int),(0:Int),(ByteArray.mk (List.toArray [])),(0:Int),Bool.false,Bool.false,(ByteArray.mk (List.toArray [])),(0:Int),(0:Int))))
     else
      some (.inl (a0,x0.2.1,a2,a3,a4,a5,a6,a7,a8,a9,a10,a11,a12,a13,a14,a15,a16,a17,a18,a19,a20,a21,a22,a23,a24))
   else
    bif (!x0.2.2)then
     some (.inr (.inl (Bool.false,(0:Int),(0:Int),(ByteArray.mk (List.toArray [])),(0:Int),Bool.false,Bool.false,(ByteArray.mk (List.toArray [])),(0:Int),(0:Int))))
    else
     some (.inl (a0,x0.2.1,a2,a3,a4,a5,a6,a7,a8,a9,a10,a11,a12,a13,a14,a15,a16,a17,a18,a19,a20,a21,a22,a23,a24))
def words_parse.v2(κ:Nat)(a0:Int)(a1:ByteArray)(a2 a3:Int)(a4:List ApiStep)(a5:ByteArray)(a6:Int)(a7 a8:Bool)(a9:ByteArray)(a10 a11:Int)(a12:List Int)(a13 a14:Int)(a15:List ApiStep)(a16:ByteArray)(a17:Int)(a18 a19:Bool)(a20:ByteArray)(a21 a22:Int)(a23:List Int)(a24:ByteArray):Option (Ty0⊕(Ty3⊕Ty1)):=
 Option.bind (Ev.Seat.strings_Cut κ a1 (ByteArray.mk (List.toArray ((32:UInt8)::[])))) fun x0=>
  bif (!(Ev.seq x0.1 a24))then
   some (.inr (.inl (Bool.false,(0:Int),(0:Int),(ByteArray.mk (List.toArray [])),(0:Int),Bool.false,Bool.false,(ByteArray.mk (List.toArray [])),(0:Int),(0:Int))))
  else
   bif (!x0.2.2)then
    bif (a0==(9:Int))then
     some (.inr (.inr (a2,a3,a4,a5,a6,a7,a8,a9,a10,a11,a12,a13,a14,a15,a16,a17,a18,a19,a20,a21,a22,a23)))
    else
     bif (!x0.2.2)then
      some (.inr (.inl (Bool.false,(0:Int),(0:Int),(ByteArray.mk (List.toArray [])),(0:Int),Bool.false,Bool.false,(ByteArray.mk (List.toArray [])),(0:Int),(0:Int))))
     else
      some (.inl (a0,x0.2.1,a2,a3,a4,a5,a6,a7,a8,a9,a10,a11,a12,a13,a14,a15,a16,a17,a18,a19,a20,a21,a22,a23,a24))
   else
    bif (!x0.2.2)then
     some (.inr (.inl (Bool.false,(0:Int),(0:Int),(ByteArray.mk (List.toArray [])),(0:Int),Bool.false,Bool.false,(ByteArray.mk (List.toArray [])),(0:Int),(0:Int))))
    else
     some (.inl (a0,x0.2.1,a2,a3,a4,a5,a6,a7,a8,a9,a10,a11,a12,a13,a14,a15,a16,a17,a18,a19,a20,a21,a22,a23,a24))
def words_parse.v3(κ:Nat)(a0:Int)(a1:ByteArray)(a2 a3:Int)(a4:List ApiStep)(a5:ByteArray)(a6:Int)(a7 a8:Bool)(a9:ByteArray)(a10 a11:Int)(a12:List Int)(a13 a14:Int)(a15:List ApiStep)(a16:ByteArray)(a17:Int)(a18 a19:Bool)(a20:ByteArray)(a21 a22:Int)(a23:List Int)(a24:ByteArray):Option (Ty0⊕Ty3):=
 Option.bind (Ev.Seat.strings_Cut κ a1 (ByteArray.mk (List.toArray ((32:UInt8)::[])))) fun x0=>
  bif (!(Ev.seq x0.1 a24))then
   some (.inr (Bool.false,(0:Int),(0:Int),(ByteArray.mk (List.toArray [])),(0:Int),Bool.false,Bool.false,(ByteArray.mk (List.toArray [])),(0:Int),(0:Int)))
  else
   bif (!x0.2.2)then
    bif (!x0.2.2)then
     some (.inr (Bool.false,(0:Int),(0:Int),(ByteArray.mk (List.toArray [])),(0:Int),Bool.false,Bool.false,(ByteArray.mk (List.toArray [])),(0:Int),(0:Int)))
    else
     some (.inl (a0,x0.2.1,a2,a3,a4,a5,a6,a7,a8,a9,a10,a11,a12,a13,a14,a15,a16,a17,a18,a19,a20,a21,a22,a23,a24))
   else
    bif (!x0.2.2)then
     some (.inr (Bool.false,(0:Int),(0:Int),(ByteArray.mk (List.toArray [])),(0:Int),Bool.false,Bool.false,(ByteArray.mk (List.toArray [])),(0:Int),(0:Int)))
    else
     some (.inl (a0,x0.2.1,a2,a3,a4,a5,a6,a7,a8,a9,a10,a11,a12,a13,a14,a15,a16,a17,a18,a19,a20,a21,a22,a23,a24))
def words_parse.v4(κ:Nat)(a0:Int)(a1:ByteArray)(a2 a3:Int)(a4:List ApiStep)(a5:ByteArray)(a6:Int)(a7 a8:Bool)(a9:ByteArray)(a10 a11:Int)(a12:List Int)(a13 a14:Int)(a15:List ApiStep)(a16:ByteArray)(a17:Int)(a18 a19:Bool)(a20:ByteArray)(a21 a22:Int)(a23:List Int)(a24 a25:ByteArray):Option (Ty4⊕Ty3):=
 Option.bind (Ev.Seat.strings_Cut κ a1 (ByteArray.mk (List.toArray ((32:UInt8)::[])))) fun x0=>
  Option.bind (Ev.Seat.words_read_2 κ x0.1 a13 a14 a15 a16 a17 a18 a19 a20 a21 a22 a23) fun x1=>
   bif (!x1.1)then
    some (.inr (Bool.false,(0:Int),(0:Int),(ByteArray.mk (List.toArray [])),(0:Int),Bool.false,Bool.false,(ByteArray.mk (List.toArray [])),(0:Int),(0:Int)))
   else
    bif (!x0.2.2)then
     bif (!x0.2.2)then
      some (.inr (Bool.false,(0:Int),(0:Int),(ByteArray.mk (List.toArray [])),(0:Int),Bool.false,Bool.false,(ByteArray.mk (List.toArray [])),(0:Int),(0:Int)))
     else
      some (.inl (a0,x0.2.1,a2,a3,a4,a5,a6,a7,a8,a9,a10,a11,a12,x1.2.1,x1.2.2.1,x1.2.2.2.1,x1.2.2.2.2.1,x1.2.2.2.2.2.1,x1.2.2.2.2.2.2.1,x1.2.2.2.2.2.2.2.1,x1.2.2.2.2.2.2.2.2.1,x1.2.2.2.2.2.2.2.2.2.1,x1.2.2.2.2.2.2.2.2.2.2.1,x1.2.2.2.2.2.2.2.2.2.2.2,a24,a25))
    else
     bif (!x0.2.2)then
      some (.inr (Bool.false,(0:Int),(0:Int),(ByteArray.mk (List.toArray [])),(0:Int),Bool.false,Bool.false,(ByteArray.mk (List.toArray [])),(0:Int),(0:Int)))
     else
      some (.inl (a0,x0.2.1,a2,a3,a4,a5,a6,a7,a8,a9,a10,a11,a12,x1.2.1,x1.2.2.1,x1.2.2.2.1,x1.2.2.2.2.1,x1.2.2.2.2.2.1,x1.2.2.2.2.2.2.1,x1.2.2.2.2.2.2.2.1,x1.2.2.2.2.2.2.2.2.1,x1.2.2.2.2.2.2.2.2.2.1,x1.2.2.2.2.2.2.2.2.2.2.1,x1.2.2.2.2.2.2.2.2.2.2.2,a24,a25))
def words_parse.v5(κ:Nat)(a0:Int)(a1:ByteArray)(a2 a3:Int)(a4:List ApiStep)(a5:ByteArray)(a6:Int)(a7 a8:Bool)(a9:ByteArray)(a10 a11:Int)(a12:List Int)(a13 a14:Int)(a15:List ApiStep)(a16:ByteArray)(a17:Int)(a18 a19:Bool)(a20:ByteArray)(a21 a22:Int)(a23:List Int)(a24 a25:ByteArray):Option (Ty4⊕Ty3):=
 Option.bind (Ev.Seat.strings_Cut κ a1 (ByteArray.mk (List.toArray ((32:UInt8)::[])))) fun x0=>
  Option.bind (Ev.Seat.words_read_2 κ x0.1 a13 a14 a15 a16 a17 a18 a19 a20 a21 a22 a23) fun x1=>
   bif (!x1.1)then
    some (.inr (Bool.false,(0:Int),(0:Int),(ByteArray.mk (List.toArray [])),(0:Int),Bool.false,Bool.false,(ByteArray.mk (List.toArray [])),(0:Int),(0:Int)))
   else
    bif (!x0.2.2)then
     bif (!x0.2.2)then
      some (.inr (Bool.false,(0:Int),(0:Int),(ByteArray.mk (List.toArray [])),(0:Int),Bool.false,Bool.false,(ByteArray.mk (List.toArray [])),(0:Int),(0:Int)))
     else
      some (.inl (a0,x0.2.1,a2,a3,a4,a5,a6,a7,a8,a9,a10,a11,a12,x1.2.1,x1.2.2.1,x1.2.2.2.1,x1.2.2.2.2.1,x1.2.2.2.2.2.1,x1.2.2.2.2.2.2.1,x1.2.2.2.2.2.2.2.1,x1.2.2.2.2.2.2.2.2.1,x1.2.2.2.2.2.2.2.2.2.1,x1.2.2.2.2.2.2.2.2.2.2.1,x1.2.2.2.2.2.2.2.2.2.2.2,a24,a25))
    else
     bif (!x0.2.2)then
      some (.inr (Bool.false,(0:Int),(0:Int),(ByteArray.mk (List.toArray [])),(0:Int),Bool.false,Bool.false,(ByteArray.mk (List.toArray [])),(0:Int),(0:Int)))
     else
      some (.inl (a0,x0.2.1,a2,a3,a4,a5,a6,a7,a8,a9,a10,a11,a12,x1.2.1,x1.2.2.1,x1.2.2.2.1,x1.2.2.2.2.1,x1.2.2.2.2.2.1,x1.2.2.2.2.2.2.1,x1.2.2.2.2.2.2.2.1,x1.2.2.2.2.2.2.2.2.1,x1.2.2.2.2.2.2.2.2.2.1,x1.2.2.2.2.2.2.2.2.2.2.1,x1.2.2.2.2.2.2.2.2.2.2.2,a24,a25))
def words_parse.v6(κ:Nat)(a0:Int)(a1:ByteArray)(a2 a3:Int)(a4:List ApiStep)(a5:ByteArray)(a6:Int)(a7 a8:Bool)(a9:ByteArray)(a10 a11:Int)(a12:List Int)(a13 a14:Int)(a15:List ApiStep)(a16:ByteArray)(a17:Int)(a18 a19:Bool)(a20:ByteArray)(a21 a22:Int)(a23:List Int)(a24 a25 a26 a27 a28:ByteArray):Option (Ty8⊕Ty3):=
 Option.bind (Ev.Seat.strings_Cut κ a1 (ByteArray.mk (List.toArray ((32:UInt8)::[])))) fun x0=>
  Option.bind (Ev.Seat.words_read_2 κ x0.1 a13 a14 a15 a16 a17 a18 a19 a20 a21 a22 a23) fun x1=>
   bif (!x1.1)then
    some (.inr (Bool.false,(0:Int),(0:Int),(ByteArray.mk (List.toArray [])),(0:Int),Bool.false,Bool.false,(ByteArray.mk (List.toArray [])),(0:Int),(0:Int)))
   else
    bif (!x0.2.2)then
     bif (!x0.2.2)then
      some (.inr (Bool.false,(0:Int),(0:Int),(ByteArray.mk (List.toArray [])),(0:Int),Bool.false,Bool.false,(ByteArray.mk (List.toArray [])),(0:Int),(0:Int)))
     else
      some (.inl (a0,x0.2.1,a2,a3,a4,a5,a6,a7,a8,a9,a10,a11,a12,x1.2.1,x1.2.2.1,x1.2.2.2.1,x1.2.2.2.2.1,x1.2.2.2.2.2.1,x1.2.2.2.2.2.2.1,x1.2.2.2.2.2.2.2.1,x1.2.2.2.2.2.2.2.2.1,x1.2.2.2.2.2.2.2.2.2.1,x1.2.2.2.2.2.2.2.2.2.2.1,x1.2.2.2.2.2.2.2.2.2.2.2,a24,a25,a26,a27,a28))
    else
     bif (!x0.2.2)then
      some (.inr (Bool.false,(0:Int),(0:Int),(ByteArray.mk (List.toArray [])),(0:Int),Bool.false,Bool.false,(ByteArray.mk (List.toArray [])),(0:Int),(0:Int)))
     else
      some (.inl (a0,x0.2.1,a2,a3,a4,a5,a6,a7,a8,a9,a10,a11,a12,x1.2.1,x1.2.2.1,x1.2.2.2.1,x1.2.2.2.2.1,x1.2.2.2.2.2.1,x1.2.2.2.2.2.2.1,x1.2.2.2.2.2.2.2.1,x1.2.2.2.2.2.2.2.2.1,x1.2.2.2.2.2.2.2.2.2.1,x1.2.2.2.2.2.2.2.2.2.2.1,x1.2.2.2.2.2.2.2.2.2.2.2,a24,a25,a26,a27,a28))
def words_parse.v7(κ:Nat)(a0:Int)(a1:ByteArray)(a2 a3:Int)(a4:List ApiStep)(a5:ByteArray)(a6:Int)(a7 a8:Bool)(a9:ByteArray)(a10 a11:Int)(a12:List Int)(a13 a14:Int)(a15:List ApiStep)(a16:ByteArray)(a17:Int)(a18 a19:Bool)(a20:ByteArray)(a21 a22:Int)(a23:List Int)(a24:ByteArray):Option (Ty0⊕Ty3):=
 Option.bind (Ev.Seat.strings_Cut κ a1 (ByteArray.mk (List.toArray ((32:UInt8)::[])))) fun x0=>
  Option.bind (Ev.Seat.words_read_2 κ x0.1 a13 a14 a15 a16 a17 a18 a19 a20 a21 a22 a23) fun x1=>
   bif (!x1.1)then
    some (.inr (Bool.false,(0:Int),(0:Int),(ByteArray.mk (List.toArray [])),(0:Int),Bool.false,Bool.false,(ByteArray.mk (List.toArray [])),(0:Int),(0:Int)))
   else
    bif (!x0.2.2)then
     bif (!x0.2.2)then
      some (.inr (Bool.false,(0:Int),(0:Int),(ByteArray.mk (List.toArray [])),(0:Int),Bool.false,Bool.false,(ByteArray.mk (List.toArray [])),(0:Int),(0:Int)))
     else
      some (.inl (a0,x0.2.1,a2,a3,a4,a5,a6,a7,a8,a9,a10,a11,a12,x1.2.1,x1.2.2.1,x1.2.2.2.1,x1.2.2.2.2.1,x1.2.2.2.2.2.1,x1.2.2.2.2.2.2.1,x1.2.2.2.2.2.2.2.1,x1.2.2.2.2.2.2.2.2.1,x1.2.2.2.2.2.2.2.2.2.1,x1.2.2.2.2.2.2.2.2.2.2.1,x1.2.2.2.2.2.2.2.2.2.2.2,a24))
    else
     bif (!x0.2.2)then
      some (.inr (Bool.false,(0:Int),(0:Int),(ByteArray.mk (List.toArray [])),(0:Int),Bool.false,Bool.false,(ByteArray.mk (List.toArray [])),(0:Int),(0:Int)))
     else
      some (.inl (a0,x0.2.1,a2,a3,a4,a5,a6,a7,a8,a9,a10,a11,a12,x1.2.1,x1.2.2.1,x1.2.2.2.1,x1.2.2.2.2.1,x1.2.2.2.2.2.1,x1.2.2.2.2.2.2.1,x1.2.2.2.2.2.2.2.1,x1.2.2.2.2.2.2.2.2.1,x1.2.2.2.2.2.2.2.2.2.1,x1.2.2.2.2.2.2.2.2.2.2.1,x1.2.2.2.2.2.2.2.2.2.2.2,a24))
def words_parse.v8(κ:Nat)(a0:Int)(a1:ByteArray)(a2 a3:Int)(a4:List ApiStep)(a5:ByteArray)(a6:Int)(a7 a8:Bool)(a9:ByteArray)(a10 a11:Int)(a12:List Int)(a13 a14:Int)(a15:List ApiStep)(a16:ByteArray)(a17:Int)(a18 a19:Bool)(a20:ByteArray)(a21 a22:Int)(a23:List Int)(a24:ByteArray):Option (Ty0⊕Ty3):=
 Option.bind (Ev.Seat.strings_Cut κ a1 (ByteArray.mk (List.toArray ((32:UInt8)::[])))) fun x0=>
  Option.bind (Ev.Seat.words_read_2 κ x0.1 a13 a14 a15 a16 a17 a18 a19 a20 a21 a22 a23) fun x1=>
   bif (!x1.1)then
    some (.inr (Bool.false,(0:Int),(0:Int),(ByteArray.mk (List.toArray [])),(0:Int),Bool.false,Bool.false,(ByteArray.mk (List.toArray [])),(0:Int),(0:Int)))
   else
    bif (!x0.2.2)then
     bif (!x0.2.2)then
      some (.inr (Bool.false,(0:Int),(0:Int),(ByteArray.mk (List.toArray [])),(0:Int),Bool.false,Bool.false,(ByteArray.mk (List.toArray [])),(0:Int),(0:Int)))
     else
      some (.inl (a0,x0.2.1,a2,a3,a4,a5,a6,a7,a8,a9,a10,a11,a12,x1.2.1,x1.2.2.1,x1.2.2.2.1,x1.2.2.2.2.1,x1.2.2.2.2.2.1,x1.2.2.2.2.2.2.1,x1.2.2.2.2.2.2.2.1,x1.2.2.2.2.2.2.2.2.1,x1.2.2.2.2.2.2.2.2.2.1,x1.2.2.2.2.2.2.2.2.2.2.1,x1.2.2.2.2.2.2.2.2.2.2.2,a24))
    else
     bif (!x0.2.2)then
      some (.inr (Bool.false,(0:Int),(0:Int),(ByteArray.mk (List.toArray [])),(0:Int),Bool.false,Bool.false,(ByteArray.mk (List.toArray [])),(0:Int),(0:Int)))
     else
      some (.inl (a0,x0.2.1,a2,a3,a4,a5,a6,a7,a8,a9,a10,a11,a12,x1.2.1,x1.2.2.1,x1.2.2.2.1,x1.2.2.2.2.1,x1.2.2.2.2.2.1,x1.2.2.2.2.2.2.1,x1.2.2.2.2.2.2.2.1,x1.2.2.2.2.2.2.2.2.1,x1.2.2.2.2.2.2.2.2.2.1,x1.2.2.2.2.2.2.2.2.2.2.1,x1.2.2.2.2.2.2.2.2.2.2.2,a24))
def words_parse.v9(κ:Nat)(a0:Int)(a1:ByteArray)(a2 a3:Int)(a4:List ApiStep)(a5:ByteArray)(a6:Int)(a7 a8:Bool)(a9:ByteArray)(a10 a11:Int)(a12:List Int)(a13 a14:Int)(a15:List ApiStep)(a16:ByteArray)(a17:Int)(a18 a19:Bool)(a20:ByteArray)(a21 a22:Int)(a23:List Int)(a24:ByteArray):Option (Ty0⊕Ty3):=
 Option.bind (Ev.Seat.strings_Cut κ a1 (ByteArray.mk (List.toArray ((32:UInt8)::[])))) fun x0=>
  Option.bind (Ev.Seat.words_read_2 κ x0.1 a13 a14 a15 a16 a17 a18 a19 a20 a21 a22 a23) fun x1=>
   bif (!x1.1)then
    some (.inr (Bool.false,(0:Int),(0:Int),(ByteArray.mk (List.toArray [])),(0:Int),Bool.false,Bool.false,(ByteArray.mk (List.toArray [])),(0:Int),(0:Int)))
   else
    bif (!x0.2.2)then
     bif (!x0.2.2)then
      some (.inr (Bool.false,(0:Int),(0:Int),(ByteArray.mk (List.toArray [])),(0:Int),Bool.false,Bool.false,(ByteArray.mk (List.toArray [])),(0:Int),(0:Int)))
     else
      some (.inl (a0,x0.2.1,a2,a3,a4,a5,a6,a7,a8,a9,a10,a11,a12,x1.2.1,x1.2.2.1,x1.2.2.2.1,x1.2.2.2.2.1,x1.2.2.2.2.2.1,x1.2.2.2.2.2.2.1,x1.2.2.2.2.2.2.2.1,x1.2.2.2.2.2.2.2.2.1,x1.2.2.2.2.2.2.2.2.2.1,x1.2.2.2.2.2.2.2.2.2.2.1,x1.2.2.2.2.2.2.2.2.2.2.2,a24))
    else
     bif (!x0.2.2)then
      some (.inr (Bool.false,(0:Int),(0:Int),(ByteArray.mk (List.toArray [])),(0:Int),Bool.false,Bool.false,(ByteArray.mk (List.toArray [])),(0:Int),(0:Int)))
     else
      some (.inl (a0,x0.2.1,a2,a3,a4,a5,a6,a7,a8,a9,a10,a11,a12,x1.2.1,x1.2.2.1,x1.2.2.2.1,x1.2.2.2.2.1,x1.2.2.2.2.2.1,x1.2.2.2.2.2.2.1,x1.2.2.2.2.2.2.2.1,x1.2.2.2.2.2.2.2.2.1,x1.2.2.2.2.2.2.2.2.2.1,x1.2.2.2.2.2.2.2.2.2.2.1,x1.2.2.2.2.2.2.2.2.2.2.2,a24))
def words_parse.v10(κ:Nat)(a0:Int)(a1:ByteArray)(a2 a3:Int)(a4:List ApiStep)(a5:ByteArray)(a6:Int)(a7 a8:Bool)(a9:ByteArray)(a10 a11:Int)(a12:List Int)(a13 a14:Int)(a15:List ApiStep)(a16:ByteArray)(a17:Int)(a18 a19:Bool)(a20:ByteArray)(a21 a22:Int)(a23:List Int)(a24:ByteArray):Option (Ty0⊕Ty3):=
 Option.bind (Ev.Seat.strings_Cut κ a1 (ByteArray.mk (List.toArray ((32:UInt8)::[])))) fun x0=>
  Option.bind (Ev.Seat.words_read_2 κ x0.1 a13 a14 a15 a16 a17 a18 a19 a20 a21 a22 a23) fun x1=>
   bif (!x1.1)then
    some (.inr (Bool.false,(0:Int),(0:Int),(ByteArray.mk (List.toArray [])),(0:Int),Bool.false,Bool.false,(ByteArray.mk (List.toArray [])),(0:Int),(0:Int)))
   else
    bif (!x0.2.2)then
     bif (!x0.2.2)then
      some (.inr (Bool.false,(0:Int),(0:Int),(ByteArray.mk (List.toArray [])),(0:Int),Bool.false,Bool.false,(ByteArray.mk (List.toArray [])),(0:Int),(0:Int)))
     else
      some (.inl (a0,x0.2.1,a2,a3,a4,a5,a6,a7,a8,a9,a10,a11,a12,x1.2.1,x1.2.2.1,x1.2.2.2.1,x1.2.2.2.2.1,x1.2.2.2.2.2.1,x1.2.2.2.2.2.2.1,x1.2.2.2.2.2.2.2.1,x1.2.2.2.2.2.2.2.2.1,x1.2.2.2.2.2.2.2.2.2.1,x1.2.2.2.2.2.2.2.2.2.2.1,x1.2.2.2.2.2.2.2.2.2.2.2,a24))
    else
     bif (!x0.2.2)then
      some (.inr (Bool.false,(0:Int),(0:Int),(ByteArray.mk (List.toArray [])),(0:Int),Bool.false,Bool.false,(ByteArray.mk (List.toArray [])),(0:Int),(0:Int)))
     else
      some (.inl (a0,x0.2.1,a2,a3,a4,a5,a6,a7,a8,a9,a10,a11,a12,x1.2.1,x1.2.2.1,x1.2.2.2.1,x1.2.2.2.2.1,x1.2.2.2.2.2.1,x1.2.2.2.2.2.2.1,x1.2.2.2.2.2.2.2.1,x1.2.2.2.2.2.2.2.2.1,x1.2.2.2.2.2.2.2.2.2.1,x1.2.2.2.2.2.2.2.2.2.2.1,x1.2.2.2.2.2.2.2.2.2.2.2,a24))
def words_parse.v11(κ:Nat)(a0:Int)(a1:ByteArray)(a2 a3:Int)(a4:List ApiStep)(a5:ByteArray)(a6:Int)(a7 a8:Bool)(a9:ByteArray)(a10 a11:Int)(a12:List Int)(a13 a14:Int)(a15:List ApiStep)(a16:ByteArray)(a17:Int)(a18 a19:Bool)(a20:ByteArray)(a21 a22:Int)(a23:List Int)(a24:ByteArray):Option (Ty0⊕Ty3):=
 Option.bind (Ev.Seat.strings_Cut κ a1 (ByteArray.mk (List.toArray ((32:UInt8)::[])))) fun x0=>
  Option.bind (Ev.Seat.words_read_2 κ x0.1 a13 a14 a15 a16 a17 a18 a19 a20 a21 a22 a23) fun x1=>
   bif (!x1.1)then
    some (.inr (Bool.false,(0:Int),(0:Int),(ByteArray.mk (List.toArray [])),(0:Int),Bool.false,Bool.false,(ByteArray.mk (List.toArray [])),(0:Int),(0:Int)))
   else
    bif (!x0.2.2)then
     bif (!x0.2.2)then
      some (.inr (Bool.false,(0:Int),(0:Int),(ByteArray.mk (List.toArray [])),(0:Int),Bool.false,Bool.false,(ByteArray.mk (List.toArray [])),(0:Int),(0:Int)))
     else
      some (.inl (a0,x0.2.1,a2,a3,a4,a5,a6,a7,a8,a9,a10,a11,a12,x1.2.1,x1.2.2.1,x1.2.2.2.1,x1.2.2.2.2.1,x1.2.2.2.2.2.1,x1.2.2.2.2.2.2.1,x1.2.2.2.2.2.2.2.1,x1.2.2.2.2.2.2.2.2.1,x1.2.2.2.2.2.2.2.2.2.1,x1.2.2.2.2.2.2.2.2.2.2.1,x1.2.2.2.2.2.2.2.2.2.2.2,a24))
    else
     bif (!x0.2.2)then
      some (.inr (Bool.false,(0:Int),(0:Int),(ByteArray.mk (List.toArray [])),(0:Int),Bool.false,Bool.false,(ByteArray.mk (List.toArray [])),(0:Int),(0:Int)))
     else
      some (.inl (a0,x0.2.1,a2,a3,a4,a5,a6,a7,a8,a9,a10,a11,a12,x1.2.1,x1.2.2.1,x1.2.2.2.1,x1.2.2.2.2.1,x1.2.2.2.2.2.1,x1.2.2.2.2.2.2.1,x1.2.2.2.2.2.2.2.1,x1.2.2.2.2.2.2.2.2.1,x1.2.2.2.2.2.2.2.2.2.1,x1.2.2.2.2.2.2.2.2.2.2.1,x1.2.2.2.2.2.2.2.2.2.2.2,a24))
def words_parse.v12(κ:Nat)(a0:Int)(a1:ByteArray)(a2 a3:Int)(a4:List ApiStep)(a5:ByteArray)(a6:Int)(a7 a8:Bool)(a9:ByteArray)(a10 a11:Int)(a12:List Int)(a13 a14:Int)(a15:List ApiStep)(a16:ByteArray)(a17:Int)(a18 a19:Bool)(a20:ByteArray)(a21 a22:Int)(a23:List Int)(a24:ByteArray):Option Ty0:=
 Option.bind (Ev.Seat.strings_Cut κ a1 (ByteArray.mk (List.toArray ((32:UInt8)::[])))) fun x0=>
  some (a0,(ByteArray.mk (List.toArray [])),a2,a3,a4,a5,a6,a7,a8,a9,a10,a11,a12,a13,a14,a15,a16,a17,a18,a19,a1,a21,a22,a23,a24)
def words_parse.v13(κ:Nat)(a0:Int)(a1:ByteArray)(a2 a3:Int)(a4:List ApiStep)(a5:ByteArray)(a6:Int)(a7 a8:Bool)(a9:ByteArray)(a10 a11:Int)(a12:List Int)(a13 a14:Int)(a15:List ApiStep)(a16:ByteArray)(a17:Int)(a18 a19:Bool)(a20:ByteArray)(a21 a22:Int)(a23:List Int)(a24:ByteArray):Option (Ty0⊕Ty3):=
 Option.bind (Ev.Seat.strings_Cut κ a1 (ByteArray.mk (List.toArray ((32:UInt8)::[])))) fun x0=>
  Option.bind (Ev.Seat.words_read_4 κ a1 a13 a14 a15 a16 a17 a18 a19 a20 a21 a22 a23) fun x1=>
   bif (!x1.1)then
    some (.inr (Bool.false,(0:Int),(0:Int),(ByteArray.mk (List.toArray [])),(0:Int),Bool.false,Bool.false,(ByteArray.mk (List.toArray [])),(0:Int),(0:Int)))
   else
    some (.inl (a0,(ByteArray.mk (List.toArray [])),a2,a3,a4,a5,a6,a7,a8,a9,a10,a11,a12,x1.2.1,x1.2.2.1,x1.2.2.2.1,x1.2.2.2.2.1,x1.2.2.2.2.2.1,x1.2.2.2.2.2.2.1,x1.2.2.2.2.2.2.2.1,x1.2.2.2.2.2.2.2.2.1,x1.2.2.2.2.2.2.2.2.2.1,x1.2.2.2.2.2.2.2.2.2.2.1,x1.2.2.2.2.2.2.2.2.2.2.2,a24))
def words_parse.v14(κ:Nat)(a0:Int)(a1:ByteArray)(a2 a3:Int)(a4:List ApiStep)(a5:ByteArray)(a6:Int)(a7 a8:Bool)(a9:ByteArray)(a10 a11:Int)(a12:List Int)(a13 a14:Int)(a15:List ApiStep)(a16:ByteArray)(a17:Int)(a18 a19:Bool)(a20:ByteArray)(a21 a22:Int)(a23:List Int)(a24:ByteArray):Option (Ty0⊕Ty3):=
 Option.bind (Ev.Seat.strings_Cut κ a1 (ByteArray.mk (List.toArray ((32:UInt8)::[])))) fun x0=>
  bif (!x0.2.2)then
   bif (!x0.2.2)then
    some (.inr (Bool.false,(0:Int),(0:Int),(ByteArray.mk (List.toArray [])),(0:Int),Bool.false,Bool.false,(ByteArray.mk (List.toArray [])),(0:Int),(0:Int)))
   else
    some (.inl (a0,x0.2.1,a2,a3,a4,a5,a6,a7,a8,a9,a10,a11,a12,a13,a14,a15,a16,a17,a18,a19,x0.1,a21,a22,a23,a24))
  else
   bif (!x0.2.2)then
    some (.inr (Bool.false,(0:Int),(0:Int),(ByteArray.mk (List.toArray [])),(0:Int),Bool.false,Bool.false,(ByteArray.mk (List.toArray [])),(0:Int),(0:Int)))
   else
    some (.inl (a0,x0.2.1,a2,a3,a4,a5,a6,a7,a8,a9,a10,a11,a12,a13,a14,a15,a16,a17,a18,a19,x0.1,a21,a22,a23,a24))
def words_parse.v15(κ:Nat)(a0:Int)(a1:ByteArray)(a2 a3:Int)(a4:List ApiStep)(a5:ByteArray)(a6:Int)(a7 a8:Bool)(a9:ByteArray)(a10 a11:Int)(a12:List Int)(a13 a14:Int)(a15:List ApiStep)(a16:ByteArray)(a17:Int)(a18 a19:Bool)(a20:ByteArray)(a21 a22:Int)(a23:List Int)(a24 a25:ByteArray):Option (Ty4⊕Ty3):=
 Option.bind (Ev.Seat.strings_Cut κ a1 (ByteArray.mk (List.toArray ((32:UInt8)::[])))) fun x0=>
  bif (!(Ev.seq x0.1 a24))then
   some (.inr (Bool.false,(0:Int),(0:Int),(ByteArray.mk (List.toArray [])),(0:Int),Bool.false,Bool.false,(ByteArray.mk (List.toArray [])),(0:Int),(0:Int)))
  else
   bif (!x0.2.2)then
    bif (!x0.2.2)then
     some (.inr (Bool.false,(0:Int),(0:Int),(ByteArray.mk (List.toArray [])),(0:Int),Bool.false,Bool.false,(ByteArray.mk (List.toArray [])),(0:Int),(0:Int)))
    else
     some (.inl (a0,x0.2.1,a2,a3,a4,a5,a6,a7,a8,a9,a10,a11,a12,a13,a14,a15,a16,a17,a18,a19,a20,a21,a22,a23,a24,a25))
   else
    bif (!x0.2.2)then
     some (.inr (Bool.false,(0:Int),(0:Int),(ByteArray.mk (List.toArray [])),(0:Int),Bool.false,Bool.false,(ByteArray.mk (List.toArray [])),(0:Int),(0:Int)))
    else
     some (.inl (a0,x0.2.1,a2,a3,a4,a5,a6,a7,a8,a9,a10,a11,a12,a13,a14,a15,a16,a17,a18,a19,a20,a21,a22,a23,a24,a25))
def words_parse.v16(κ:Nat)(a0:Int)(a1:ByteArray)(a2 a3:Int)(a4:List ApiStep)(a5:ByteArray)(a6:Int)(a7 a8:Bool)(a9:ByteArray)(a10 a11:Int)(a12:List Int)(a13 a14:Int)(a15:List ApiStep)(a16:ByteArray)(a17:Int)(a18 a19:Bool)(a20:ByteArray)(a21 a22:Int)(a23:List Int)(a24 a25:ByteArray):Option (Ty4⊕Ty3):=
 Option.bind (Ev.Seat.strings_Cut κ a1 (ByteArray.mk (List.toArray ((32:UInt8)::[])))) fun x0=>
  bif (!(Ev.seq x0.1 a24))then
   some (.inr (Bool.false,(0:Int),(0:Int),(ByteArray.mk (List.toArray [])),(0:Int),Bool.false,Bool.false,(ByteArray.mk (List.toArray [])),(0:Int),(0:Int)))
  else
   bif (!x0.2.2)then
    bif (!x0.2.2)then
     some (.inr (Bool.false,(0:Int),(0:Int),(ByteArray.mk (List.toArray [])),(0:Int),Bool.false,Bool.false,(ByteArray.mk (List.toArray [])),(0:Int),(0:Int)))
    else
     some (.inl (a0,x0.2.1,a2,a3,a4,a5,a6,a7,a8,a9,a10,a11,a12,a13,a14,a15,a16,a17,a18,a19,a20,a21,a22,a23,a24,a25))
   else
    bif (!x0.2.2)then
     some (.inr (Bool.false,(0:Int),(0:Int),(ByteArray.mk (List.toArray [])),(0:Int),Bool.false,Bool.false,(ByteArray.mk (List.toArray [])),(0:Int),(0:Int)))
    else
     some (.inl (a0,x0.2.1,a2,a3,a4,a5,a6,a7,a8,a9,a10,a11,a12,a13,a14,a15,a16,a17,a18,a19,a20,a21,a22,a23,a24,a25))
def words_parse.v17(κ:Nat)(a0:Int)(a1:ByteArray)(a2 a3:Int)(a4:List ApiStep)(a5:ByteArray)(a6:Int)(a7 a8:Bool)(a9:ByteArray)(a10 a11:Int)(a12:List Int)(a13 a14:Int)(a15:List ApiStep)(a16:ByteArray)(a17:Int)(a18 a19:Bool)(a20:ByteArray)(a21 a22:Int)(a23:List Int)(a24 a25 a26 a27 a28:ByteArray):Option (Ty8⊕Ty3):=
 Option.bind (Ev.Seat.strings_Cut κ a1 (ByteArray.mk (List.toArray ((32:UInt8)::[])))) fun x0=>
  bif (!(Ev.seq x0.1 a24))then
   some (.inr (Bool.false,(0:Int),(0:Int),(ByteArray.mk (List.toArray [])),(0:Int),Bool.false,Bool.false,(ByteArray.mk (List.toArray [])),(0:Int),(0:Int)))
  else
   bif (!x0.2.2)then
    bif (!x0.2.2)then
     some (.inr (Bool.false,(0:Int),(0:Int),(ByteArray.mk (List.toArray [])),(0:Int),Bool.false,Bool.false,(ByteArray.mk (List.toArray [])),(0:Int),(0:Int)))
    else
     some (.inl (a0,x0.2.1,a2,a3,a4,a5,a6,a7,a8,a9,a10,a11,a12,a13,a14,a15,a16,a17,a18,a19,a20,a21,a22,a23,a24,a25,a26,a27,a28))
   else
    bif (!x0.2.2)then
     some (.inr (Bool.false,(0:Int),(0:Int),(ByteArray.mk (List.toArray [])),(0:Int),Bool.false,Bool.false,(ByteArray.mk (List.toArray [])),(0:Int),(0:Int)))
    else
     some (.inl (a0,x0.2.1,a2,a3,a4,a5,a6,a7,a8,a9,a10,a11,a12,a13,a14,a15,a16,a17,a18,a19,a20,a21,a22,a23,a24,a25,a26,a27,a28))
def words_parse.v18(κ:Nat)(a0:Int)(a1:ByteArray)(a2 a3:Int)(a4:List ApiStep)(a5:ByteArray)(a6:Int)(a7 a8:Bool)(a9:ByteArray)(a10 a11:Int)(a12:List Int)(a13 a14:Int)(a15:List ApiStep)(a16:ByteArray)(a17:Int)(a18 a19:Bool)(a20:ByteArray)(a21 a22:Int)(a23:List Int)(a24:ByteArray):Option (Ty0⊕(Ty3⊕Ty1)):=
 Option.bind (Ev.Seat.strings_Cut κ a1 (ByteArray.mk (List.toArray ((32:UInt8)::[])))) fun x0=>
  bif (!(Ev.seq x0.1 a24))then
   some (.inr (.inl (Bool.false,(0:Int),(0:Int),(ByteArray.mk (List.toArray [])),(0:Int),Bool.false,Bool.false,(ByteArray.mk (List.toArray [])),(0:Int),(0:Int))))
  else
   bif (!x0.2.2)then
    bif (a0==(9:Int))then
     some (.inr (.inr (a2,a3,a4,a5,a6,a7,a8,a9,a10,a11,a12,a13,a14,a15,a16,a17,a18,a19,a20,a21,a22,a23)))
    else
     bif (!x0.2.2)then
      some (.inr (.inl (Bool.false,(0:Int),(0:Int),(ByteArray.mk (List.toArray [])),(0:Int),Bool.false,Bool.false,(ByteArray.mk (List.toArray [])),(0:Int),(0:Int))))
     else
      some (.inl (a0,x0.2.1,a2,a3,a4,a5,a6,a7,a8,a9,a10,a11,a12,a13,a14,a15,a16,a17,a18,a19,a20,a21,a22,a23,a24))
   else
    bif (!x0.2.2)then
     some (.inr (.inl (Bool.false,(0:Int),(0:Int),(ByteArray.mk (List.toArray [])),(0:Int),Bool.false,Bool.false,(ByteArray.mk (List.toArray [])),(0:Int),(0:Int))))
    else
     some (.inl (a0,x0.2.1,a2,a3,a4,a5,a6,a7,a8,a9,a10,a11,a12,a13,a14,a15,a16,a17,a18,a19,a20,a21,a22,a23,a24))
def words_parse.v19(κ:Nat)(a0:Int)(a1:ByteArray)(a2 a3:Int)(a4:List ApiStep)(a5:ByteArray)(a6:Int)(a7 a8:Bool)(a9:ByteArray)(a10 a11:Int)(a12:List Int)(a13 a14:Int)(a15:List ApiStep)(a16:ByteArray)(a17:Int)(a18 a19:Bool)(a20:ByteArray)(a21 a22:Int)(a23:List Int)(a24:ByteArray):Option (Ty0⊕(Ty3⊕Ty1)):=
 Option.bind (Ev.Seat.strings_Cut κ a1 (ByteArray.mk (List.toArray ((32:UInt8)::[])))) fun x0=>
  bif (!(Ev.seq x0.1 a24))then
   some (.inr (.inl (Bool.false,(0:Int),(0:Int),(ByteArray.mk (List.toArray [])),(0:Int),Bool.false,Bool.false,(ByteArray.mk (List.toArray [])),(0:Int),(0:Int))))
  else
   bif (!x0.2.2)then
    bif (a0==(9:Int))then
     some (.inr (.inr (a2,a3,a4,a5,a6,a7,a8,a9,a10,a11,a12,a13,a14,a15,a16,a17,a18,a19,a20,a21,a22,a23)))
    else
     bif (!x0.2.2)then
      some (.inr (.inl (Bool.false,(0:Int),(0:Int),(ByteArray.mk (List.toArray [])),(0:Int),Bool.false,Bool.false,(ByteArray.mk (List.toArray [])),(0:Int),(0:Int))))
     else
      some (.inl (a0,x0.2.1,a2,a3,a4,a5,a6,a7,a8,a9,a10,a11,a12,a13,a14,a15,a16,a17,a18,a19,a20,a21,a22,a23,a24))
   else
    bif (!x0.2.2)then
     some (.inr (.inl (Bool.false,(0:Int),(0:Int),(ByteArray.mk (List.toArray [])),(0:Int),Bool.false,Bool.false,(ByteArray.mk (List.toArray [])),(0:Int),(0:Int))))
    else
     some (.inl (a0,x0.2.1,a2,a3,a4,a5,a6,a7,a8,a9,a10,a11,a12,a13,a14,a15,a16,a17,a18,a19,a20,a21,a22,a23,a24))
def words_parse.v20(κ:Nat)(a0:Int)(a1:ByteArray)(a2 a3:Int)(a4:List ApiStep)(a5:ByteArray)(a6:Int)(a7 a8:Bool)(a9:ByteArray)(a10 a11:Int)(a12:List Int)(a13 a14:Int)(a15:List ApiStep)(a16:ByteArray)(a17:Int)(a18 a19:Bool)(a20:ByteArray)(a21 a22:Int)(a23:List Int)(a24:ByteArray):Option (Ty0⊕(Ty3⊕Ty1)):=
 Option.bind (Ev.Seat.strings_Cut κ a1 (ByteArray.mk (List.toArray ((32:UInt8)::[])))) fun x0=>
  bif (!(Ev.seq x0.1 a24))then
   some (.inr (.inl (Bool.false,(0:Int),(0:Int),(ByteArray.mk (List.toArray [])),(0:Int),Bool.false,Bool.false,(ByteArray.mk (List.toArray [])),(0:Int),(0:Int))))
  else
   bif (!x0.2.2)then
    bif (a0==(9:Int))then
     some (.inr (.inr (a2,a3,a4,a5,a6,a7,a8,a9,a10,a11,a12,a13,a14,a15,a16,a17,a18,a19,a20,a21,a22,a23)))
    else
     bif (!x0.2.2)then
      some (.inr (.inl (Bool.false,(0:Int),(0:Int),(ByteArray.mk (List.toArray [])),(0:Int),Bool.false,Bool.false,(ByteArray.mk (List.toArray [])),(0:Int),(0:Int))))
     else
      some (.inl (a0,x0.2.1,a2,a3,a4,a5,a6,a7,a8,a9,a10,a11,a12,a13,a14,a15,a16,a17,a18,a19,a20,a21,a22,a23,a24))
   else
    bif (!x0.2.2)then
     some (.inr (.inl (Bool.false,(0:Int),(0:Int),(ByteArray.mk (List.toArray [])),(0:Int),Bool.false,Bool.false,(ByteArray.mk (List.toArray [])),(0:Int),(0:Int))))
    else
     some (.inl (a0,x0.2.1,a2,a3,a4,a5,a6,a7,a8,a9,a10,a11,a12,a13,a14,a15,a16,a17,a18,a19,a20,a21,a22,a23,a24))
def words_parse.v21(κ:Nat)(a0:Int)(a1:ByteArray)(a2 a3:Int)(a4:List ApiStep)(a5:ByteArray)(a6:Int)(a7 a8:Bool)(a9:ByteArray)(a10 a11:Int)(a12:List Int)(a13 a14:Int)(a15:List ApiStep)(a16:ByteArray)(a17:Int)(a18 a19:Bool)(a20:ByteArray)(a21 a22:Int)(a23:List Int)(a24:ByteArray):Option (Ty0⊕Ty3):=
 Option.bind (Ev.Seat.strings_Cut κ a1 (ByteArray.mk (List.toArray ((32:UInt8)::[])))) fun x0=>
  bif (!(Ev.seq x0.1 a24))then
   some (.inr (Bool.false,(0:Int),(0:Int),(ByteArray.mk (List.toArray [])),(0:Int),Bool.false,Bool.false,(ByteArray.mk (List.toArray [])),(0:Int),(0:Int)))
  else
   bif (!x0.2.2)then
    bif (!x0.2.2)then
     some (.inr (Bool.false,(0:Int),(0:Int),(ByteArray.mk (List.toArray [])),(0:Int),Bool.false,Bool.false,(ByteArray.mk (List.toArray [])),(0:Int),(0:Int)))
    else
     some (.inl (a0,x0.2.1,a2,a3,a4,a5,a6,a7,a8,a9,a10,a11,a12,a13,a14,a15,a16,a17,a18,a19,a20,a21,a22,a23,a24))
   else
    bif (!x0.2.2)then
     some (.inr (Bool.false,(0:Int),(0:Int),(ByteArray.mk (List.toArray [])),(0:Int),Bool.false,Bool.false,(ByteArray.mk (List.toArray [])),(0:Int),(0:Int)))
    else
     some (.inl (a0,x0.2.1,a2,a3,a4,a5,a6,a7,a8,a9,a10,a11,a12,a13,a14,a15,a16,a17,a18,a19,a20,a21,a22,a23,a24))
def words_parse.v22(κ:Nat)(a0:Int)(a1:ByteArray)(a2 a3:Int)(a4:List ApiStep)(a5:ByteArray)(a6:Int)(a7 a8:Bool)(a9:ByteArray)(a10 a11:Int)(a12:List Int)(a13 a14:Int)(a15:List ApiStep)(a16:ByteArray)(a17:Int)(a18 a19:Bool)(a20:ByteArray)(a21 a22:Int)(a23:List Int)(a24:ByteArray):Option (Ty0⊕Ty3):=
 Option.bind (Ev.Seat.strings_Cut κ a1 (ByteArray.mk (List.toArray ((32:UInt8)::[])))) fun x0=>
  bif (!(Ev.seq a1 a24))then
   some (.inr (Bool.false,(0:Int),(0:Int),(ByteArray.mk (List.toArray [])),(0:Int),Bool.false,Bool.false,(ByteArray.mk (List.toArray [])),(0:Int),(0:Int)))
  else
   some (.inl (a0,(ByteArray.mk (List.toArray [])),a2,a3,a4,a5,a6,a7,a8,a9,a10,a11,a12,a13,a14,a15,a16,a17,a18,a19,a20,a21,a22,a23,a24))
def words_parse.v23(κ:Nat)(a0:Int)(a1:ByteArray)(a2 a3:Int)(a4:List ApiStep)(a5:ByteArray)(a6:Int)(a7 a8:Bool)(a9:ByteArray)(a10 a11:Int)(a12:List Int)(a13 a14:Int)(a15:List ApiStep)(a16:ByteArray)(a17:Int)(a18 a19:Bool)(a20:ByteArray)(a21 a22:Int)(a23:List Int)(a24:ByteArray):Option Ty1:=
 some (a2,a3,a4,a5,a6,a7,a8,a9,a10,a11,a12,a13,a14,a15,a16,a17,a18,a19,a20,a21,a22,a23)
def words_parse.v24(κ:Nat)(a0:Int)(a1:ByteArray)(a2 a3:Int)(a4:List ApiStep)(a5:ByteArray)(a6:Int)(a7 a8:Bool)(a9:ByteArray)(a10 a11:Int)(a12:List Int)(a13 a14:Int)(a15:List ApiStep)(a16:ByteArray)(a17:Int)(a18 a19:Bool)(a20:ByteArray)(a21 a22:Int)(a23:List Int)(a24:ByteArray):Option Ty1:=
 some (a2,a3,a4,a5,a6,a7,a8,a9,a10,a11,a12,a13,a14,a15,a16,a17,a18,a19,a20,a21,a22,a23)
def words_parse.v25(κ:Nat)(a0:Int)(a1:ByteArray)(a2 a3:Int)(a4:List ApiStep)(a5:ByteArray)(a6:Int)(a7 a8:Bool)(a9:ByteArray)(a10 a11:Int)(a12:List Int)(a13 a14:Int)(a15:List ApiStep)(a16:ByteArray)(a17:Int)(a18 a19:Bool)(a20:ByteArray)(a21 a22:Int)(a23:List Int)(a24:ByteArray):Option (Ty0⊕Ty3):=
 Option.bind (Ev.Seat.strings_Cut κ a1 (ByteArray.mk (List.toArray ((32:UInt8)::[])))) fun x0=>
  Option.bind (Ev.Seat.words_read_5 κ x0.1 a13 a14 a15 a16 a17 a18 a19 a20 a21 a22 a23) fun x1=>
   bif (!x1.1)then
    some (.inr (Bool.false,(0:Int),(0:Int),(ByteArray.mk (List.toArray [])),(0:Int),Bool.false,Bool.false,(ByteArray.mk (List.toArray [])),(0:Int),(0:Int)))
   else
    bif (!x0.2.2)then
     bif (!x0.2.2)then
      some (.inr (Bool.false,(0:Int),(0:Int),(ByteArray.mk (List.toArray [])),(0:Int),Bool.false,Bool.false,(ByteArray.mk (List.toArray [])),(0:Int),(0:Int)))
     else
      some (.inl (a0,x0.2.1,a2,a3,a4,a5,a6,a7,a8,a9,a10,a11,a12,x1.2.1,x1.2.2.1,x1.2.2.2.1,x1.2.2.2.2.1,x1.2.2.2.2.2.1,x1.2.2.2.2.2.2.1,x1.2.2.2.2.2.2.2.1,x1.2.2.2.2.2.2.2.2.1,x1.2.2.2.2.2.2.2.2.2.1,x1.2.2.2.2.2.2.2.2.2.2.1,x1.2.2.2.2.2.2.2.2.2.2.2,a24))
    else
     bif (!x0.2.2)then
      some (.inr (Bool.false,(0:Int),(0:Int),(ByteArray.mk (List.toArray [])),(0:Int),Bool.false,Bool.false,(ByteArray.mk (List.toArray [])),(0:Int),(0:Int)))
     else
      some (.inl (a0,x0.2.1,a2,a3,a4,a5,a6,a7,a8,a9,a10,a11,a12,x1.2.1,x1.2.2.1,x1.2.2.2.1,x1.2.2.2.2.1,x1.2.2.2.2.2.1,x1.2.2.2.2.2.2.1,x1.2.2.2.2.2.2.2.1,x1.2.2.2.2.2.2.2.2.1,x1.2.2.2.2.2.2.2.2.2.1,x1.2.2.2.2.2.2.2.2.2.2.1,x1.2.2.2.2.2.2.2.2.2.2.2,a24))
def words_parse.v26(κ:Nat)(a0:Int)(a1:ByteArray)(a2 a3:Int)(a4:List ApiStep)(a5:ByteArray)(a6:Int)(a7 a8:Bool)(a9:ByteArray)(a10 a11:Int)(a12:List Int)(a13 a14:Int)(a15:List ApiStep)(a16:ByteArray)(a17:Int)(a18 a19:Bool)(a20:ByteArray)(a21 a22:Int)(a23:List Int)(a24 a25:ByteArray):Option (Ty4⊕(Ty3⊕Ty1)):=
 Option.bind (Ev.Seat.strings_Cut κ a1 (ByteArray.mk (List.toArray ((32:UInt8)::[])))) fun x0=>
  bif (!(Ev.seq x0.1 a25))then
   some (.inr (.inl (Bool.false,(0:Int),(0:Int),(ByteArray.mk (List.toArray [])),(0:Int),Bool.false,Bool.false,(ByteArray.mk (List.toArray [])),(0:Int),(0:Int))))
  else
   bif (!x0.2.2)then
    bif (a0==(9:Int))then
     some (.inr (.inr (a2,a3,a4,a5,a6,a7,a8,a9,a10,a11,a12,a13,a14,a15,a16,a17,a18,a19,a20,a21,a22,a23)))
    else
     bif (!x0.2.2)then
      some (.inr (.inl (Bool.false,(0:Int),(0:Int),(ByteArray.mk (List.toArray [])),(0:Int),Bool.false,Bool.false,(ByteArray.mk (List.toArray [])),(0:Int),(0:Int))))
     else
      some (.inl (a0,x0.2.1,a2,a3,a4,a5,a6,a7,a8,a9,a10,a11,a12,a13,a14,a15,a16,a17,a18,a19,a20,a21,a22,a23,a24,a25))
   else
    bif (!x0.2.2)then
     some (.inr (.inl (Bool.false,(0:Int),(0:Int),(ByteArray.mk (List.toArray [])),(0:Int),Bool.false,Bool.false,(ByteArray.mk (List.toArray [])),(0:Int),(0:Int))))
    else
     some (.inl (a0,x0.2.1,a2,a3,a4,a5,a6,a7,a8,a9,a10,a11,a12,a13,a14,a15,a16,a17,a18,a19,a20,a21,a22,a23,a24,a25))
def words_parse.v27(κ:Nat)(a0:Int)(a1:ByteArray)(a2 a3:Int)(a4:List ApiStep)(a5:ByteArray)(a6:Int)(a7 a8:Bool)(a9:ByteArray)(a10 a11:Int)(a12:List Int)(a13 a14:Int)(a15:List ApiStep)(a16:ByteArray)(a17:Int)(a18 a19:Bool)(a20:ByteArray)(a21 a22:Int)(a23:List Int)(a24 a25:ByteArray):Option (Ty4⊕(Ty3⊕Ty1)):=
 Option.bind (Ev.Seat.strings_Cut κ a1 (ByteArray.mk (List.toArray ((32:UInt8)::[])))) fun x0=>
  bif (!(Ev.seq x0.1 a25))then
   some (.inr (.inl (Bool.false,(0:Int),(0:Int),(ByteArray.mk (List.toArray [])),(0:Int),Bool.false,Bool.false,(ByteArray.mk (List.toArray [])),(0:Int),(0:Int))))
  else
   bif (!x0.2.2)then
    bif (a0==(9:Int))then
     some (.inr (.inr (a2,a3,a4,a5,a6,a7,a8,a9,a10,a11,a12,a13,a14,a15,a16,a17,a18,a19,a20,a21,a22,a23)))
    else
     bif (!x0.2.2)then
      some (.inr (.inl (Bool.false,(0:Int),(0:Int),(ByteArray.mk (List.toArray [])),(0:Int),Bool.false,Bool.false,(ByteArray.mk (List.toArray [])),(0:Int),(0:Int))))
     else
      some (.inl (a0,x0.2.1,a2,a3,a4,a5,a6,a7,a8,a9,a10,a11,a12,a13,a14,a15,a16,a17,a18,a19,a20,a21,a22,a23,a24,a25))
   else
    bif (!x0.2.2)then
     some (.inr (.inl (Bool.false,(0:Int),(0:Int),(ByteArray.mk (List.toArray [])),(0:Int),Bool.false,Bool.false,(ByteArray.mk (List.toArray [])),(0:Int),(0:Int))))
    else
     some (.inl (a0,x0.2.1,a2,a3,a4,a5,a6,a7,a8,a9,a10,a11,a12,a13,a14,a15,a16,a17,a18,a19,a20,a21,a22,a23,a24,a25))
def words_parse.v28(κ:Nat)(a0:Int)(a1:ByteArray)(a2 a3:Int)(a4:List ApiStep)(a5:ByteArray)(a6:Int)(a7 a8:Bool)(a9:ByteArray)(a10 a11:Int)(a12:List Int)(a13 a14:Int)(a15:List ApiStep)(a16:ByteArray)(a17:Int)(a18 a19:Bool)(a20:ByteArray)(a21 a22:Int)(a23:List Int)(a24 a25 a26 a27 a28:ByteArray):Option (Ty8⊕Ty3):=
 Option.bind (Ev.Seat.strings_Cut κ a1 (ByteArray.mk (List.toArray ((32:UInt8)::[])))) fun x0=>
  Option.bind (Ev.Seat.words_read_6 κ a25 a26 x0.1 a13 a14 a15 a16 a17 a18 a19 a20 a21 a22 a23) fun x1=>
   bif (!x1.1)then
    some (.inr (Bool.false,(0:Int),(0:Int),(ByteArray.mk (List.toArray [])),(0:Int),Bool.false,Bool.false,(ByteArray.mk (List.toArray [])),(0:Int),(0:Int)))
   else
    bif (!x0.2.2)then
     bif (!x0.2.2)then
      some (.inr (Bool.false,(0:Int),(0:Int),(ByteArray.mk (List.toArray [])),(0:Int),Bool.false,Bool.false,(ByteArray.mk (List.toArray [])),(0:Int),(0:Int)))
     else
      some (.inl (a0,x0.2.1,a2,a3,a4,a5,a6,a7,a8,a9,a10,a11,a12,x1.2.1,x1.2.2.1,x1.2.2.2.1,x1.2.2.2.2.1,x1.2.2.2.2.2.1,x1.2.2.2.2.2.2.1,x1.2.2.2.2.2.2.2.1,x1.2.2.2.2.2.2.2.2.1,x1.2.2.2.2.2.2.2.2.2.1,x1.2.2.2.2.2.2.2.2.2.2.1,x1.2.2.2.2.2.2.2.2.2.2.2,a24,a25,a26,a27,a28))
    else
     bif (!x0.2.2)then
      some (.inr (Bool.false,(0:Int),(0:Int),(ByteArray.mk (List.toArray [])),(0:Int),Bool.false,Bool.false,(ByteArray.mk (List.toArray [])),(0:Int),(0:Int)))
     else
      some (.inl (a0,x0.2.1,a2,a3,a4,a5,a6,a7,a8,a9,a10,a11,a12,x1.2.1,x1.2.2.1,x1.2.2.2.1,x1.2.2.2.2.1,x1.2.2.2.2.2.1,x1.2.2.2.2.2.2.1,x1.2.2.2.2.2.2.2.1,x1.2.2.2.2.2.2.2.2.1,x1.2.2.2.2.2.2.2.2.2.1,x1.2.2.2.2.2.2.2.2.2.2.1,x1.2.2.2.2.2.2.2.2.2.2.2,a24,a25,a26,a27,a28))
def words_parse.v29(κ:Nat)(a0:Int)(a1:ByteArray)(a2 a3:Int)(a4:List ApiStep)(a5:ByteArray)(a6:Int)(a7 a8:Bool)(a9:ByteArray)(a10 a11:Int)(a12:List Int)(a13 a14:Int)(a15:List ApiStep)(a16:ByteArray)(a17:Int)(a18 a19:Bool)(a20:ByteArray)(a21 a22:Int)(a23:List Int)(a24:ByteArray):Option (Ty0⊕Ty3):=
 Option.bind (Ev.Seat.strings_Cut κ a1 (ByteArray.mk (List.toArray ((32:UInt8)::[])))) fun x0=>
  Option.bind (Ev.Seat.words_read_4 κ a1 a13 a14 a15 a16 a17 a18 a19 a20 a21 a22 a23) fun x1=>
   bif (!x1.1)then
    some (.inr (Bool.false,(0:Int),(0:Int),(ByteArray.mk (List.toArray [])),(0:Int),Bool.false,Bool.false,(ByteArray.mk (List.toArray [])),(0:Int),(0:Int)))
   else
    some (.inl (a0,(ByteArray.mk (List.toArray [])),a2,a3,a4,a5,a6,a7,a8,a9,a10,a11,a12,x1.2.1,x1.2.2.1,x1.2.2.2.1,x1.2.2.2.2.1,x1.2.2.2.2.2.1,x1.2.2.2.2.2.2.1,x1.2.2.2.2.2.2.2.1,x1.2.2.2.2.2.2.2.2.1,x1.2.2.2.2.2.2.2.2.2.1,x1.2.2.2.2.2.2.2.2.2.2.1,x1.2.2.2.2.2.2.2.2.2.2.2,a24))
def words_parse.v30(κ:Nat)(a0:Int)(a1:ByteArray)(a2 a3:Int)(a4:List ApiStep)(a5:ByteArray)(a6:Int)(a7 a8:Bool)(a9:ByteArray)(a10 a11:Int)(a12:List Int)(a13 a14:Int)(a15:List ApiStep)(a16:ByteArray)(a17:Int)(a18 a19:Bool)(a20:ByteArray)(a21 a22:Int)(a23:List Int)(a24:ByteArray):Option (Ty0⊕Ty3):=
 Option.bind (Ev.Seat.strings_Cut κ a1 (ByteArray.mk (List.toArray ((32:UInt8)::[])))) fun x0=>
  Option.bind (Ev.Seat.words_read_7 κ a1 a13 a14 a15 a16 a17 a18 a19 a20 a21 a22 a23) fun x1=>
   bif (!x1.1)then
    some (.inr (Bool.false,(0:Int),(0:Int),(ByteArray.mk (List.toArray [])),(0:Int),Bool.false,Bool.false,(ByteArray.mk (List.toArray [])),(0:Int),(0:Int)))
   else
    some (.inl (a0,(ByteArray.mk (List.toArray [])),a2,a3,a4,a5,a6,a7,a8,a9,a10,a11,a12,x1.2.1,x1.2.2.1,x1.2.2.2.1,x1.2.2.2.2.1,x1.2.2.2.2.2.1,x1.2.2.2.2.2.2.1,x1.2.2.2.2.2.2.2.1,x1.2.2.2.2.2.2.2.2.1,x1.2.2.2.2.2.2.2.2.2.1,x1.2.2.2.2.2.2.2.2.2.2.1,x1.2.2.2.2.2.2.2.2.2.2.2,a24))
def words_parse.v31(κ:Nat)(a0:Int)(a1:ByteArray)(a2 a3:Int)(a4:List ApiStep)(a5:ByteArray)(a6:Int)(a7 a8:Bool)(a9:ByteArray)(a10 a11:Int)(a12:List Int)(a13 a14:Int)(a15:List ApiStep)(a16:ByteArray)(a17:Int)(a18 a19:Bool)(a20:ByteArray)(a21 a22:Int)(a23:List Int)(a24:ByteArray):Option (Ty0⊕Ty3):=
 Option.bind (Ev.Seat.strings_Cut κ a1 (ByteArray.mk (List.toArray ((32:UInt8)::[])))) fun x0=>
  Option.bind (Ev.Seat.words_read_8 κ a1 a13 a14 a15 a16 a17 a18 a19 a20 a21 a22 a23) fun x1=>
   bif (!x1.1)then
    some (.inr (Bool.false,(0:Int),(0:Int),(ByteArray.mk (List.toArray [])),(0:Int),Bool.false,Bool.false,(ByteArray.mk (List.toArray [])),(0:Int),(0:Int)))
   else
    some (.inl (a0,(ByteArray.mk (List.toArray [])),a2,a3,a4,a5,a6,a7,a8,a9,a10,a11,a12,x1.2.1,x1.2.2.1,x1.2.2.2.2.2.2.2.2.2.2.2,x1.2.2.2.1,x1.2.2.2.2.1,x1.2.2.2.2.2.1,x1.2.2.2.2.2.2.1,x1.2.2.2.2.2.2.2.1,x1.2.2.2.2.2.2.2.2.1,x1.2.2.2.2.2.2.2.2.2.1,x1.2.2.2.2.2.2.2.2.2.2.1,a24))
def words_parse.v32(κ:Nat)(a0:Int)(a1:ByteArray)(a2 a3:Int)(a4:List ApiStep)(a5:ByteArray)(a6:Int)(a7 a8:Bool)(a9:ByteArray)(a10 a11:Int)(a12:List Int)(a13 a14:Int)(a15:List ApiStep)(a16:ByteArray)(a17:Int)(a18 a19:Bool)(a20:ByteArray)(a21 a22:Int)(a23:List Int)(a24:ByteArray):Option (Ty0⊕Ty3):=
 Option.bind (Ev.Seat.strings_Cut κ a1 (ByteArray.mk (List.toArray ((32:UInt8)::[])))) fun x0=>
  Option.bind (Ev.Seat.words_read_8 κ x0.1 a13 a14 a15 a16 a17 a18 a19 a20 a21 a22 a23) fun x1=>
   bif (!x1.1)then
    some (.inr (Bool.false,(0:Int),(0:Int),(ByteArray.mk (List.toArray [])),(0:Int),Bool.false,Bool.false,(ByteArray.mk (List.toArray [])),(0:Int),(0:Int)))
   else
    bif (!x0.2.2)then
     bif (!x0.2.2)then
      some (.inr (Bool.false,(0:Int),(0:Int),(ByteArray.mk (List.toArray [])),(0:Int),Bool.false,Bool.false,(ByteArray.mk (List.toArray [])),(0:Int),(0:Int)))
     else
      some (.inl (a0,x0.2.1,a2,a3,a4,a5,a6,a7,a8,a9,a10,a11,a12,x1.2.1,x1.2.2.1,x1.2.2.2.2.2.2.2.2.2.2.2,x1.2.2.2.1,x1.2.2.2.2.1,x1.2.2.2.2.2.1,x1.2.2.2.2.2.2.1,x1.2.2.2.2.2.2.2.1,x1.2.2.2.2.2.2.2.2.1,x1.2.2.2.2.2.2.2.2.2.1,x1.2.2.2.2.2.2.2.2.2.2.1,a24))
    else
     bif (!x0.2.2)then
      some (.inr (Bool.false,(0:Int),(0:Int),(ByteArray.mk (List.toArray [])),(0:Int),Bool.false,Bool.false,(ByteArray.mk (List.toArray [])),(0:Int),(0:Int)))
     else
      some (.inl (a0,x0.2.1,a2,a3,a4,a5,a6,a7,a8,a9,a10,a11,a12,x1.2.1,x1.2.2.1,x1.2.2.2.2.2.2.2.2.2.2.2,x1.2.2.2.1,x1.2.2.2.2.1,x1.2.2.2.2.2.1,x1.2.2.2.2.2.2.1,x1.2.2.2.2.2.2.2.1,x1.2.2.2.2.2.2.2.2.1,x1.2.2.2.2.2.2.2.2.2.1,x1.2.2.2.2.2.2.2.2.2.2.1,a24))
def words_parse.v33(κ:Nat)(a0:Int)(a1:ByteArray)(a2 a3:Int)(a4:List ApiStep)(a5:ByteArray)(a6:Int)(a7 a8:Bool)(a9:ByteArray)(a10 a11:Int)(a12:List Int)(a13 a14:Int)(a15:List ApiStep)(a16:ByteArray)(a17:Int)(a18 a19:Bool)(a20:ByteArray)(a21 a22:Int)(a23:List Int)(a24:ByteArray):Option Ty1:=
 some (a2,a3,a4,a5,a6,a7,a8,a9,a10,a11,a12,a13,a14,a15,a16,a17,a18,a19,a20,a21,a22,a23)
def words_parse.v34(κ:Nat)(a0:Int)(a1:ByteArray)(a2 a3:Int)(a4:List ApiStep)(a5:ByteArray)(a6:Int)(a7 a8:Bool)(a9:ByteArray)(a10 a11:Int)(a12:List Int)(a13 a14:Int)(a15:List ApiStep)(a16:ByteArray)(a17:Int)(a18 a19:Bool)(a20:ByteArray)(a21 a22:Int)(a23:List Int)(a24:ByteArray):Option (Ty0⊕Ty3):=
 Option.bind (Ev.Seat.strings_Cut κ a1 (ByteArray.mk (List.toArray ((32:UInt8)::[])))) fun x0=>
  Option.bind (Ev.Seat.words_read_9 κ a1 a13 a14 a15 a16 a17 a18 a19 a20 a21 a22 a23) fun x1=>
   bif (!x1.1)then
    some (.inr (Bool.false,(0:Int),(0:Int),(ByteArray.mk (List.toArray [])),(0:Int),Bool.false,Bool.false,(ByteArray.mk (List.toArray [])),(0:Int),(0:Int)))
   else
    some (.inl (a0,(ByteArray.mk (List.toArray [])),a2,a3,a4,a5,a6,a7,a8,a9,a10,a11,a12,x1.2.1,x1.2.2.1,x1.2.2.2.1,x1.2.2.2.2.1,x1.2.2.2.2.2.1,x1.2.2.2.2.2.2.1,x1.2.2.2.2.2.2.2.1,x1.2.2.2.2.2.2.2.2.1,x1.2.2.2.2.2.2.2.2.2.1,x1.2.2.2.2.2.2.2.2.2.2.1,x1.2.2.2.2.2.2.2.2.2.2.2,a24))
def words_parse.v35(κ:Nat)(a0:Int)(a1:ByteArray)(a2 a3:Int)(a4:List ApiStep)(a5:ByteArray)(a6:Int)(a7 a8:Bool)(a9:ByteArray)(a10 a11:Int)(a12:List Int)(a13 a14:Int)(a15:List ApiStep)(a16:ByteArray)(a17:Int)(a18 a19:Bool)(a20:ByteArray)(a21 a22:Int)(a23:List Int)(a24 a25:ByteArray):Option (Ty4⊕Ty3):=
 Option.bind (Ev.Seat.strings_Cut κ a1 (ByteArray.mk (List.toArray ((32:UInt8)::[])))) fun x0=>
  Option.bind (Ev.Seat.words_read_10 κ a1 a13 a14 a15 a16 a17 a18 a19 a20 a21 a22 a23) fun x1=>
   bif (!x1.1)then
    some (.inr (Bool.false,(0:Int),(0:Int),(ByteArray.mk (List.toArray [])),(0:Int),Bool.false,Bool.false,(ByteArray.mk (List.toArray [])),(0:Int),(0:Int)))
   else
    some (.inl (a0,(ByteArray.mk (List.toArray [])),a2,a3,a4,a5,a6,a7,a8,a9,a10,a11,a12,x1.2.1,x1.2.2.1,x1.2.2.2.1,x1.2.2.2.2.1,x1.2.2.2.2.2.1,x1.2.2.2.2.2.2.1,x1.2.2.2.2.2.2.2.1,x1.2.2.2.2.2.2.2.2.1,x1.2.2.2.2.2.2.2.2.2.1,x1.2.2.2.2.2.2.2.2.2.2.1,x1.2.2.2.2.2.2.2.2.2.2.2,a24,a25))
def words_parse.v36(κ:Nat)(a0:Int)(a1:ByteArray)(a2 a3:Int)(a4:List ApiStep)(a5:ByteArray)(a6:Int)(a7 a8:Bool)(a9:ByteArray)(a10 a11:Int)(a12:List Int)(a13 a14:Int)(a15:List ApiStep)(a16:ByteArray)(a17:Int)(a18 a19:Bool)(a20:ByteArray)(a21 a22:Int)(a23:List Int)(a24 a25:ByteArray):Option (Ty4⊕Ty3):=
 Option.bind (Ev.Seat.strings_Cut κ a1 (ByteArray.mk (List.toArray ((32:UInt8)::[])))) fun x0=>
  Option.bind (Ev.Seat.words_read_11 κ a1 a13 a14 a15 a16 a17 a18 a19 a20 a21 a22 a23) fun x1=>
   bif (!x1.1)then
    some (.inr (Bool.false,(0:Int),(0:Int),(ByteArray.mk (List.toArray [])),(0:Int),Bool.false,Bool.false,(ByteArray.mk (List.toArray [])),(0:Int),(0:Int)))
   else
    some (.inl (a0,(ByteArray.mk (List.toArray [])),a2,a3,a4,a5,a6,a7,a8,a9,a10,a11,a12,x1.2.1,x1.2.2.1,x1.2.2.2.1,x1.2.2.2.2.1,x1.2.2.2.2.2.1,x1.2.2.2.2.2.2.1,x1.2.2.2.2.2.2.2.1,x1.2.2.2.2.2.2.2.2.1,x1.2.2.2.2.2.2.2.2.2.1,x1.2.2.2.2.2.2.2.2.2.2.1,x1.2.2.2.2.2.2.2.2.2.2.2,a24,a25))
def words_parse.v37(κ:Nat)(a0:Int)(a1:ByteArray)(a2 a3:Int)(a4:List ApiStep)(a5:ByteArray)(a6:Int)(a7 a8:Bool)(a9:ByteArray)(a10 a11:Int)(a12:List Int)(a13 a14:Int)(a15:List ApiStep)(a16:ByteArray)(a17:Int)(a18 a19:Bool)(a20:ByteArray)(a21 a22:Int)(a23:List Int)(a24 a25 a26 a27 a28:ByteArray):Option (Ty8⊕Ty3):=
 Option.bind (Ev.Seat.strings_Cut κ a1 (ByteArray.mk (List.toArray ((32:UInt8)::[])))) fun x0=>
  Option.bind (Ev.Seat.words_read_12 κ a27 a28 x0.1 a13 a14 a15 a16 a17 a18 a19 a20 a21 a22 a23) fun x1=>
   bif (!x1.1)then
    some (.inr (Bool.false,(0:Int),(0:Int),(ByteArray.mk (List.toArray [])),(0:Int),Bool.false,Bool.false,(ByteArray.mk (List.toArray [])),(0:Int),(0:Int)))
   else
    bif (!x0.2.2)then
     bif (!x0.2.2)then
      some (.inr (Bool.false,(0:Int),(0:Int),(ByteArray.mk (List.toArray [])),(0:Int),Bool.false,Bool.false,(ByteArray.mk (List.toArray [])),(0:Int),(0:Int)))
     else
      some (.inl (a0,x0.2.1,a2,a3,a4,a5,a6,a7,a8,a9,a10,a11,a12,x1.2.1,x1.2.2.1,x1.2.2.2.1,x1.2.2.2.2.1,x1.2.2.2.2.2.1,x1.2.2.2.2.2.2.1,x1.2.2.2.2.2.2.2.1,x1.2.2.2.2.2.2.2.2.1,x1.2.2.2.2.2.2.2.2.2.1,x1.2.2.2.2.2.2.2.2.2.2.1,x1.2.2.2.2.2.2.2.2.2.2.2,a24,a25,a26,a27,a28))
    else
     bif (!x0.2.2)then
      some (.inr (Bool.false,(0:Int),(0:Int),(ByteArray.mk (List.toArray [])),(0:Int),Bool.false,Bool.false,(ByteArray.mk (List.toArray [])),(0:Int),(0:Int)))
     else
      some (.inl (a0,x0.2.1,a2,a3,a4,a5,a6,a7,a8,a9,a10,a11,a12,x1.2.1,x1.2.2.1,x1.2.2.2.1,x1.2.2.2.2.1,x1.2.2.2.2.2.1,x1.2.2.2.2.2.2.1,x1.2.2.2.2.2.2.2.1,x1.2.2.2.2.2.2.2.2.1,x1.2.2.2.2.2.2.2.2.2.1,x1.2.2.2.2.2.2.2.2.2.2.1,x1.2.2.2.2.2.2.2.2.2.2.2,a24,a25,a26,a27,a28))
def words_parse.v38(κ:Nat)(a0:Int)(a1:ByteArray)(a2 a3:Int)(a4:List ApiStep)(a5:ByteArray)(a6:Int)(a7 a8:Bool)(a9:ByteArray)(a10 a11:Int)(a12:List Int)(a13 a14:Int)(a15:List ApiStep)(a16:ByteArray)(a17:Int)(a18 a19:Bool)(a20:ByteArray)(a21 a22:Int)(a23:List Int)(a24:ByteArray):Option Ty1:=
 some (a2,a3,a4,a5,a6,a7,a8,a9,a10,a11,a12,a13,a14,a15,a16,a17,a18,a19,a20,a21,a22,a23)
def words_parse.v39(κ:Nat)(a0:Int)(a1:ByteArray)(a2 a3:Int)(a4:List ApiStep)(a5:ByteArray)(a6:Int)(a7 a8:Bool)(a9:ByteArray)(a10 a11:Int)(a12:List Int)(a13 a14:Int)(a15:List ApiStep)(a16:ByteArray)(a17:Int)(a18 a19:Bool)(a20:ByteArray)(a21 a22:Int)(a23:List Int)(a24:ByteArray):Option Ty1:=
 some (a2,a3,a4,a5,a6,a7,a8,a9,a10,a11,a12,a13,a14,a15,a16,a17,a18,a19,a20,a21,a22,a23)
def words_parse.v40(κ:Nat)(a0:Int)(a1:ByteArray)(a2 a3:Int)(a4:List ApiStep)(a5:ByteArray)(a6:Int)(a7 a8:Bool)(a9:ByteArray)(a10 a11:Int)(a12:List Int)(a13 a14:Int)(a15:List ApiStep)(a16:ByteArray)(a17:Int)(a18 a19:Bool)(a20:ByteArray)(a21 a22:Int)(a23:List Int)(a24:ByteArray):Option Ty1:=
 some (a2,a3,a4,a5,a6,a7,a8,a9,a10,a11,a12,a13,a14,a15,a16,a17,a18,a19,a20,a21,a22,a23)
def words_parse.v41(κ:Nat)(a0:Int)(a1:ByteArray)(a2 a3:Int)(a4:List ApiStep)(a5:ByteArray)(a6:Int)(a7 a8:Bool)(a9:ByteArray)(a10 a11:Int)(a12:List Int)(a13 a14:Int)(a15:List ApiStep)(a16:ByteArray)(a17:Int)(a18 a19:Bool)(a20:ByteArray)(a21 a22:Int)(a23:List Int)(a24:ByteArray):Option Ty0:=
 Option.bind (Ev.Seat.strings_Cut κ a1 (ByteArray.mk (List.toArray ((32:UInt8)::[])))) fun x0=>
  some (a0,(ByteArray.mk (List.toArray [])),a2,a3,a4,a5,a6,a7,a8,a9,a10,a11,a12,a13,a14,a15,a1,a17,a18,a19,a20,a21,a22,a23,a24)
def words_parse.v42(κ:Nat)(a0:Int)(a1:ByteArray)(a2 a3:Int)(a4:List ApiStep)(a5:ByteArray)(a6:Int)(a7 a8:Bool)(a9:ByteArray)(a10 a11:Int)(a12:List Int)(a13 a14:Int)(a15:List ApiStep)(a16:ByteArray)(a17:Int)(a18 a19:Bool)(a20:ByteArray)(a21 a22:Int)(a23:List Int)(a24:ByteArray):Option Ty1:=
 some (a2,a3,a4,a5,a6,a7,a8,a9,a10,a11,a12,a13,a14,a15,a16,a17,a18,a19,a20,a21,a22,a23)
def words_parse.v43(κ:Nat)(a0:Int)(a1:ByteArray)(a2 a3:Int)(a4:List ApiStep)(a5:ByteArray)(a6:Int)(a7 a8:Bool)(a9:ByteArray)(a10 a11:Int)(a12:List Int)(a13 a14:Int)(a15:List ApiStep)(a16:ByteArray)(a17:Int)(a18 a19:Bool)(a20:ByteArray)(a21 a22:Int)(a23:List Int)(a24 a25:ByteArray):Option Ty1:=
 some (a2,a3,a4,a5,a6,a7,a8,a9,a10,a11,a12,a13,a14,a15,a16,a17,a18,a19,a20,a21,a22,a23)
def words_parse.v44(κ:Nat)(a0:Int)(a1:ByteArray)(a2 a3:Int)(a4:List ApiStep)(a5:ByteArray)(a6:Int)(a7 a8:Bool)(a9:ByteArray)(a10 a11:Int)(a12:List Int)(a13 a14:Int)(a15:List ApiStep)(a16:ByteArray)(a17:Int)(a18 a19:Bool)(a20:ByteArray)(a21 a22:Int)(a23:List Int)(a24 a25:ByteArray):Option Ty1:=
 some (a2,a3,a4,a5,a6,a7,a8,a9,a10,a11,a12,a13,a14,a15,a16,a17,a18,a19,a20,a21,a22,a23)
def words_parse.v45(κ:Nat)(a0:Int)(a1:ByteArray)(a2 a3:Int)(a4:List ApiStep)(a5:ByteArray)(a6:Int)(a7 a8:Bool)(a9:ByteArray)(a10 a11:Int)(a12:List Int)(a13 a14:Int)(a15:List ApiStep)(a16:ByteArray)(a17:Int)(a18 a19:Bool)(a20:ByteArray)(a21 a22:Int)(a23:List Int)(a24 a25 a26 a27 a28:ByteArray):Option (Ty8⊕Ty3):=
 Option.bind (Ev.Seat.strings_Cut κ a1 (ByteArray.mk (List.toArray ((32:UInt8)::[])))) fun x0=>
  Option.bind (Ev.Seat.words_read_4 κ a1 a13 a14 a15 a16 a17 a18 a19 a20 a21 a22 a23) fun x1=>
   bif (!x1.1)then
    some (.inr (Bool.false,(0:Int),(0:Int),(ByteArray.mk (List.toArray [])),(0:Int),Bool.false,Bool.false,(ByteArray.mk (List.toArray [])),(0:Int),(0:Int)))
   else
    some (.inl (a0,(ByteArray.mk (List.toArray [])),a2,a3,a4,a5,a6,a7,a8,a9,a10,a11,a12,x1.2.1,x1.2.2.1,x1.2.2.2.1,x1.2.2.2.2.1,x1.2.2.2.2.2.1,x1.2.2.2.2.2.2.1,x1.2.2.2.2.2.2.2.1,x1.2.2.2.2.2.2.2.2.1,x1.2.2.2.2.2.2.2.2.2.1,x1.2.2.2.2.2.2.2.2.2.2.1,x1.2.2.2.2.2.2.2.2.2.2.2,a24,a25,a26,a27,a28))
def words_parse.v46(κ:Nat)(a0:Int)(a1:ByteArray)(a2 a3:Int)(a4:List ApiStep)(a5:ByteArray)(a6:Int)(a7 a8:Bool)(a9:ByteArray)(a10 a11:Int)(a12:List Int)(a13 a14:Int)(a15:List ApiStep)(a16:ByteArray)(a17:Int)(a18 a19:Bool)(a20:ByteArray)(a21 a22:Int)(a23:List Int)(a24:ByteArray):Option Ty1:=
 some (a2,a3,a4,a5,a6,a7,a8,a9,a10,a11,a12,a13,a14,a15,a16,a17,a18,a19,a20,a21,a22,a23)
def words_parse.v47(κ:Nat)(a0:Int)(a1:ByteArray)(a2 a3:Int)(a4:List ApiStep)(a5:ByteArray)(a6:Int)(a7 a8:Bool)(a9:ByteArray)(a10 a11:Int)(a12:List Int)(a13 a14:Int)(a15:List ApiStep)(a16:ByteArray)(a17:Int)(a18 a19:Bool)(a20:ByteArray)(a21 a22:Int)(a23:List Int)(a24 a25 a26 a27 a28:ByteArray):Option Ty1:=
 some (a2,a3,a4,a5,a6,a7,a8,a9,a10,a11,a12,a13,a14,a15,a16,a17,a18,a19,a20,a21,a22,a23)
def words_parse.v49(κ:Nat)(a0:ByteArray)(a1:Bool)(a2 a3:Int)(a4:List ApiStep)(a5:ByteArray)(a6:Int)(a7 a8:Bool)(a9:ByteArray)(a10 a11:Int)(a12:List Int)(a13 a14:Int)(a15:List ApiStep)(a16:ByteArray)(a17:Int)(a18 a19:Bool)(a20:ByteArray)(a21 a22:Int)(a23:List Int):Option Ty9:=
 bif a1 then
  some ((!(Ev.seq a0 (ByteArray.mk (List.toArray [])))),a13,a14,a15,a16,a17,a18,a19,a20,a21,a22,a23)
 else
  some (Bool.false,a13,a14,a15,a16,a17,a18,a19,a20,a21,a22,a23)
def words_parse(κ:Nat)(a0:Int)(a1:ByteArray):Option (Int×Int×(List ApiStep)×ByteArray×Int×Bool×Bool×ByteArray×Int×Int×(List Int)×Bool):=
 Option.bind (Ev.Seat.words_parts κ a0) fun x0=>
  match x0 with
  | .inl x1=>
   Option.bind (Ev.Seat.words_line κ a0 (0:Int) [] (ByteArray.mk (List.toArray [])) (0:Int) Bool.false Bool.false (ByteArray.mk (List.toArray [])) (0:Int) (0:Int) []) fun x2=>
    Option.bind (Ev.Seat.words_parse.v49 κ x2.1 x2.2 (0:Int) (0:Int) [] (ByteArray.mk (List.toArray [])) (0:Int) Bool.false Bool.false (ByteArray.mk (List.toArray [])) (0:Int) (0:Int) [] a0 (0:Int) [] (ByteArray.mk (List.toArray [])) (0:Int) Bool.false Bool.false (ByteArray.mk (List.toArray [])) (0:Int) (0:Int) []) fun x3=>
     some (x3.2.1,x3.2.2.1,x3.2.2.2.1,x3.2.2.2.2.1,x3.2.2.2.2.2.1,x3.2.2.2.2.2.2.1,x3.2.2.2.2.2.2.2.1,x3.2.2.2.2.2.2.2.2.1,x3.2.2.2.2.2.2.2.2.2.1,x3.2.2.2.2.2.2.2.2.2.2.1,x3.2.2.2.2.2.2.2.2.2.2.2,x3.1)
  | .inr x4=>
   match x4 with
   | .inl x5=>
    Option.bind (Ev.Seat.words_parse.v1 κ a0 a1 (0:Int) (0:Int) [] (ByteArray.mk (List.toArray [])) (0:Int) Bool.false Bool.false (ByteArray.mk (List.toArray [])) (0:Int) (0:Int) [] a0 (0:Int) [] (ByteArray.mk (List.toArray [])) (0:Int) Bool.false Bool.false (ByteArray.mk (List.toArray [])) (0:Int) (0:Int) [] x5) fun x6=>
     match x6 with
     | .inl x7=>
      Option.bind (unc25 (Ev.Seat.words_parse.v12 κ) x7) fun x8=>
       Option.bind (Ev.Seat.words_line κ x8.2.2.2.2.2.2.2.2.2.2.2.2.2.1 x8.2.2.2.2.2.2.2.2.2.2.2.2.2.2.1 x8.2.2.2.2.2.2.2.2.2.2.2.2.2.2.2.1 x8.2.2.2.2.2.2.2.2.2.2.2.2.2.2.2.2.1 x8.2.2.2.2.2.2.2.2.2.2.2.2.2.2.2.2.2.1 x8.2.2.2.2.2.2.2.2.2.2.2.2.2.2.2.2.2.2.1 x8.2.2.2.2.2.2.2.2.2.2.2.2.2.2.2.2.2.2.2.1 x8.2.2.2.2.2.2.2.2.2.2.2.2.2.2.2.2.2.2.2.2.1 x8.2.2.2.2.2.2.2.2.2.2.2.2.2.2.2.2.2.2.2.2.2.1 x8.2.2.2.2.2.2.2.2.2.2.2.2.2.2.2.2.2.2.2.2.2.2.1 x8.2.2.2.2.2.2.2.2.2.2.2.2.2.2.2.2.2.2.2.2.2.2.2.1) fun x9=>
        Option.bind (Ev.Seat.words_parse.v49 κ x9.1 x9.2 x8.2.2.1 x8.2.2.2.1 x8.2.2.2.2.1 x8.2.2.2.2.2.1 x8.2.2.2.2.2.2.1 x8.2.2.2.2.2.2.2.1 x8.2.2.2.2.2.2.2.2.1 x8.2.2.2.2.2.2.2.2.2.1 x8.2.2.2.2.2.2.2.2.2.2.1 x8.2.2.2.2.2.2.2.2.2.2.2.1 x8.2.2.2.2.2.2.2.2.2.2.2.2.1 x8.2.2.2.2.2.2.2.2.2.2.2.2.2.1 x8.2.2.2.2.2.2.2.2.2.2.2.2.2.2.1 x8.2.2.2.2.2.2.2.2.2.2.2.2.2.2.2.1 x8.2.2.2.2.2.2.2.2.2.2.2.2.2.2.2.2.1 x8.2.2.2.2.2.2.2.2.2.2.2.2.2.2.2.2.2.1 x8.2.2.2.2.2.2.2.2.2.2.2.2.2.2.2.2.2.2.1 x8.2.2.2.2.2.2.2.2.2.2.2.2.2.2.2.2.2.2.2.1 x8.2.2.2.2.2.2.2.2.2.2.2.2.2.2.2.2.2.2.2.2.1 x8.2.2.2.2.2.2.2.2.2.2.2.2.2.2.2.2.2.2.2.2.2.1 x8.2.2.2.2.2.2.2.2.2.2.2.2.2.2.2.2.2.2.2.2.2.2.1 x8.2.2.2.2.2.2.2.2.2.2.2.2.2.2.2.2.2.2.2.2.2.2.2.1) fun x10=>
         some (x10.2.1,x10.2.2.1,x10.2.2.2.1,x10.2.2.2.2.1,x10.2.2.2.2.2.1,x10.2.2.2.2.2.2.1,x10.2.2.2.2.2.2.2.1,x10.2.2.2.2.2.2.2.2.1,x10.2.2.2.2.2.2.2.2.2.1,x10.2.2.2.2.2.2.2.2.2.2.1,x10.2.2.2.2.2.2.2.2.2.2.2,x10.1)
     | .inr x11=>
      match x11 with
      | .inl x12=>
       some (x12.2.1,x12.2.2.1,[],x12.2.2.2.1,x12.2.2.2.2.1,x12.2.2.2.2.2.1,x12.2.2.2.2.2.2.1,x12.2.2.2.2.2.2.2.1,x12.2.2.2.2.2.2.2.2.1,x12.2.2.2.2.2.2.2.2.2,[],x12.1)
      | .inr x13=>
       Option.bind (Ev.Seat.words_line κ x13.2.2.2.2.2.2.2.2.2.2.2.1 x13.2.2.2.2.2.2.2.2.2.2.2.2.1 x13.2.2.2.2.2.2.2.2.2.2.2.2.2.1 x13.2.2.2.2.2.2.2.2.2.2.2.2.2.2.1 x13.2.2.2.2.2.2.2.2.2.2.2.2.2.2.2.1 x13.2.2.2.2.2.2.2.2.2.2.2.2.2.2.2.2.1 x13.2.2.2.2.2.2.2.2.2.2.2.2.2.2.2.2.2.1 x13.2.2.2.2.2.2.2.2.2.2.2.2.2.2.2.2.2.2.1 x13.2.2.2.2.2.2.2.2.2.2.2.2.2.2.2.2.2.2.2.1 x13.2.2.2.2.2.2.2.2.2.2.2.2.2.2.2.2.2.2.2.2.1 x13.2.2.2.2.2.2.2.2.2.2.2.2.2.2.2.2.2.2.2.2.2) fun x14=>
        Option.bind (Ev.Seat.words_parse.v49 κ x14.1 x14.2 x13.1 x13.2.1 x13.2.2.1 x13.2.2.2.1 x13.2.2.2.2.1 x13.2.2.2.2.2.1 x13.2.2.2.2.2.2.1 x13.2.2.2.2.2.2.2.1 x13.2.2.2.2.2.2.2.2.1 x13.2.2.2.2.2.2.2.2.2.1 x13.2.2.2.2.2.2.2.2.2.2.1 x13.2.2.2.2.2.2.2.2.2.2.2.1 x13.2.2.2.2.2.2.2.2.2.2.2.2.1 x13.2.2.2.2.2.2.2.2.2.2.2.2.2.1 x13.2.2.2.2.2.2.2.2.2.2.2.2.2.2.1 x13.2.2.2.2.2.2.2.2.2.2.2.2.2.2.2.1 x13.2.2.2.2.2.2.2.2.2.2.2.2.2.2.2.2.1 x13.2.2.2.2.2.2.2.2.2.2.2.2.2.2.2.2.2.1 x13.2.2.2.2.2.2.2.2.2.2.2.2.2.2.2.2.2.2.1 x13.2.2.2.2.2.2.2.2.2.2.2.2.2.2.2.2.2.2.2.1 x13.2.2.2.2.2.2.2.2.2.2.2.2.2.2.2.2.2.2.2.2.1 x13.2.2.2.2.2.2.2.2.2.2.2.2.2.2.2.2.2.2.2.2.2) fun x15=>
         some (x15.2.1,x15.2.2.1,x15.2.2.2.1,x15.2.2.2.2.1,x15.2.2.2.2.2.1,x15.2.2.2.2.2.2.1,x15.2.2.2.2.2.2.2.1,x15.2.2.2.2.2.2.2.2.1,x15.2.2.2.2.2.2.2.2.2.1,x15.2.2.2.2.2.2.2.2.2.2.1,x15.2.2.2.2.2.2.2.2.2.2.2,x15.1)
   | .inr x16=>
    match x16 with
    | .inl x17=>
     Option.bind (Ev.Seat.words_parse.v2 κ a0 a1 (0:Int) (0:Int) [] (ByteArray.mk (List.toArray [])) (0:Int) Bool.false Bool.false (ByteArray.mk (List.toArray [])) (0:Int) (0:Int) [] a0 (0:Int) [] (ByteArray.mk (List.toArray [])) (0:Int) Bool.false Bool.false (ByteArray.mk (List.toArray [])) (0:Int) (0:Int) [] x17) fun x18=>
      match x18 with
      | .inl x19=>
       Option.bind (unc25 (Ev.Seat.words_parse.v13 κ) x19) fun x20=>
        match x20 with
        | .inl x21=>
         Option.bind (Ev.Seat.words_line κ x21.2.2.2.2.2.2.2.2.2.2.2.2.2.1 x21.2.2.2.2.2.2.2.2.2.2.2.2.2.2.1 x21.2.2.2.2.2.2.2.2.2.2.2.2.2.2.2.1 x21.2.2.2.2.2.2.2.2.2.2.2.2.2.2.2.2.1 x21.2.2.2.2.2.2.2.2.2.2.2.2.2.2.2.2.2.1 x21.2.2.2.2.2.2.2.2.2.2.2.2.2.2.2.2.2.2.1 x21.2.2.2.2.2.2.2.2.2.2.2.2.2.2.2.2.2.2.2.1 x21.2.2.2.2.2.2.2.2.2.2.2.2.2.2.2.2.2.2.2.2.1 x21.2.2.2.2.2.2.2.2.2.2.2.2.2.2.2.2.2.2.2.2.2.1 x21.2.2.2.2.2.2.2.2.2.2.2.2.2.2.2.2.2.2.2.2.2.2.1 x21.2.2.2.2.2.2.2.2.2.2.2.2.2.2.2.2.2.2.2.2.2.2.2.1) fun x22=>
          Option.bind (Ev.Seat.words_parse.v49 κ x22.1 x22.2 x21.2.2.1 x21.2.2.2.1 x21.2.2.2.2.1 x21.2.2.2.2.2.1 x21.2.2.2.2.2.2.1 x21.2.2.2.2.2.2.2.1 x21.2.2.2.2.2.2.2.2.1 x21.2.2.2.2.2.2.2.2.2.1 x21.2.2.2.2.2.2.2.2.2.2.1 x21.2.2.2.2.2.2.2.2.2.2.2.1 x21.2.2.2.2.2.2.2.2.2.2.2.2.1 x21.2.2.2.2.2.2.2.2.2.2.2.2.2.1 x21.2.2.2.2.2.2.2.2.2.2.2.2.2.2.1 x21.2.2.2.2.2.2.2.2.2.2.2.2.2.2.2.1 x21.2.2.2.2.2.2.2.2.2.2.2.2.2.2.2.2.1 x21.2.2.2.2.2.2.2.2.2.2.2.2.2.2.2.2.2.1 x21.2.2.2.2.2.2.2.2.2.2.2.2.2.2.2.2.2.2.1 x21.2.2.2.2.2.2.2.2.2.2.2.2.2.2.2.2.2.2.2.1 x21.2.2.2.2.2.2.2.2.2.2.2.2.2.2.2.2.2.2.2.2.1 x21.2.2.2.2.2.2.2.2.2.2.2.2.2.2.2.2.2.2.2.2.2.1 x21.2.2.2.2.2.2.2.2.2.2.2.2.2.2.2.2.2.2.2.2.2.2.1 x21.2.2.2.2.2.2.2.2.2.2.2.2.2.2.2.2.2.2.2.2.2.2.2.1) fun x23=>
           some (x23.2.1,x23.2.2.1,x23.2.2.2.1,x23.2.2.2.2.1,x23.2.2.2.2.2.1,x23.2.2.2.2.2.2.1,x23.2.2.2.2.2.2.2.1,x23.2.2.2.2.2.2.2.2.1,x23.2.2.2.2.2.2.2.2.2.1,x23.2.2.2.2.2.2.2.2.2.2.1,x23.2.2.2.2.2.2.2.2.2.2.2,x23.1)
        | .inr x24=>
         some (x24.2.1,x24.2.2.1,[],x24.2.2.2.1,x24.2.2.2.2.1,x24.2.2.2.2.2.1,x24.2.2.2.2.2.2.1,x24.2.2.2.2.2.2.2.1,x24.2.2.2.2.2.2.2.2.1,x24.2.2.2.2.2.2.2.2.2,[],x24.1)
      | .inr x25=>
       match x25 with
       | .inl x26=>
        some (x26.2.1,x26.2.2.1,[],x26.2.2.2.1,x26.2.2.2.2.1,x26.2.2.2.2.2.1,x26.2.2.2.2.2.2.1,x26.2.2.2.2.2.2.2.1,x26.2.2.2.2.2.2.2.2.1,x26.2.2.2.2.2.2.2.2.2,[],x26.1)
       | .inr x27=>
        Option.bind (Ev.Seat.words_line κ x27.2.2.2.2.2.2.2.2.2.2.2.1 x27.2.2.2.2.2.2.2.2.2.2.2.2.1 x27.2.2.2.2.2.2.2.2.2.2.2.2.2.1 x27.2.2.2.2.2.2.2.2.2.2.2.2.2.2.1 x27.2.2.2.2.2.2.2.2.2.2.2.2.2.2.2.1 x27.2.2.2.2.2.2.2.2.2.2.2.2.2.2.2.2.1 x27.2.2.2.2.2.2.2.2.2.2.2.2.2.2.2.2.2.1 x27.2.2.2.2.2.2.2.2.2.2.2.2.2.2.2.2.2.2.1 x27.2.2.2.2.2.2.2.2.2.2.2.2.2.2.2.2.2.2.2.1 x27.2.2.2.2.2.2.2.2.2.2.2.2.2.2.2.2.2.2.2.2.1 x27.2.2.2.2.2.2.2.2.2.2.2.2.2.2.2.2.2.2.2.2.2) fun x28=>
         Option.bind (Ev.Seat.words_parse.v49 κ x28.1 x28.2 x27.1 x27.2.1 x27.2.2.1 x27.2.2.2.1 x27.2.2.2.2.1 x27.2.2.2.2.2.1 x27.2.2.2.2.2.2.1 x27.2.2.2.2.2.2.2.1 x27.2.2.2.2.2.2.2.2.1 x27.2.2.2.2.2.2.2.2.2.1 x27.2.2.2.2.2.2.2.2.2.2.1 x27.2.2.2.2.2.2.2.2.2.2.2.1 x27.2.2.2.2.2.2.2.2.2.2.2.2.1 x27.2.2.2.2.2.2.2.2.2.2.2.2.2.1 x27.2.2.2.2.2.2.2.2.2.2.2.2.2.2.1 x27.2.2.2.2.2.2.2.2.2.2.2.2.2.2.2.1 x27.2.2.2.2.2.2.2.2.2.2.2.2.2.2.2.2.1 x27.2.2.2.2.2.2.2.2.2.2.2.2.2.2.2.2.2.1 x27.2.2.2.2.2.2.2.2.2.2.2.2.2.2.2.2.2.2.1 x27.2.2.2.2.2.2.2.2.2.2.2.2.2.2.2.2.2.2.2.1 x27.2.2.2.2.2.2.2.2.2.2.2.2.2.2.2.2.2.2.2.2.1 x27.2.2.2.2.2.2.2.2.2.2.2.2.2.2.2.2.2.2.2.2.2) fun x29=>
          some (x29.2.1,x29.2.2.1,x29.2.2.2.1,x29.2.2.2.2.1,x29.2.2.2.2.2.1,x29.2.2.2.2.2.2.1,x29.2.2.2.2.2.2.2.1,x29.2.2.2.2.2.2.2.2.1,x29.2.2.2.2.2.2.2.2.2.1,x29.2.2.2.2.2.2.2.2.2.2.1,x29.2.2.2.2.2.2.2.2.2.2.2,x29.1)
    | .inr x30=>
     match x30 with
     | .inl x31=>
      Option.bind (Ev.Seat.words_parse.v3 κ a0 a1 (0:Int) (0:Int) [] (ByteArray.mk (List.toArray [])) (0:Int) Bool.false Bool.false (ByteArray.mk (List.toArray [])) (0:Int) (0:Int) [] a0 (0:Int) [] (ByteArray.mk (List.toArray [])) (0:Int) Bool.false Bool.false (ByteArray.mk (List.toArray [])) (0:Int) (0:Int) [] x31) fun x32=>
       match x32 with
       | .inl x33=>
        Option.bind (unc25 (Ev.Seat.words_parse.v14 κ) x33) fun x34=>
         match x34 with
         | .inl x35=>
          Option.bind (unc25 (Ev.Seat.words_parse.v25 κ) x35) fun x36=>
           match x36 with
           | .inl x37=>
            Option.bind (unc25 (Ev.Seat.words_parse.v34 κ) x37) fun x38=>
             match x38 with
             | .inl x39=>
              Option.bind (Ev.Seat.words_line κ x39.2.2.2.2.2.2.2.2.2.2.2.2.2.1 x39.2.2.2.2.2.2.2.2.2.2.2.2.2.2.1 x39.2.2.2.2.2.2.2.2.2.2.2.2.2.2.2.1 x39.2.2.2.2.2.2.2.2.2.2.2.2.2.2.2.2.1 x39.2.2.2.2.2.2.2.2.2.2.2.2.2.2.2.2.2.1 x39.2.2.2.2.2.2.2.2.2.2.2.2.2.2.2.2.2.2.1 x39.2.2.2.2.2.2.2.2.2.2.2.2.2.2.2.2.2.2.2.1 x39.2.2.2.2.2.2.2.2.2.2.2.2.2.2.2.2.2.2.2.2.1 x39.2.2.2.2.2.2.2.2.2.2.2.2.2.2.2.2.2.2.2.2.2.1 x39.2.2.2.2.2.2.2.2.2.2.2.2.2.2.2.2.2.2.2.2.2.2.1 x39.2.2.2.2.2.2.2.2.2.2.2.2.2.2.2.2.2.2.2.2.2.2.2.1) fun x40=>
               Option.bind (Ev.Seat.words_parse.v49 κ x40.1 x40.2 x39.2.2.1 x39.2.2.2.1 x39.2.2.2.2.1 x39.2.2.2.2.2.1 x39.2.2.2.2.2.2.1 x39.2.2.2.2.2.2.2.1 x39.2.2.2.2.2.2.2.2.1 x39.2.2.2.2.2.2.2.2.2.1 x39.2.2.2.2.2.2.2.2.2.2.1 x39.2.2.2.2.2.2.2.2.2.2.2.1 x39.2.2.2.2.2.2.2.2.2.2.2.2.1 x39.2.2.2.2.2.2.2.2.2.2.2.2.2.1 x39.2.2.2.2.2.2.2.2.2.2.2.2.2.2.1 x39.2.2.2.2.2.2.2.2.2.2.2.2.2.2.2.1 x39.2.2.2.2.2.2.2.2.2.2.2.2.2.2.2.2.1 x39.2.2.2.2.2.2.2.2.2.2.2.2.2.2.2.2.2.1 x39.2.2.2.2.2.2.2.2.2.2.2.2.2.2.2.2.2.2.1 x39.2.2.2.2.2.2.2.2.2.2.2.2.2.2.2.2.2.2.2.1 x39.2.2.2.2.2.2.2.2.2.2.2.2.2.2.2.2.2.2.2.2.1 x39.2.2.2.2.2.2.2.2.2.2.2.2.2.2.2.2.2.2.2.2.2.1 x39.2.2.2.2.2.2.2.2.2.2.2.2.2.2.2.2.2.2.2.2.2.2.1 x39.2.2.2.2.2.2.2.2.2.2.2.2.2.2.2.2.2.2.2.2.2.2.2.1) fun x41=>
                some (x41.2.1,x41.2.2.1,x41.2.2.2.1,x41.2.2.2.2.1,x41.2.2.2.2.2.1,x41.2.2.2.2.2.2.1,x41.2.2.2.2.2.2.2.1,x41.2.2.2.2.2.2.2.2.1,x41.2.2.2.2.2.2.2.2.2.1,x41.2.2.2.2.2.2.2.2.2.2.1,x41.2.2.2.2.2.2.2.2.2.2.2,x41.1)
             | .inr x42=>
              some (x42.2.1,x42.2.2.1,[],x42.2.2.2.1,x42.2.2.2.2.1,x42.2.2.2.2.2.1,x42.2.2.2.2.2.2.1,x42.2.2.2.2.2.2.2.1,x42.2.2.2.2.2.2.2.2.1,x42.2.2.2.2.2.2.2.2.2,[],x42.1)
           | .inr x43=>
            some (x43.2.1,x43.2.2.1,[],x43.2.2.2.1,x43.2.2.2.2.1,x43.2.2.2.2.2.1,x43.2.2.2.2.2.2.1,x43.2.2.2.2.2.2.2.1,x43.2.2.2.2.2.2.2.2.1,x43.2.2.2.2.2.2.2.2.2,[],x43.1)
         | .inr x44=>
          some (x44.2.1,x44.2.2.1,[],x44.2.2.2.1,x44.2.2.2.2.1,x44.2.2.2.2.2.1,x44.2.2.2.2.2.2.1,x44.2.2.2.2.2.2.2.1,x44.2.2.2.2.2.2.2.2.1,x44.2.2.2.2.2.2.2.2.2,[],x44.1)
       | .inr x45=>
        some (x45.2.1,x45.2.2.1,[],x45.2.2.2.1,x45.2.2.2.2.1,x45.2.2.2.2.2.1,x45.2.2.2.2.2.2.1,x45.2.2.2.2.2.2.2.1,x45.2.2.2.2.2.2.2.2.1,x45.2.2.2.2.2.2.2.2.2,[],x45.1)
     | .inr x46=>
      match x46 with
      | .inl x47=>
       Option.bind (Ev.Seat.words_parse.v4 κ a0 a1 (0:Int) (0:Int) [] (ByteArray.mk (List.toArray [])) (0:Int) Bool.false Bool.false (ByteArray.mk (List.toArray [])) (0:Int) (0:Int) [] a0 (0:Int) [] (ByteArray.mk (List.toArray [])) (0:Int) Bool.false Bool.false (ByteArray.mk (List.toArray [])) (0:Int) (0:Int) [] x47.1 x47.2) fun x48=>
        match x48 with
        | .inl x49=>
         Option.bind (unc26 (Ev.Seat.words_parse.v15 κ) x49) fun x50=>
          match x50 with
          | .inl x51=>
           Option.bind (unc26 (Ev.Seat.words_parse.v26 κ) x51) fun x52=>
            match x52 with
            | .inl x53=>
             Option.bind (unc26 (Ev.Seat.words_parse.v35 κ) x53) fun x54=>
              match x54 with
              | .inl x55=>
               Option.bind (Ev.Seat.words_line κ x55.2.2.2.2.2.2.2.2.2.2.2.2.2.1 x55.2.2.2.2.2.2.2.2.2.2.2.2.2.2.1 x55.2.2.2.2.2.2.2.2.2.2.2.2.2.2.2.1 x55.2.2.2.2.2.2.2.2.2.2.2.2.2.2.2.2.1 x55.2.2.2.2.2.2.2.2.2.2.2.2.2.2.2.2.2.1 x55.2.2.2.2.2.2.2.2.2.2.2.2.2.2.2.2.2.2.1 x55.2.2.2.2.2.2.2.2.2.2.2.2.2.2.2.2.2.2.2.1 x55.2.2.2.2.2.2.2.2.2.2.2.2.2.2.2.2.2.2.2.2.1 x55.2.2.2.2.2.2.2.2.2.2.2.2.2.2.2.2.2.2.2.2.2.1 x55.2.2.2.2.2.2.2.2.2.2.2.2.2.2.2.2.2.2.2.2.2.2.1 x55.2.2.2.2.2.2.2.2.2.2.2.2.2.2.2.2.2.2.2.2.2.2.2.1) fun x56=>
                Option.bind (Ev.Seat.words_parse.v49 κ x56.1 x56.2 x55.2.2.1 x55.2.2.2.1 x55.2.2.2.2.1 x55.2.2.2.2.2.1 x55.2.2.2.2.2.2.1 x55.2.2.2.2.2.2.2.1 x55.2.2.2.2.2.2.2.2.1 x55.2.2.2.2.2.2.2.2.2.1 x55.2.2.2.2.2.2.2.2.2.2.1 x55.2.2.2.2.2.2.2.2.2.2.2.1 x55.2.2.2.2.2.2.2.2.2.2.2.2.1 x55.2.2.2.2.2.2.2.2.2.2.2.2.2.1 x55.2.2.2.2.2.2.2.2.2.2.2.2.2.2.1 x55.2.2.2.2.2.2.2.2.2.2.2.2.2.2.2.1 x55.2.2.2.2.2.2.2.2.2.2.2.2.2.2.2.2.1 x55.2.2.2.2.2.2.2.2.2.2.2.2.2.2.2.2.2.1 x55.2.2.2.2.2.2.2.2.2.2.2.2.2.2.2.2.2.2.1 x55.2.2.2.2.2.2.2.2.2.2.2.2.2.2.2.2.2.2.2.1 x55.2.2.2.2.2.2.2.2.2.2.2.2.2.2.2.2.2.2.2.2.1 x55.2.2.2.2.2.2.2.2.2.2.2.2.2.2.2.2.2.2.2.2.2.1 x55.2.2.2.2.2.2.2.2.2.2.2.2.2.2.2.2.2.2.2.2.2.2.1 x55.2.2.2.2.2.2.2.2.2.2.2.2.2.2.2.2.2.2.2.2.2.2.2.1) fun x57=>
                 some (x57.2.1,x57.2.2.1,x57.2.2.2.1,x57.2.2.2.2.1,x57.2.2.2.2.2.1,x57.2.2.2.2.2.2.1,x57.2.2.2.2.2.2.2.1,x57.2.2.2.2.2.2.2.2.1,x57.2.2.2.2.2.2.2.2.2.1,x57.2.2.2.2.2.2.2.2.2.2.1,x57.2.2.2.2.2.2.2.2.2.2.2,x57.1)
              | .inr x58=>
               some (x58.2.1,x58.2.2.1,[],x58.2.2.2.1,x58.2.2.2.2.1,x58.2.2.2.2.2.1,x58.2.2.2.2.2.2.1,x58.2.2.2.2.2.2.2.1,x58.2.2.2.2.2.2.2.2.1,x58.2.2.2.2.2.2.2.2.2,[],x58.1)
            | .inr x59=>
             match x59 with
             | .inl x60=>
              some (x60.2.1,x60.2.2.1,[],x60.2.2.2.1,x60.2.2.2.2.1,x60.2.2.2.2.2.1,x60.2.2.2.2.2.2.1,x60.2.2.2.2.2.2.2.1,x60.2.2.2.2.2.2.2.2.1,x60.2.2.2.2.2.2.2.2.2,[],x60.1)
             | .inr x61=>
              Option.bind (Ev.Seat.words_line κ x61.2.2.2.2.2.2.2.2.2.2.2.1 x61.2.2.2.2.2.2.2.2.2.2.2.2.1 x61.2.2.2.2.2.2.2.2.2.2.2.2.2.1 x61.2.2.2.2.2.2.2.2.2.2.2.2.2.2.1 x61.2.2.2.2.2.2.2.2.2.2.2.2.2.2.2.1 x61.2.2.2.2.2.2.2.2.2.2.2.2.2.2.2.2.1 x61.2.2.2.2.2.2.2.2.2.2.2.2.2.2.2.2.2.1 x61.2.2.2.2.2.2.2.2.2.2.2.2.2.2.2.2.2.2.1 x61.2.2.2.2.2.2.2.2.2.2.2.2.2.2.2.2.2.2.2.1 x61.2.2.2.2.2.2.2.2.2.2.2.2.2.2.2.2.2.2.2.2.1 x61.2.2.2.2.2.2.2.2.2.2.2.2.2.2.2.2.2.2.2.2.2) fun x62=>
               Option.bind (Ev.Seat.words_parse.v49 κ x62.1 x62.2 x61.1 x61.2.1 x61.2.2.1 x61.2.2.2.1 x61.2.2.2.2.1 x61.2.2.2.2.2.1 x61.2.2.2.2.2.2.1 x61.2.2.2.2.2.2.2.1 x61.2.2.2.2.2.2.2.2.1 x61.2.2.2.2.2.2.2.2.2.1 x61.2.2.2.2.2.2.2.2.2.2.1 x61.2.2.2.2.2.2.2.2.2.2.2.1 x61.2.2.2.2.2.2.2.2.2.2.2.2.1 x61.2.2.2.2.2.2.2.2.2.2.2.2.2.1 x61.2.2.2.2.2.2.2.2.2.2.2.2.2.2.1 x61.2.2.2.2.2.2.2.2.2.2.2.2.2.2.2.1 x61.2.2.2.2.2.2.2.2.2.2.2.2.2.2.2.2.1 x61.2.2.2.2.2.2.2.2.2.2.2.2.2.2.2.2.2.1 x61.2.2.2.2.2.2.2.2.2.2.2.2.2.2.2.2.2.2.1 x61.2.2.2.2.2.2.2.2.2.2.2.2.2.2.2.2.2.2.2.1 x61.2.2.2.2.2.2.2.2.2.2.2.2.2.2.2.2.2.2.2.2.1 x61.2.2.2.2.2.2.2.2.2.2.2.2.2.2.2.2.2.2.2.2.2) fun x63=>
                some (x63.2.1,x63.2.2.1,x63.2.2.2.1,x63.2.2.2.2.1,x63.2.2.2.2.2.1,x63.2.2.2.2.2.2.1,x63.2.2.2.2.2.2.2.1,x63.2.2.2.2.2.2.2.2.1,x63.2.2.2.2.2.2.2.2.2.1,x63.2.2.2.2.2.2.2.2.2.2.1,x63.2.2.2.2.2.2.2.2.2.2.2,x63.1)
          | .inr x64=>
           some (x64.2.1,x64.2.2.1,[],x64.2.2.2.1,x64.2.2.2.2.1,x64.2.2.2.2.2.1,x64.2.2.2.2.2.2.1,x64.2.2.2.2.2.2.2.1,x64.2.2.2.2.2.2.2.2.1,x64.2.2.2.2.2.2.2.2.2,[],x64.1)
        | .inr x65=>
         some (x65.2.1,x65.2.2.1,[],x65.2.2.2.1,x65.2.2.2.2.1,x65.2.2.2.2.2.1,x65.2.2.2.2.2.2.1,x65.2.2.2.2.2.2.2.1,x65.2.2.2.2.2.2.2.2.1,x65.2.2.2.2.2.2.2.2.2,[],x65.1)
      | .inr x66=>
       match x66 with
       | .inl x67=>
        Option.bind (Ev.Seat.words_parse.v5 κ a0 a1 (0:Int) (0:Int) [] (ByteArray.mk (List.toArray [])) (0:Int) Bool.false Bool.false (ByteArray.mk (List.toArray [])) (0:Int) (0:Int) [] a0 (0:Int) [] (ByteArray.mk (List.toArray [])) (0:Int) Bool.false Bool.false (ByteArray.mk (List.toArray [])) (0:Int) (0:Int) [] x67.1 x67.2) fun x68=>
         match x68 with
         | .inl x69=>
          Option.bind (unc26 (Ev.Seat.words_parse.v16 κ) x69) fun x70=>
           match x70 with
           | .inl x71=>
            Option.bind (unc26 (Ev.Seat.words_parse.v27 κ) x71) fun x72=>
             match x72 with
             | .inl x73=>
              Option.bind (unc26 (Ev.Seat.words_parse.v36 κ) x73) fun x74=>
               match x74 with
               | .inl x75=>
                Option.bind (Ev.Seat.words_line κ x75.2.2.2.2.2.2.2.2.2.2.2.2.2.1 x75.2.2.2.2.2.2.2.2.2.2.2.2.2.2.1 x75.2.2.2.2.2.2.2.2.2.2.2.2.2.2.2.1 x75.2.2.2.2.2.2.2.2.2.2.2.2.2.2.2.2.1 x75.2.2.2.2.2.2.2.2.2.2.2.2.2.2.2.2.2.1 x75.2.2.2.2.2.2.2.2.2.2.2.2.2.2.2.2.2.2.1 x75.2.2.2.2.2.2.2.2.2.2.2.2.2.2.2.2.2.2.2.1 x75.2.2.2.2.2.2.2.2.2.2.2.2.2.2.2.2.2.2.2.2.1 x75.2.2.2.2.2.2.2.2.2.2.2.2.2.2.2.2.2.2.2.2.2.1 x75.2.2.2.2.2.2.2.2.2.2.2.2.2.2.2.2.2.2.2.2.2.2.1 x75.2.2.2.2.2.2.2.2.2.2.2.2.2.2.2.2.2.2.2.2.2.2.2.1) fun x76=>
                 Option.bind (Ev.Seat.words_parse.v49 κ x76.1 x76.2 x75.2.2.1 x75.2.2.2.1 x75.2.2.2.2.1 x75.2.2.2.2.2.1 x75.2.2.2.2.2.2.1 x75.2.2.2.2.2.2.2.1 x75.2.2.2.2.2.2.2.2.1 x75.2.2.2.2.2.2.2.2.2.1 x75.2.2.2.2.2.2.2.2.2.2.1 x75.2.2.2.2.2.2.2.2.2.2.2.1 x75.2.2.2.2.2.2.2.2.2.2.2.2.1 x75.2.2.2.2.2.2.2.2.2.2.2.2.2.1 x75.2.2.2.2.2.2.2.2.2.2.2.2.2.2.1 x75.2.2.2.2.2.2.2.2.2.2.2.2.2.2.2.1 x75.2.2.2.2.2.2.2.2.2.2.2.2.2.2.2.2.1 x75.2.2.2.2.2.2.2.2.2.2.2.2.2.2.2.2.2.1 x75.2.2.2.2.2.2.2.2.2.2.2.2.2.2.2.2.2.2.1 x75.2.2.2.2.2.2.2.2.2.2.2.2.2.2.2.2.2.2.2.1 x75.2.2.2.2.2.2.2.2.2.2.2.2.2.2.2.2.2.2.2.2.1 x75.2.2.2.2.2.2.2.2.2.2.2.2.2.2.2.2.2.2.2.2.2.1 x75.2.2.2.2.2.2.2.2.2.2.2.2.2.2.2.2.2.2.2.2.2.2.1 x75.2.2.2.2.2.2.2.2.2.2.2.2.2.2.2.2.2.2.2.2.2.2.2.1) fun x77=>
                  some (x77.2.1,x77.2.2.1,x77.2.2.2.1,x77.2.2.2.2.1,x77.2.2.2.2.2.1,x77.2.2.2.2.2.2.1,x77.2.2.2.2.2.2.2.1,x77.2.2.2.2.2.2.2.2.1,x77.2.2.2.2.2.2.2.2.2.1,x77.2.2.2.2.2.2.2.2.2.2.1,x77.2.2.2.2.2.2.2.2.2.2.2,x77.1)
               | .inr x78=>
                some (x78.2.1,x78.2.2.1,[],x78.2.2.2.1,x78.2.2.2.2.1,x78.2.2.2.2.2.1,x78.2.2.2.2.2.2.1,x78.2.2.2.2.2.2.2.1,x78.2.2.2.2.2.2.2.2.1,x78.2.2.2.2.2.2.2.2.2,[],x78.1)
             | .inr x79=>
              match x79 with
              | .inl x80=>
               some (x80.2.1,x80.2.2.1,[],x80.2.2.2.1,x80.2.2.2.2.1,x80.2.2.2.2.2.1,x80.2.2.2.2.2.2.1,x80.2.2.2.2.2.2.2.1,x80.2.2.2.2.2.2.2.2.1,x80.2.2.2.2.2.2.2.2.2,[],x80.1)
              | .inr x81=>
               Option.bind (Ev.Seat.words_line κ x81.2.2.2.2.2.2.2.2.2.2.2.1 x81.2.2.2.2.2.2.2.2.2.2.2.2.1 x81.2.2.2.2.2.2.2.2.2.2.2.2.2.1 x81.2.2.2.2.2.2.2.2.2.2.2.2.2.2.1 x81.2.2.2.2.2.2.2.2.2.2.2.2.2.2.2.1 x81.2.2.2.2.2.2.2.2.2.2.2.2.2.2.2.2.1 x81.2.2.2.2.2.2.2.2.2.2.2.2.2.2.2.2.2.1 x81.2.2.2.2.2.2.2.2.2.2.2.2.2.2.2.2.2.2.1 x81.2.2.2.2.2.2.2.2.2.2.2.2.2.2.2.2.2.2.2.1 x81.2.2.2.2.2.2.2.2.2.2.2.2.2.2.2.2.2.2.2.2.1 x81.2.2.2.2.2.2.2.2.2.2.2.2.2.2.2.2.2.2.2.2.2) fun x82=>
                Option.bind (Ev.Seat.words_parse.v49 κ x82.1 x82.2 x81.1 x81.2.1 x81.2.2.1 x81.2.2.2.1 x81.2.2.2.2.1 x81.2.2.2.2.2.1 x81.2.2.2.2.2.2.1 x81.2.2.2.2.2.2.2.1 x81.2.2.2.2.2.2.2.2.1 x81.2.2.2.2.2.2.2.2.2.1 x81.2.2.2.2.2.2.2.2.2.2.1 x81.2.2.2.2.2.2.2.2.2.2.2.1 x81.2.2.2.2.2.2.2.2.2.2.2.2.1 x81.2.2.2.2.2.2.2.2.2.2.2.2.2.1 x81.2.2.2.2.2.2.2.2.2.2.2.2.2.2.1 x81.2.2.2.2.2.2.2.2.2.2.2.2.2.2.2.1 x81.2.2.2.2.2.2.2.2.2.2.2.2.2.2.2.2.1 x81.2.2.2.2.2.2.2.2.2.2.2.2.2.2.2.2.2.1 x81.2.2.2.2.2.2.2.2.2.2.2.2.2.2.2.2.2.2.1 x81.2.2.2.2.2.2.2.2.2.2.2.2.2.2.2.2.2.2.2.1 x81.2.2.2.2.2.2.2.2.2.2.2.2.2.2.2.2.2.2.2.2.1 x81.2.2.2.2.2.2.2.2.2.2.2.2.2.2.2.2.2.2.2.2.2) fun x83=>
                 some (x83.2.1,x83.2.2.1,x83.2.2.2.1,x83.2.2.2.2.1,x83.2.2.2.2.2.1,x83.2.2.2.2.2.2.1,x83.2.2.2.2.2.2.2.1,x83.2.2.2.2.2.2.2.2.1,x83.2.2.2.2.2.2.2.2.2.1,x83.2.2.2.2.2.2.2.2.2.2.1,x83.2.2.2.2.2.2.2.2.2.2.2,x83.1)
           | .inr x84=>
            some (x84.2.1,x84.2.2.1,[],x84.2.2.2.1,x84.2.2.2.2.1,x84.2.2.2.2.2.1,x84.2.2.2.2.2.2.1,x84.2.2.2.2.2.2.2.1,x84.2.2.2.2.2.2.2.2.1,x84.2.2.2.2.2.2.2.2.2,[],x84.1)
         | .inr x85=>
          some (x85.2.1,x85.2.2.1,[],x85.2.2.2.1,x85.2.2.2.2.1,x85.2.2.2.2.2.1,x85.2.2.2.2.2.2.1,x85.2.2.2.2.2.2.2.1,x85.2.2.2.2.2.2.2.2.1,x85.2.2.2.2.2.2.2.2.2,[],x85.1)
       | .inr x86=>
        match x86 with
        | .inl x87=>
         Option.bind (Ev.Seat.words_parse.v6 κ a0 a1 (0:Int) (0:Int) [] (ByteArray.mk (List.toArray [])) (0:Int) Bool.false Bool.false (ByteArray.mk (List.toArray [])) (0:Int) (0:Int) [] a0 (0:Int) [] (ByteArray.mk (List.toArray [])) (0:Int) Bool.false Bool.false (ByteArray.mk (List.toArray [])) (0:Int) (0:Int) [] x87.1 x87.2.1 x87.2.2.1 x87.2.2.2.1 x87.2.2.2.2) fun x88=>
          match x88 with
          | .inl x89=>
           Option.bind (unc29 (Ev.Seat.words_parse.v17 κ) x89) fun x90=>
            match x90 with
            | .inl x91=>
             Option.bind (unc29 (Ev.Seat.words_parse.v28 κ) x91) fun x92=>
              match x92 with
              | .inl x93=>
               Option.bind (unc29 (Ev.Seat.words_parse.v37 κ) x93) fun x94=>
                match x94 with
                | .inl x95=>
                 Option.bind (unc29 (Ev.Seat.words_parse.v45 κ) x95) fun x96=>
                  match x96 with
                  | .inl x97=>
                   Option.bind (Ev.Seat.words_line κ x97.2.2.2.2.2.2.2.2.2.2.2.2.2.1 x97.2.2.2.2.2.2.2.2.2.2.2.2.2.2.1 x97.2.2.2.2.2.2.2.2.2.2.2.2.2.2.2.1 x97.2.2.2.2.2.2.2.2.2.2.2.2.2.2.2.2.1 x97.2.2.2.2.2.2.2.2.2.2.2.2.2.2.2.2.2.1 x97.2.2.2.2.2.2.2.2.2.2.2.2.2.2.2.2.2.2.1 x97.2.2.2.2.2.2.2.2.2.2.2.2.2.2.2.2.2.2.2.1 x97.2.2.2.2.2.2.2.2.2.2.2.2.2.2.2.2.2.2.2.2.1 x97.2.2.2.2.2.2.2.2.2.2.2.2.2.2.2.2.2.2.2.2.2.1 x97.2.2.2.2.2.2.2.2.2.2.2.2.2.2.2.2.2.2.2.2.2.2.1 x97.2.2.2.2.2.2.2.2.2.2.2.2.2.2.2.2.2.2.2.2.2.2.2.1) fun x98=>
                    Option.bind (Ev.Seat.words_parse.v49 κ x98.1 x98.2 x97.2.2.1 x97.2.2.2.1 x97.2.2.2.2.1 x97.2.2.2.2.2.1 x97.2.2.2.2.2.2.1 x97.2.2.2.2.2.2.2.1 x97.2.2.2.2.2.2.2.2.1 x97.2.2.2.2.2.2.2.2.2.1 x97.2.2.2.2.2.2.2.2.2.2.1 x97.2.2.2.2.2.2.2.2.2.2.2.1 x97.2.2.2.2.2.2.2.2.2.2.2.2.1 x97.2.2.2.2.2.2.2.2.2.2.2.2.2.1 x97.2.2.2.2.2.2.2.2.2.2.2.2.2.2.1 x97.2.2.2.2.2.2.2.2.2.2.2.2.2.2.2.1 x97.2.2.2.2.2.2.2.2.2.2.2.2.2.2.2.2.1 x97.2.2.2.2.2.2.2.2.2.2.2.2.2.2.2.2.2.1 x97.2.2.2.2.2.2.2.2.2.2.2.2.2.2.2.2.2.2.1 x97.2.2.2.2.2.2.2.2.2.2.2.2.2.2.2.2.2.2.2.1 x97.2.2.2.2.2.2.2.2.2.2.2.2.2.2.2.2.2.2.2.2.1 x97.2.2.2.2.2.2.2.2.2.2.2.2.2.2.2.2.2.2.2.2.2.1 x97.2.2.2.2.2.2.2.2.2.2.2.2.2.2.2.2.2.2.2.2.2.2.1 x97.2.2.2.2.2.2.2.2.2.2.2.2.2.2.2.2.2.2.2.2.2.2.2.1) fun x99=>
                     some (x99.2.1,x99.2.2.1,x99.2.2.2.1,x99.2.2.2.2.1,x99.2.2.2.2.2.1,x99.2.2.2.2.2.2.1,x99.2.2.2.2.2.2.2.1,x99.2.2.2.2.2.2.2.2.1,x99.2.2.2.2.2.2.2.2.2.1,x99.2.2.2.2.2.2.2.2.2.2.1,x99.2.2.2.2.2.2.2.2.2.2.2,x99.1)
                  | .inr x100=>
                   some (x100.2.1,x100.2.2.1,[],x100.2.2.2.1,x100.2.2.2.2.1,x100.2.2.2.2.2.1,x100.2.2.2.2.2.2.1,x100.2.2.2.2.2.2.2.1,x100.2.2.2.2.2.2.2.2.1,x100.2.2.2.2.2.2.2.2.2,[],x100.1)
                | .inr x101=>
                 some (x101.2.1,x101.2.2.1,[],x101.2.2.2.1,x101.2.2.2.2.1,x101.2.2.2.2.2.1,x101.2.2.2.2.2.2.1,x101.2.2.2.2.2.2.2.1,x101.2.2.2.2.2.2.2.2.1,x101.2.2.2.2.2.2.2.2.2,[],x101.1)
              | .inr x102=>
               some (x102.2.1,x102.2.2.1,[],x102.2.2.2.1,x102.2.2.2.2.1,x102.2.2.2.2.2.1,x102.2.2.2.2.2.2.1,x102.2.2.2.2.2.2.2.1,x102.2.2.2.2.2.2.2.2.1,x102.2.2.2.2.2.2.2.2.2,[],x102.1)
            | .inr x103=>
             some (x103.2.1,x103.2.2.1,[],x103.2.2.2.1,x103.2.2.2.2.1,x103.2.2.2.2.2.1,x103.2.2.2.2.2.2.1,x103.2.2.2.2.2.2.2.1,x103.2.2.2.2.2.2.2.2.1,x103.2.2.2.2.2.2.2.2.2,[],x103.1)
          | .inr x104=>
           some (x104.2.1,x104.2.2.1,[],x104.2.2.2.1,x104.2.2.2.2.1,x104.2.2.2.2.2.1,x104.2.2.2.2.2.2.1,x104.2.2.2.2.2.2.2.1,x104.2.2.2.2.2.2.2.2.1,x104.2.2.2.2.2.2.2.2.2,[],x104.1)
        | .inr x105=>
         match x105 with
         | .inl x106=>
          Option.bind (Ev.Seat.words_parse.v7 κ a0 a1 (0:Int) (0:Int) [] (ByteArray.mk (List.toArray [])) (0:Int) Bool.false Bool.false (ByteArray.mk (List.toArray [])) (0:Int) (0:Int) [] a0 (0:Int) [] (ByteArray.mk (List.toArray [])) (0:Int) Bool.false Bool.false (ByteArray.mk (List.toArray [])) (0:Int) (0:Int) [] x106) fun x107=>
           match x107 with
           | .inl x108=>
            Option.bind (unc25 (Ev.Seat.words_parse.v18 κ) x108) fun x109=>
             match x109 with
             | .inl x110=>
              Option.bind (unc25 (Ev.Seat.words_parse.v29 κ) x110) fun x111=>
               match x111 with
               | .inl x112=>
                Option.bind (Ev.Seat.words_line κ x112.2.2.2.2.2.2.2.2.2.2.2.2.2.1 x112.2.2.2.2.2.2.2.2.2.2.2.2.2.2.1 x112.2.2.2.2.2.2.2.2.2.2.2.2.2.2.2.1 x112.2.2.2.2.2.2.2.2.2.2.2.2.2.2.2.2.1 x112.2.2.2.2.2.2.2.2.2.2.2.2.2.2.2.2.2.1 x112.2.2.2.2.2.2.2.2.2.2.2.2.2.2.2.2.2.2.1 x112.2.2.2.2.2.2.2.2.2.2.2.2.2.2.2.2.2.2.2.1 x112.2.2.2.2.2.2.2.2.2.2.2.2.2.2.2.2.2.2.2.2.1 x112.2.2.2.2.2.2.2.2.2.2.2.2.2.2.2.2.2.2.2.2.2.1 x112.2.2.2.2.2.2.2.2.2.2.2.2.2.2.2.2.2.2.2.2.2.2.1 x112.2.2.2.2.2.2.2.2.2.2.2.2.2.2.2.2.2.2.2.2.2.2.2.1) fun x113=>
                 Option.bind (Ev.Seat.words_parse.v49 κ x113.1 x113.2 x112.2.2.1 x112.2.2.2.1 x112.2.2.2.2.1 x112.2.2.2.2.2.1 x112.2.2.2.2.2.2.1 x112.2.2.2.2.2.2.2.1 x112.2.2.2.2.2.2.2.2.1 x112.2.2.2.2.2.2.2.2.2.1 x112.2.2.2.2.2.2.2.2.2.2.1 x112.2.2.2.2.2.2.2.2.2.2.2.1 x112.2.2.2.2.2.2.2.2.2.2.2.2.1 x112.2.2.2.2.2.2.2.2.2.2.2.2.2.1 x112.2.2.2.2.2.2.2.2.2.2.2.2.2.2.1 x112.2.2.2.2.2.2.2.2.2.2.2.2.2.2.2.1 x112.2.2.2.2.2.2.2.2.2.2.2.2.2.2.2.2.1 x112.2.2.2.2.2.2.2.2.2.2.2.2.2.2.2.2.2.1 x112.2.2.2.2.2.2.2.2.2.2.2.2.2.2.2.2.2.2.1 x112.2.2.2.2.2.2.2.2.2.2.2.2.2.2.2.2.2.2.2.1 x112.2.2.2.2.2.2.2.2.2.2.2.2.2.2.2.2.2.2.2.2.1 x112.2.2.2.2.2.2.2.2.2.2.2.2.2.2.2.2.2.2.2.2.2.1 x112.2.2.2.2.2.2.2.2.2.2.2.2.2.2.2.2.2.2.2.2.2.2.1 x112.2.2.2.2.2.2.2.2.2.2.2.2.2.2.2.2.2.2.2.2.2.2.2.1) fun x114=>
                  some (x114.2.1,x114.2.2.1,x114.2.2.2.1,x114.2.2.2.2.1,x114.2.2.2.2.2.1,x114.2.2.2.2.2.2.1,x114.2.2.2.2.2.2.2.1,x114.2.2.2.2.2.2.2.2.1,x114.2.2.2.2.2.2.2.2.2.1,x114.2.2.2.2.2.2.2.2.2.2.1,x114.2.2.2.2.2.2.2.2.2.2.2,x114.1)
               | .inr x115=>
                some (x115.2.1,x115.2.2.1,[],x115.2.2.2.1,x115.2.2.2.2.1,x115.2.2.2.2.2.1,x115.2.2.2.2.2.2.1,x115.2.2.2.2.2.2.2.1,x115.2.2.2.2.2.2.2.2.1,x115.2.2.2.2.2.2.2.2.2,[],x115.1)
             | .inr x116=>
              match x116 with
              | .inl x117=>
               some (x117.2.1,x117.2.2.1,[],x117.2.2.2.1,x117.2.2.2.2.1,x117.2.2.2.2.2.1,x117.2.2.2.2.2.2.1,x117.2.2.2.2.2.2.2.1,x117.2.2.2.2.2.2.2.2.1,x117.2.2.2.2.2.2.2.2.2,[],x117.1)
              | .inr x118=>
               Option.bind (Ev.Seat.words_line κ x118.2.2.2.2.2.2.2.2.2.2.2.1 x118.2.2.2.2.2.2.2.2.2.2.2.2.1 x118.2.2.2.2.2.2.2.2.2.2.2.2.2.1 x118.2.2.2.2.2.2.2.2.2.2.2.2.2.2.1 x118.2.2.2.2.2.2.2.2.2.2.2.2.2.2.2.1 x118.2.2.2.2.2.2.2.2.2.2.2.2.2.2.2.2.1 x118.2.2.2.2.2.2.2.2.2.2.2.2.2.2.2.2.2.1 x118.2.2.2.2.2.2.2.2.2.2.2.2.2.2.2.2.2.2.1 x118.2.2.2.2.2.2.2.2.2.2.2.2.2.2.2.2.2.2.2.1 x118.2.2.2.2.2.2.2.2.2.2.2.2.2.2.2.2.2.2.2.2.1 x118.2.2.2.2.2.2.2.2.2.2.2.2.2.2.2.2.2.2.2.2.2) fun x119=>
                Option.bind (Ev.Seat.words_parse.v49 κ x119.1 x119.2 x118.1 x118.2.1 x118.2.2.1 x118.2.2.2.1 x118.2.2.2.2.1 x118.2.2.2.2.2.1 x118.2.2.2.2.2.2.1 x118.2.2.2.2.2.2.2.1 x118.2.2.2.2.2.2.2.2.1 x118.2.2.2.2.2.2.2.2.2.1 x118.2.2.2.2.2.2.2.2.2.2.1 x118.2.2.2.2.2.2.2.2.2.2.2.1 x118.2.2.2.2.2.2.2.2.2.2.2.2.1 x118.2.2.2.2.2.2.2.2.2.2.2.2.2.1 x118.2.2.2.2.2.2.2.2.2.2.2.2.2.2.1 x118.2.2.2.2.2.2.2.2.2.2.2.2.2.2.2.1 x118.2.2.2.2.2.2.2.2.2.2.2.2.2.2.2.2.1 x118.2.2.2.2.2.2.2.2.2.2.2.2.2.2.2.2.2.1 x118.2.2.2.2.2.2.2.2.2.2.2.2.2.2.2.2.2.2.1 x118.2.2.2.2.2.2.2.2.2.2.2.2.2.2.2.2.2.2.2.1 x118.2.2.2.2.2.2.2.2.2.2.2.2.2.2.2.2.2.2.2.2.1 x118.2.2.2.2.2.2.2.2.2.2.2.2.2.2.2.2.2.2.2.2.2) fun x120=>
                 some (x120.2.1,x120.2.2.1,x120.2.2.2.1,x120.2.2.2.2.1,x120.2.2.2.2.2.1,x120.2.2.2.2.2.2.1,x120.2.2.2.2.2.2.2.1,x120.2.2.2.2.2.2.2.2.1,x120.2.2.2.2.2.2.2.2.2.1,x120.2.2.2.2.2.2.2.2.2.2.1,x120.2.2.2.2.2.2.2.2.2.2.2,x120.1)
           | .inr x121=>
            some (x121.2.1,x121.2.2.1,[],x121.2.2.2.1,x121.2.2.2.2.1,x121.2.2.2.2.2.1,x121.2.2.2.2.2.2.1,x121.2.2.2.2.2.2.2.1,x121.2.2.2.2.2.2.2.2.1,x121.2.2.2.2.2.2.2.2.2,[],x121.1)
         | .inr x122=>
          match x122 with
          | .inl x123=>
           Option.bind (Ev.Seat.words_parse.v8 κ a0 a1 (0:Int) (0:Int) [] (ByteArray.mk (List.toArray [])) (0:Int) Bool.false Bool.false (ByteArray.mk (List.toArray [])) (0:Int) (0:Int) [] a0 (0:Int) [] (ByteArray.mk (List.toArray [])) (0:Int) Bool.false Bool.false (ByteArray.mk (List.toArray [])) (0:Int) (0:Int) [] x123) fun x124=>
            match x124 with
            | .inl x125=>
             Option.bind (unc25 (Ev.Seat.words_parse.v19 κ) x125) fun x126=>
              match x126 with
              | .inl x127=>
               Option.bind (unc25 (Ev.Seat.words_parse.v30 κ) x127) fun x128=>
                match x128 with
                | .inl x129=>
                 Option.bind (Ev.Seat.words_line κ x129.2.2.2.2.2.2.2.2.2.2.2.2.2.1 x129.2.2.2.2.2.2.2.2.2.2.2.2.2.2.1 x129.2.2.2.2.2.2.2.2.2.2.2.2.2.2.2.1 x129.2.2.2.2.2.2.2.2.2.2.2.2.2.2.2.2.1 x129.2.2.2.2.2.2.2.2.2.2.2.2.2.2.2.2.2.1 x129.2.2.2.2.2.2.2.2.2.2.2.2.2.2.2.2.2.2.1 x129.2.2.2.2.2.2.2.2.2.2.2.2.2.2.2.2.2.2.2.1 x129.2.2.2.2.2.2.2.2.2.2.2.2.2.2.2.2.2.2.2.2.1 x129.2.2.2.2.2.2.2.2.2.2.2.2.2.2.2.2.2.2.2.2.2.1 x129.2.2.2.2.2.2.2.2.2.2.2.2.2.2.2.2.2.2.2.2.2.2.1 x129.2.2.2.2.2.2.2.2.2.2.2.2.2.2.2.2.2.2.2.2.2.2.2.1) fun x130=>
                  Option.bind (Ev.Seat.words_parse.v49 κ x130.1 x130.2 x129.2.2.1 x129.2.2.2.1 x129.2.2.2.2.1 x129.2.2.2.2.2.1 x129.2.2.2.2.2.2.1 x129.2.2.2.2.2.2.2.1 x129.2.2.2.2.2.2.2.2.1 x129.2.2.2.2.2.2.2.2.2.1 x129.2.2.2.2.2.2.2.2.2.2.1 x129.2.2.2.2.2.2.2.2.2.2.2.1 x129.2.2.2.2.2.2.2.2.2.2.2.2.1 x129.2.2.2.2.2.2.2.2.2.2.2.2.2.1 x129.2.2.2.2.2.2.2.2.2.2.2.2.2.2.1 x129.2.2.2.2.2.2.2.2.2.2.2.2.2.2.2.1 x129.2.2.2.2.2.2.2.2.2.2.2.2.2.2.2.2.1 x129.2.2.2.2.2.2.2.2.2.2.2.2.2.2.2.2.2.1 x129.2.2.2.2.2.2.2.2.2.2.2.2.2.2.2.2.2.2.1 x129.2.2.2.2.2.2.2.2.2.2.2.2.2.2.2.2.2.2.2.1 x129.2.2.2.2.2.2.2.2.2.2.2.2.2.2.2.2.2.2.2.2.1 x129.2.2.2.2.2.2.2.2.2.2.2.2.2.2.2.2.2.2.2.2.2.1 x129.2.2.2.2.2.2.2.2.2.2.2.2.2.2.2.2.2.2.2.2.2.2.1 x129.2.2.2.2.2.2.2.2.2.2.2.2.2.2.2.2.2.2.2.2.2.2.2.1) fun x131=>
                   some (x131.2.1,x131.2.2.1,x131.2.2.2.1,x131.2.2.2.2.1,x131.2.2.2.2.2.1,x131.2.2.2.2.2.2.1,x131.2.2.2.2.2.2.2.1,x131.2.2.2.2.2.2.2.2.1,x131.2.2.2.2.2.2.2.2.2.1,x131.2.2.2.2.2.2.2.2.2.2.1,x131.2.2.2.2.2.2.2.2.2.2.2,x131.1)
                | .inr x132=>
                 some (x132.2.1,x132.2.2.1,[],x132.2.2.2.1,x132.2.2.2.2.1,x132.2.2.2.2.2.1,x132.2.2.2.2.2.2.1,x132.2.2.2.2.2.2.2.1,x132.2.2.2.2.2.2.2.2.1,x132.2.2.2.2.2.2.2.2.2,[],x132.1)
              | .inr x133=>
               match x133 with
               | .inl x134=>
                some (x134.2.1,x134.2.2.1,[],x134.2.2.2.1,x134.2.2.2.2.1,x134.2.2.2.2.2.1,x134.2.2.2.2.2.2.1,x134.2.2.2.2.2.2.2.1,x134.2.2.2.2.2.2.2.2.1,x134.2.2.2.2.2.2.2.2.2,[],x134.1)
               | .inr x135=>
                Option.bind (Ev.Seat.words_line κ x135.2.2.2.2.2.2.2.2.2.2.2.1 x135.2.2.2.2.2.2.2.2.2.2.2.2.1 x135.2.2.2.2.2.2.2.2.2.2.2.2.2.1 x135.2.2.2.2.2.2.2.2.2.2.2.2.2.2.1 x135.2.2.2.2.2.2.2.2.2.2.2.2.2.2.2.1 x135.2.2.2.2.2.2.2.2.2.2.2.2.2.2.2.2.1 x135.2.2.2.2.2.2.2.2.2.2.2.2.2.2.2.2.2.1 x135.2.2.2.2.2.2.2.2.2.2.2.2.2.2.2.2.2.2.1 x135.2.2.2.2.2.2.2.2.2.2.2.2.2.2.2.2.2.2.2.1 x135.2.2.2.2.2.2.2.2.2.2.2.2.2.2.2.2.2.2.2.2.1 x135.2.2.2.2.2.2.2.2.2.2.2.2.2.2.2.2.2.2.2.2.2) fun x136=>
                 Option.bind (Ev.Seat.words_parse.v49 κ x136.1 x136.2 x135.1 x135.2.1 x135.2.2.1 x135.2.2.2.1 x135.2.2.2.2.1 x135.2.2.2.2.2.1 x135.2.2.2.2.2.2.1 x135.2.2.2.2.2.2.2.1 x135.2.2.2.2.2.2.2.2.1 x135.2.2.2.2.2.2.2.2.2.1 x135.2.2.2.2.2.2.2.2.2.2.1 x135.2.2.2.2.2.2.2.2.2.2.2.1 x135.2.2.2.2.2.2.2.2.2.2.2.2.1 x135.2.2.2.2.2.2.2.2.2.2.2.2.2.1 x135.2.2.2.2.2.2.2.2.2.2.2.2.2.2.1 x135.2.2.2.2.2.2.2.2.2.2.2.2.2.2.2.1 x135.2.2.2.2.2.2.2.2.2.2.2.2.2.2.2.2.1 x135.2.2.2.2.2.2.2.2.2.2.2.2.2.2.2.2.2.1 x135.2.2.2.2.2.2.2.2.2.2.2.2.2.2.2.2.2.2.1 x135.2.2.2.2.2.2.2.2.2.2.2.2.2.2.2.2.2.2.2.1 x135.2.2.2.2.2.2.2.2.2.2.2.2.2.2.2.2.2.2.2.2.1 x135.2.2.2.2.2.2.2.2.2.2.2.2.2.2.2.2.2.2.2.2.2) fun x137=>
                  some (x137.2.1,x137.2.2.1,x137.2.2.2.1,x137.2.2.2.2.1,x137.2.2.2.2.2.1,x137.2.2.2.2.2.2.1,x137.2.2.2.2.2.2.2.1,x137.2.2.2.2.2.2.2.2.1,x137.2.2.2.2.2.2.2.2.2.1,x137.2.2.2.2.2.2.2.2.2.2.1,x137.2.2.2.2.2.2.2.2.2.2.2,x137.1)
            | .inr x138=>
             some (x138.2.1,x138.2.2.1,[],x138.2.2.2.1,x138.2.2.2.2.1,x138.2.2.2.2.2.1,x138.2.2.2.2.2.2.1,x138.2.2.2.2.2.2.2.1,x138.2.2.2.2.2.2.2.2.1,x138.2.2.2.2.2.2.2.2.2,[],x138.1)
          | .inr x139=>
           match x139 with
           | .inl x140=>
            Option.bind (Ev.Seat.words_parse.v9 κ a0 a1 (0:Int) (0:Int) [] (ByteArray.mk (List.toArray [])) (0:Int) Bool.false Bool.false (ByteArray.mk (List.toArray [])) (0:Int) (0:Int) [] a0 (0:Int) [] (ByteArray.mk (List.toArray [])) (0:Int) Bool.false Bool.false (ByteArray.mk (List.toArray [])) (0:Int) (0:Int) [] x140) fun x141=>
             match x141 with
             | .inl x142=>
              Option.bind (unc25 (Ev.Seat.words_parse.v20 κ) x142) fun x143=>
               match x143 with
               | .inl x144=>
                Option.bind (unc25 (Ev.Seat.words_parse.v31 κ) x144) fun x145=>
                 match x145 with
                 | .inl x146=>
                  Option.bind (Ev.Seat.words_line κ x146.2.2.2.2.2.2.2.2.2.2.2.2.2.1 x146.2.2.2.2.2.2.2.2.2.2.2.2.2.2.1 x146.2.2.2.2.2.2.2.2.2.2.2.2.2.2.2.1 x146.2.2.2.2.2.2.2.2.2.2.2.2.2.2.2.2.1 x146.2.2.2.2.2.2.2.2.2.2.2.2.2.2.2.2.2.1 x146.2.2.2.2.2.2.2.2.2.2.2.2.2.2.2.2.2.2.1 x146.2.2.2.2.2.2.2.2.2.2.2.2.2.2.2.2.2.2.2.1 x146.2.2.2.2.2.2.2.2.2.2.2.2.2.2.2.2.2.2.2.2.1 x146.2.2.2.2.2.2.2.2.2.2.2.2.2.2.2.2.2.2.2.2.2.1 x146.2.2.2.2.2.2.2.2.2.2.2.2.2.2.2.2.2.2.2.2.2.2.1 x146.2.2.2.2.2.2.2.2.2.2.2.2.2.2.2.2.2.2.2.2.2.2.2.1) fun x147=>
                   Option.bind (Ev.Seat.words_parse.v49 κ x147.1 x147.2 x146.2.2.1 x146.2.2.2.1 x146.2.2.2.2.1 x146.2.2.2.2.2.1 x146.2.2.2.2.2.2.1 x146.2.2.2.2.2.2.2.1 x146.2.2.2.2.2.2.2.2.1 x146.2.2.2.2.2.2.2.2.2.1 x146.2.2.2.2.2.2.2.2.2.2.1 x146.2.2.2.2.2.2.2.2.2.2.2.1 x146.2.2.2.2.2.2.2.2.2.2.2.2.1 x146.2.2.2.2.2.2.2.2.2.2.2.2.2.1 x146.2.2.2.2.2.2.2.2.2.2.2.2.2.2.1 x146.2.2.2.2.2.2.2.2.2.2.2.2.2.2.2.1 x146.2.2.2.2.2.2.2.2.2.2.2.2.2.2.2.2.1 x146.2.2.2.2.2.2.2.2.2.2.2.2.2.2.2.2.2.1 x146.2.2.2.2.2.2.2.2.2.2.2.2.2.2.2.2.2.2.1 x146.2.2.2.2.2.2.2.2.2.2.2.2.2.2.2.2.2.2.2.1 x146.2.2.2.2.2.2.2.2.2.2.2.2.2.2.2.2.2.2.2.2.1 x146.2.2.2.2.2.2.2.2.2.2.2.2.2.2.2.2.2.2.2.2.2.1 x146.2.2.2.2.2.2.2.2.2.2.2.2.2.2.2.2.2.2.2.2.2.2.1 x146.2.2.2.2.2.2.2.2.2.2.2.2.2.2.2.2.2.2.2.2.2.2.2.1) fun x148=>
                    some (x148.2.1,x148.2.2.1,x148.2.2.2.1,x148.2.2.2.2.1,x148.2.2.2.2.2.1,x148.2.2.2.2.2.2.1,x148.2.2.2.2.2.2.2.1,x148.2.2.2.2.2.2.2.2.1,x148.2.2.2.2.2.2.2.2.2.1,x148.2.2.2.2.2.2.2.2.2.2.1,x148.2.2.2.2.2.2.2.2.2.2.2,x148.1)
                 | .inr x149=>
                  some (x149.2.1,x149.2.2.1,[],x149.2.2.2.1,x149.2.2.2.2.1,x149.2.2.2.2.2.1,x149.2.2.2.2.2.2.1,x149.2.2.2.2.2.2.2.1,x149.2.2.2.2.2.2.2.2.1,x149.2.2.2.2.2.2.2.2.2,[],x149.1)
               | .inr x150=>
                match x150 with
                | .inl x151=>
                 some (x151.2.1,x151.2.2.1,[],x151.2.2.2.1,x151.2.2.2.2.1,x151.2.2.2.2.2.1,x151.2.2.2.2.2.2.1,x151.2.2.2.2.2.2.2.1,x151.2.2.2.2.2.2.2.2.1,x151.2.2.2.2.2.2.2.2.2,[],x151.1)
                | .inr x152=>
                 Option.bind (Ev.Seat.words_line κ x152.2.2.2.2.2.2.2.2.2.2.2.1 x152.2.2.2.2.2.2.2.2.2.2.2.2.1 x152.2.2.2.2.2.2.2.2.2.2.2.2.2.1 x152.2.2.2.2.2.2.2.2.2.2.2.2.2.2.1 x152.2.2.2.2.2.2.2.2.2.2.2.2.2.2.2.1 x152.2.2.2.2.2.2.2.2.2.2.2.2.2.2.2.2.1 x152.2.2.2.2.2.2.2.2.2.2.2.2.2.2.2.2.2.1 x152.2.2.2.2.2.2.2.2.2.2.2.2.2.2.2.2.2.2.1 x152.2.2.2.2.2.2.2.2.2.2.2.2.2.2.2.2.2.2.2.1 x152.2.2.2.2.2.2.2.2.2.2.2.2.2.2.2.2.2.2.2.2.1 x152.2.2.2.2.2.2.2.2.2.2.2.2.2.2.2.2.2.2.2.2.2) fun x153=>
                  Option.bind (Ev.Seat.words_parse.v49 κ x153.1 x153.2 x152.1 x152.2.1 x152.2.2.1 x152.2.2.2.1 x152.2.2.2.2.1 x152.2.2.2.2.2.1 x152.2.2.2.2.2.2.1 x152.2.2.2.2.2.2.2.1 x152.2.2.2.2.2.2.2.2.1 x152.2.2.2.2.2.2.2.2.2.1 x152.2.2.2.2.2.2.2.2.2.2.1 x152.2.2.2.2.2.2.2.2.2.2.2.1 x152.2.2.2.2.2.2.2.2.2.2.2.2.1 x152.2.2.2.2.2.2.2.2.2.2.2.2.2.1 x152.2.2.2.2.2.2.2.2.2.2.2.2.2.2.1 x152.2.2.2.2.2.2.2.2.2.2.2.2.2.2.2.1 x152.2.2.2.2.2.2.2.2.2.2.2.2.2.2.2.2.1 x152.2.2.2.2.2.2.2.2.2.2.2.2.2.2.2.2.2.1 x152.2.2.2.2.2.2.2.2.2.2.2.2.2.2.2.2.2.2.1 x152.2.2.2.2.2.2.2.2.2.2.2.2.2.2.2.2.2.2.2.1 x152.2.2.2.2.2.2.2.2.2.2.2.2.2.2.2.2.2.2.2.2.1 x152.2.2.2.2.2.2.2.2.2.2.2.2.2.2.2.2.2.2.2.2.2) fun x154=>
                   some (x154.2.1,x154.2.2.1,x154.2.2.2.1,x154.2.2.2.2.1,x154.2.2.2.2.2.1,x154.2.2.2.2.2.2.1,x154.2.2.2.2.2.2.2.1,x154.2.2.2.2.2.2.2.2.1,x154.2.2.2.2.2.2.2.2.2.1,x154.2.2.2.2.2.2.2.2.2.2.1,x154.2.2.2.2.2.2.2.2.2.2.2,x154.1)
             | .inr x155=>
              some (x155.2.1,x155.2.2.1,[],x155.2.2.2.1,x155.2.2.2.2.1,x155.2.2.2.2.2.1,x155.2.2.2.2.2.2.1,x155.2.2.2.2.2.2.2.1,x155.2.2.2.2.2.2.2.2.1,x155.2.2.2.2.2.2.2.2.2,[],x155.1)
           | .inr x156=>
            match x156 with
            | .inl x157=>
             Option.bind (Ev.Seat.words_parse.v10 κ a0 a1 (0:Int) (0:Int) [] (ByteArray.mk (List.toArray [])) (0:Int) Bool.false Bool.false (ByteArray.mk (List.toArray [])) (0:Int) (0:Int) [] a0 (0:Int) [] (ByteArray.mk (List.toArray [])) (0:Int) Bool.false Bool.false (ByteArray.mk (List.toArray [])) (0:Int) (0:Int) [] x157) fun x158=>
              match x158 with
              | .inl x159=>
               Option.bind (unc25 (Ev.Seat.words_parse.v21 κ) x159) fun x160=>
                match x160 with
                | .inl x161=>
                 Option.bind (unc25 (Ev.Seat.words_parse.v32 κ) x161) fun x162=>
                  match x162 with
                  | .inl x163=>
                   Option.bind (unc25 (Ev.Seat.words_parse.v41 κ) x163) fun x164=>
                    Option.bind (Ev.Seat.words_line κ x164.2.2.2.2.2.2.2.2.2.2.2.2.2.1 x164.2.2.2.2.2.2.2.2.2.2.2.2.2.2.1 x164.2.2.2.2.2.2.2.2.2.2.2.2.2.2.2.1 x164.2.2.2.2.2.2.2.2.2.2.2.2.2.2.2.2.1 x164.2.2.2.2.2.2.2.2.2.2.2.2.2.2.2.2.2.1 x164.2.2.2.2.2.2.2.2.2.2.2.2.2.2.2.2.2.2.1 x164.2.2.2.2.2.2.2.2.2.2.2.2.2.2.2.2.2.2.2.1 x164.2.2.2.2.2.2.2.2.2.2.2.2.2.2.2.2.2.2.2.2.1 x164.2.2.2.2.2.2.2.2.2.2.2.2.2.2.2.2.2.2.2.2.2.1 x164.2.2.2.2.2.2.2.2.2.2.2.2.2.2.2.2.2.2.2.2.2.2.1 x164.2.2.2.2.2.2.2.2.2.2.2.2.2.2.2.2.2.2.2.2.2.2.2.1) fun x165=>
                     Option.bind (Ev.Seat.words_parse.v49 κ x165.1 x165.2 x164.2.2.1 x164.2.2.2.1 x164.2.2.2.2.1 x164.2.2.2.2.2.1 x164.2.2.2.2.2.2.1 x164.2.2.2.2.2.2.2.1 x164.2.2.2.2.2.2.2.2.1 x164.2.2.2.2.2.2.2.2.2.1 x164.2.2.2.2.2.2.2.2.2.2.1 x164.2.2.2.2.2.2.2.2.2.2.2.1 x164.2.2.2.2.2.2.2.2.2.2.2.2.1 x164.2.2.2.2.2.2.2.2.2.2.2.2.2.1 x164.2.2.2.2.2.2.2.2.2.2.2.2.2.2.1 x164.2.2.2.2.2.2.2.2.2.2.2.2.2.2.2.1 x164.2.2.2.2.2.2.2.2.2.2.2.2.2.2.2.2.1 x164.2.2.2.2.2.2.2.2.2.2.2.2.2.2.2.2.2.1 x164.2.2.2.2.2.2.2.2.2.2.2.2.2.2.2.2.2.2.1 x164.2.2.2.2.2.2.2.2.2.2.2.2.2.2.2.2.2.2.2.1 x164.2.2.2.2.2.2.2.2.2.2.2.2.2.2.2.2.2.2.2.2.1 x164.2.2.2.2.2.2.2.2.2.2.2.2.2.2.2.2.2.2.2.2.2.1 x164.2.2.2.2.2.2.2.2.2.2.2.2.2.2.2.2.2.2.2.2.2.2.1 x164.2.2.2.2.2.2.2.2.2.2.2.2.2.2.2.2.2.2.2.2.2.2.2.1) fun x166=>
                      some (x166.2.1,x166.2.2.1,x166.2.2.2.1,x166.2.2.2.2.1,x166.2.2.2.2.2.1,x166.2.2.2.2.2.2.1,x166.2.2.2.2.2.2.2.1,x166.2.2.2.2.2.2.2.2.1,x166.2.2.2.2.2.2.2.2.2.1,x166.2.2.2.2.2.2.2.2.2.2.1,x166.2.2.2.2.2.2.2.2.2.2.2,x166.1)
                  | .inr x167=>
                   some (x167.2.1,x167.2.2.1,[],x167.2.2.2.1,x167.2.2.2.2.1,x167.2.2.2.2.2.1,x167.2.2.2.2.2.2.1,x167.2.2.2.2.2.2.2.1,x167.2.2.2.2.2.2.2.2.1,x167.2.2.2.2.2.2.2.2.2,[],x167.1)
                | .inr x168=>
                 some (x168.2.1,x168.2.2.1,[],x168.2.2.2.1,x168.2.2.2.2.1,x168.2.2.2.2.2.1,x168.2.2.2.2.2.2.1,x168.2.2.2.2.2.2.2.1,x168.2.2.2.2.2.2.2.2.1,x168.2.2.2.2.2.2.2.2.2,[],x168.1)
              | .inr x169=>
               some (x169.2.1,x169.2.2.1,[],x169.2.2.2.1,x169.2.2.2.2.1,x169.2.2.2.2.2.1,x169.2.2.2.2.2.2.1,x169.2.2.2.2.2.2.2.1,x169.2.2.2.2.2.2.2.2.1,x169.2.2.2.2.2.2.2.2.2,[],x169.1)
            | .inr x170=>
             Option.bind (Ev.Seat.words_parse.v11 κ a0 a1 (0:Int) (0:Int) [] (ByteArray.mk (List.toArray [])) (0:Int) Bool.false Bool.false (ByteArray.mk (List.toArray [])) (0:Int) (0:Int) [] a0 (0:Int) [] (ByteArray.mk (List.toArray [])) (0:Int) Bool.false Bool.false (ByteArray.mk (List.toArray [])) (0:Int) (0:Int) [] x170) fun x171=>
              match x171 with
              | .inl x172=>
               Option.bind (unc25 (Ev.Seat.words_parse.v22 κ) x172) fun x173=>
                match x173 with
                | .inl x174=>
                 Option.bind (Ev.Seat.words_line κ x174.2.2.2.2.2.2.2.2.2.2.2.2.2.1 x174.2.2.2.2.2.2.2.2.2.2.2.2.2.2.1 x174.2.2.2.2.2.2.2.2.2.2.2.2.2.2.2.1 x174.2.2.2.2.2.2.2.2.2.2.2.2.2.2.2.2.1 x174.2.2.2.2.2.2.2.2.2.2.2.2.2.2.2.2.2.1 x174.2.2.2.2.2.2.2.2.2.2.2.2.2.2.2.2.2.2.1 x174.2.2.2.2.2.2.2.2.2.2.2.2.2.2.2.2.2.2.2.1 x174.2.2.2.2.2.2.2.2.2.2.2.2.2.2.2.2.2.2.2.2.1 x174.2.2.2.2.2.2.2.2.2.2.2.2.2.2.2.2.2.2.2.2.2.1 x174.2.2.2.2.2.2.2.2.2.2.2.2.2.2.2.2.2.2.2.2.2.2.1 x174.2.2.2.2.2.2.2.2.2.2.2.2.2.2.2.2.2.2.2.2.2.2.2.1) fun x175=>
                  Option.bind (Ev.Seat.words_parse.v49 κ x175.1 x175.2 x174.2.2.1 x174.2.2.2.1 x174.2.2.2.2.1 x174.2.2.2.2.2.1 x174.2.2.2.2.2.2.1 x174.2.2.2.2.2.2.2.1 x174.2.2.2.2.2.2.2.2.1 x174.2.2.2.2.2.2.2.2.2.1 x174.2.2.2.2.2.2.2.2.2.2.1 x174.2.2.2.2.2.2.2.2.2.2.2.1 x174.2.2.2.2.2.2.2.2.2.2.2.2.1 x174.2.2.2.2.2.2.2.2.2.2.2.2.2.1 x174.2.2.2.2.2.2.2.2.2.2.2.2.2.2.1 x174.2.2.2.2.2.2.2.2.2.2.2.2.2.2.2.1 x174.2.2.2.2.2.2.2.2.2.2.2.2.2.2.2.2.1 x174.2.2.2.2.2.2.2.2.2.2.2.2.2.2.2.2.2.1 x174.2.2.2.2.2.2.2.2.2.2.2.2.2.2.2.2.2.2.1 x174.2.2.2.2.2.2.2.2.2.2.2.2.2.2.2.2.2.2.2.1 x174.2.2.2.2.2.2.2.2.2.2.2.2.2.2.2.2.2.2.2.2.1 x174.2.2.2.2.2.2.2.2.2.2.2.2.2.2.2.2.2.2.2.2.2.1 x174.2.2.2.2.2.2.2.2.2.2.2.2.2.2.2.2.2.2.2.2.2.2.1 x174.2.2.2.2.2.2.2.2.2.2.2.2.2.2.2.2.2.2.2.2.2.2.2.1) fun x176=>
                   some (x176.2.1,x176.2.2.1,x176.2.2.2.1,x176.2.2.2.2.1,x176.2.2.2.2.2.1,x176.2.2.2.2.2.2.1,x176.2.2.2.2.2.2.2.1,x176.2.2.2.2.2.2.2.2.1,x176.2.2.2.2.2.2.2.2.2.1,x176.2.2.2.2.2.2.2.2.2.2.1,x176.2.2.2.2.2.2.2.2.2.2.2,x176.1)
                | .inr x177=>
                 some (x177.2.1,x177.2.2.1,[],x177.2.2.2.1,x177.2.2.2.2.1,x177.2.2.2.2.2.1,x177.2.2.2.2.2.2.1,x177.2.2.2.2.2.2.2.1,x177.2.2.2.2.2.2.2.2.1,x177.2.2.2.2.2.2.2.2.2,[],x177.1)
              | .inr x178=>
               some (x178.2.1,x178.2.2.1,[],x178.2.2.2.1,x178.2.2.2.2.1,x178.2.2.2.2.2.1,x178.2.2.2.2.2.2.1,x178.2.2.2.2.2.2.2.1,x178.2.2.2.2.2.2.2.2.1,x178.2.2.2.2.2.2.2.2.2,[],x178.1)
def slices_Equal.w0(κ:Nat)(rec:((List ApiStep)×(List ApiStep)×Int×Int)→Option ((Unit)⊕(Bool)))(a0 a1:List ApiStep)(a2 a3:Int):Option ((Unit)⊕(Bool)):=
 bif (decide (a3<a2))then
  bif (decide ((0:Int)≤a3))then
   Option.bind (a0[(Int.toNat a3)]?) fun x0=>
    bif (decide ((0:Int)≤a3))then
     Option.bind (a1[(Int.toNat a3)]?) fun x1=>
      bif (!((Ev.seq (Ev.Seat.ApiStep.name x0) (Ev.Seat.ApiStep.name x1))&&(Ev.seq (Ev.Seat.ApiStep.key x0) (Ev.Seat.ApiStep.key x1))))then
       some (.inr Bool.false)
      else
       rec (a0,a1,a2,(IntKind.wrap IntKind.i64 (a3+(1:Int))))
    else
     none
  else
   none
 else
  some (.inl ())
def slices_Equal.l0(κ:Nat):Nat→((List ApiStep)×(List ApiStep)×Int×Int)→Option ((Unit)⊕(Bool))
 |0,_ =>none
 |k+1,(a0,a1,a2,a3)=>slices_Equal.w0 κ (slices_Equal.l0 κ k) a0 a1 a2 a3
def slices_Equal(κ:Nat)(a0 a1:List ApiStep):Option (Bool):=
 bif ((((List.length a0):Nat):Int) !=(((List.length a1):Nat):Int))then
  some Bool.false
 else
  Option.bind (Ev.Seat.slices_Equal.l0 κ κ (a0,a1,(((List.length a0):Nat):Int),(0:Int))) fun x0=>
   match x0 with
   | .inl x1=>
    some Bool.true
   | .inr x2=>
    some x2
def bytes_Equal(κ:Nat)(a0 a1:List Int):Option (Bool):=
 some (Ev.seq (ByteArray.mk (List.toArray (List.map (fun x=>(UInt8.ofNat (Int.toNat x))) a0))) (ByteArray.mk (List.toArray (List.map (fun x=>(UInt8.ofNat (Int.toNat x))) a1))))
def words_Same.v0(κ:Nat)(a0 a1:Int)(a2:List ApiStep)(a3:ByteArray)(a4:Int)(a5 a6:Bool)(a7:ByteArray)(a8 a9:Int)(a10:List Int)(a11 a12:Int)(a13:List ApiStep)(a14:ByteArray)(a15:Int)(a16 a17:Bool)(a18:ByteArray)(a19 a20:Int)(a21:List Int):Option (Bool):=
 bif (a0==a11)then
  bif (a1==a12)then
   Option.bind (Ev.Seat.slices_Equal κ a2 a13) fun x0=>
    bif x0 then
     bif (Ev.seq a3 a14)then
      bif (a4==a15)then
       bif (a5==a16)then
        bif (a6==a17)then
         bif (Ev.seq a7 a18)then
          bif (a8==a19)then
           bif (a9==a20)then
            some (Ev.seq (ByteArray.mk (List.toArray (List.map (fun x=>(UInt8.ofNat (Int.toNat x))) a10))) (ByteArray.mk (List.toArray (List.map (fun x=>(UInt8.ofNat (Int.toNat x))) a21))))
           else
            some Bool.false
          else
           some Bool.false
         else
          some Bool.false
        else
         some Bool.false
       else
        some Bool.false
      else
       some Bool.false
     else
      some Bool.false
    else
     some Bool.false
  else
   some Bool.false
 else
  some Bool.false
def words_Same(κ:Nat)(a0 a1:Int)(a2:List ApiStep)(a3:ByteArray)(a4:Int)(a5 a6:Bool)(a7:ByteArray)(a8 a9:Int)(a10:List Int)(a11 a12:Int)(a13:List ApiStep)(a14:ByteArray)(a15:Int)(a16 a17:Bool)(a18:ByteArray)(a19 a20:Int)(a21:List Int):Option (Bool):=
 Option.bind (Ev.Seat.words_Same.v0 κ a0 a1 a2 a3 a4 a5 a6 a7 a8 a9 a10 a11 a12 a13 a14 a15 a16 a17 a18 a19 a20 a21) fun x0=>
  some x0
def words_Right.v0(κ:Nat)(a0:Bool)(a1 a2:Int)(a3:List ApiStep)(a4:ByteArray)(a5:Int)(a6 a7:Bool)(a8:ByteArray)(a9 a10:Int)(a11:List Int)(a12 a13:Int)(a14:List ApiStep)(a15:ByteArray)(a16:Int)(a17 a18:Bool)(a19:ByteArray)(a20 a21:Int)(a22:List Int):Option (Bool):=
 bif a0 then
  Option.bind (Ev.Seat.words_Same κ a1 a2 a3 a4 a5 a6 a7 a8 a9 a10 a11 a12 a13 a14 a15 a16 a17 a18 a19 a20 a21 a22) fun x0=>
   some x0
 else
  some Bool.false
def words_Right(κ:Nat)(a0 a1:Int)(a2:List ApiStep)(a3:ByteArray)(a4:Int)(a5 a6:Bool)(a7:ByteArray)(a8 a9:Int)(a10:List Int):Option (Bool):=
 Option.bind (Ev.Seat.words_line κ a0 a1 a2 a3 a4 a5 a6 a7 a8 a9 a10) fun x0=>
  bif (!x0.2)then
   some Bool.false
  else
   Option.bind (Ev.Seat.words_parse κ a0 x0.1) fun x1=>
    Option.bind (Ev.Seat.words_Right.v0 κ x1.2.2.2.2.2.2.2.2.2.2.2 a0 a1 a2 a3 a4 a5 a6 a7 a8 a9 a10 x1.1 x1.2.1 x1.2.2.1 x1.2.2.2.1 x1.2.2.2.2.1 x1.2.2.2.2.2.1 x1.2.2.2.2.2.2.1 x1.2.2.2.2.2.2.2.1 x1.2.2.2.2.2.2.2.2.1 x1.2.2.2.2.2.2.2.2.2.1 x1.2.2.2.2.2.2.2.2.2.2.1) fun x2=>
     some x2
def words_Line(κ:Nat)(a0 a1:Int)(a2:List ApiStep)(a3:ByteArray)(a4:Int)(a5 a6:Bool)(a7:ByteArray)(a8 a9:Int)(a10:List Int):Option (ByteArray):=
 Option.bind (Ev.Seat.words_Right κ a0 a1 a2 a3 a4 a5 a6 a7 a8 a9 a10) fun x0=>
  bif (!x0)then
   some (ByteArray.mk (List.toArray []))
  else
   Option.bind (Ev.Seat.words_line κ a0 a1 a2 a3 a4 a5 a6 a7 a8 a9 a10) fun x1=>
    some x1.1
def words_Parse.v3(κ:Nat)(a0:ByteArray)(a1:Int)(a2:Bool)(a3 a4:Int)(a5:ByteArray)(a6:Int)(a7 a8:Bool)(a9:ByteArray)(a10 a11 a12 a13:Int)(a14:List ApiStep)(a15:ByteArray)(a16:Int)(a17 a18:Bool)(a19:ByteArray)(a20 a21:Int)(a22:List Int):Option (ByteArray×Int×Bool×Int×Int×ByteArray×Int×Bool×Bool×ByteArray×Int×Int×Int×Int×(List ApiStep)×ByteArray×Int×Bool×Bool×ByteArray×Int×Int×(List Int)):=
 bif a2 then
  Option.bind (Ev.Seat.words_Line κ a12 a13 a14 a15 a16 a17 a18 a19 a20 a21 a22) fun x0=>
   some (a0,a1,(Ev.seq x0 a0),a3,a4,a5,a6,a7,a8,a9,a10,a11,a12,a13,a14,a15,a16,a17,a18,a19,a20,a21,a22)
 else
  some (a0,a1,Bool.false,a3,a4,a5,a6,a7,a8,a9,a10,a11,a12,a13,a14,a15,a16,a17,a18,a19,a20,a21,a22)
def words_Parse.w2(κ:Nat)(rec:(ByteArray×Int×Int×Int×ByteArray×Int×Bool×Bool×ByteArray×Int×Int)→Option (Ty21⊕Ty18))(a0:ByteArray)(a1 a2 a3:Int)(a4:ByteArray)(a5:Int)(a6 a7:Bool)(a8:ByteArray)(a9 a10:Int):Option (Ty21⊕Ty18):=
 bif (decide (a1≤(18:Int)))then
  Option.bind (Ev.Seat.words_parse κ a1 a0) fun x0=>
   Option.bind (Ev.Seat.words_Parse.v3 κ a0 a1 x0.2.2.2.2.2.2.2.2.2.2.2 a2 a3 a4 a5 a6 a7 a8 a9 a10 x0.1 x0.2.1 x0.2.2.1 x0.2.2.2.1 x0.2.2.2.2.1 x0.2.2.2.2.2.1 x0.2.2.2.2.2.2.1 x0.2.2.2.2.2.2.2.1 x0.2.2.2.2.2.2.2.2.1 x0.2.2.2.2.2.2.2.2.2.1 x0.2.2.2.2.2.2.2.2.2.2.1) fun x1=>
    bif x1.2.2.1 then
     some (.inr ((0:Int),x1.2.2.2.2.2.2.2.2.2.2.2.2.1,x1.2.2.2.2.2.2.2.2.2.2.2.2.2.1,x1.2.2.2.2.2.2.2.2.2.2.2.2.2.2.1,x1.2.2.2.2.2.2.2.2.2.2.2.2.2.2.2.1,x1.2.2.2.2.2.2.2.2.2.2.2.2.2.2.2.2.1,x1.2.2.2.2.2.2.2.2.2.2.2.2.2.2.2.2.2.1,x1.2.2.2.2.2.2.2.2.2.2.2.2.2.2.2.2.2.2.1,x1.2.2.2.2.2.2.2.2.2.2.2.2.2.2.2.2.2.2.2.1,x1.2.2.2.2.2.2.2.2.2.2.2.2.2.2.2.2.2.2.2.2.1,x1.2.2.2.2.2.2.2.2.2.2.2.2.2.2.2.2.2.2.2.2.2.1,x1.2.2.2.2.2.2.2.2.2.2.2.2.2.2.2.2.2.2.2.2.2.2))
    else
     rec (x1.1,(IntKind.wrap IntKind.i64 (x1.2.1+(1:Int))),x1.2.2.2.1,x1.2.2.2.2.1,x1.2.2.2.2.2.1,x1.2.2.2.2.2.2.1,x1.2.2.2.2.2.2.2.1,x1.2.2.2.2.2.2.2.2.1,x1.2.2.2.2.2.2.2.2.2.1,x1.2.2.2.2.2.2.2.2.2.2.1,x1.2.2.2.2.2.2.2.2.2.2.2.1)
 else
  some (.inl (a2,a3,a4,a5,a6,a7,a8,a9,a10))
def words_Parse.l2(κ:Nat):Nat→(ByteArray×Int×Int×Int×ByteArray×Int×Bool×Bool×ByteArray×Int×Int)→Option (Ty21⊕Ty18)
 |0,_ =>none
 |k+1,(a0,a1,a2,a3,a4,a5,a6,a7,a8,a9,a10)=>words_Parse.w2 κ (words_Parse.l2 κ k) a0 a1 a2 a3 a4 a5 a6 a7 a8 a9 a10
def words_Parse(κ:Nat)(a0:ByteArray):Option (Int×Int×(List ApiStep)×ByteArray×Int×Bool×Bool×ByteArray×Int×Int×(List Int)×Int):=
 Option.bind (Ev.Seat.words_Parse.l2 κ κ (a0,(0:Int),(0:Int),(0:Int),(ByteArray.mk (List.toArray [])),(0:Int),Bool.false,Bool.false,(ByteArray.mk (List.toArray [])),(0:Int),(0:Int))) fun x0=>
  match x0 with
  | .inl x1=>
   some ((0:Int),(0:Int),[],(ByteArray.mk (List.toArray [])),(0:Int),Bool.false,Bool.false,(ByteArray.mk (List.toArray [])),(0:Int),(0:Int),[],(40:Int))
  | .inr x2=>
   some (x2.2.1,x2.2.2.1,x2.2.2.2.1,x2.2.2.2.2.1,x2.2.2.2.2.2.1,x2.2.2.2.2.2.2.1,x2.2.2.2.2.2.2.2.1,x2.2.2.2.2.2.2.2.2.1,x2.2.2.2.2.2.2.2.2.2.1,x2.2.2.2.2.2.2.2.2.2.2.1,x2.2.2.2.2.2.2.2.2.2.2.2,x2.1)
def l33_awake.v0(κ:Nat)(a0 a1 a2 a3 a4:Int)(a5:List ApiStep)(a6:ByteArray)(a7:Int)(a8 a9:Bool)(a10:ByteArray)(a11 a12:Int)(a13:List Int)(a14 a15:Int)(a16:List ApiStep)(a17:ByteArray)(a18:Int)(a19 a20:Bool)(a21:ByteArray)(a22 a23:Int)(a24:List Int):Option (Bool):=
 bif (a0==(0:Int))then
  bif (a3==(7:Int))then
   bif (a4==(1:Int))then
    bif ((((List.length a5):Nat):Int)==(2:Int))then
     bif (Ev.seq a6 (ByteArray.mk (List.toArray ((116:UInt8)::((114:UInt8)::((117:UInt8)::((101:UInt8)::[])))))))then
      bif (a1==(40:Int))then
       bif (a2==(0:Int))then
        bif (Ev.seq (ByteArray.mk (List.toArray (List.map (fun x=>(UInt8.ofNat (Int.toNat x))) a24))) (ByteArray.mk (List.toArray ((97:UInt8)::((32:UInt8)::((98:UInt8)::[]))))))then
         Option.bind (Ev.Seat.words_Line κ a3 a4 a5 a6 a7 a8 a9 a10 a11 a12 a13) fun x0=>
          bif (Ev.seq x0 (ByteArray.mk (List.toArray ((49:UInt8)::((32:UInt8)::((115:UInt8)::((101:UInt8)::((116:UInt8)::((32:UInt8)::((47:UInt8)::((112:UInt8)::((111:UInt8)::((114:UInt8)::((116:UInt8)::((91:UInt8)::((97:UInt8)::((93:UInt8)::((47:UInt8)::((117:UInt8)::((112:UInt8)::((32:UInt8)::((116:UInt8)::((114:UInt8)::((117:UInt8)::((101:UInt8)::[])))))))))))))))))))))))))then
           Option.bind (Ev.Seat.words_Right κ a3 a4 a5 a6 a7 a8 a9 a10 a11 a12 a13) fun x1=>
            bif x1 then
             Option.bind (Ev.Seat.words_Same κ a3 a4 a5 a6 a7 a8 a9 a10 a11 a12 a13 a3 a4 a5 a6 a7 a8 a9 a10 a11 a12 a13) fun x2=>
              bif x2 then
               Option.bind (Ev.Seat.words_Same κ a3 a4 a5 a6 a7 a8 a9 a10 a11 a12 a13 a14 a15 a16 a17 a18 a19 a20 a21 a22 a23 a24) fun x3=>
                bif (!x3)then
                 some Bool.true
                else
                 some Bool.false
              else
               some Bool.false
            else
             some Bool.false
          else
           some Bool.false
        else
         some Bool.false
       else
        some Bool.false
      else
       some Bool.false
     else
      some Bool.false
    else
     some Bool.false
   else
    some Bool.false
  else
   some Bool.false
 else
  some Bool.false
def l33_awake(κ:Nat):Option (Bool):=
 Option.bind (Ev.Seat.words_Parse κ (ByteArray.mk (List.toArray ((49:UInt8)::((32:UInt8)::((115:UInt8)::((101:UInt8)::((116:UInt8)::((32:UInt8)::((47:UInt8)::((112:UInt8)::((111:UInt8)::((114:UInt8)::((116:UInt8)::((91:UInt8)::((97:UInt8)::((93:UInt8)::((47:UInt8)::((117:UInt8)::((112:UInt8)::((32:UInt8)::((116:UInt8)::((114:UInt8)::((117:UInt8)::((101:UInt8)::[]))))))))))))))))))))))))) fun x0=>
  Option.bind (Ev.Seat.words_Parse κ (ByteArray.mk (List.toArray ((49:UInt8)::((32:UInt8)::((32:UInt8)::((108:UInt8)::((111:UInt8)::((99:UInt8)::((107:UInt8)::[])))))))))) fun x1=>
   Option.bind (Ev.Seat.words_Parse κ (ByteArray.mk (List.toArray ((50:UInt8)::((32:UInt8)::((108:UInt8)::((111:UInt8)::((97:UInt8)::((100:UInt8)::((32:UInt8)::((116:UInt8)::((101:UInt8)::((120:UInt8)::((116:UInt8)::((32:UInt8)::((97:UInt8)::((32:UInt8)::((98:UInt8)::[])))))))))))))))))) fun x2=>
    Option.bind (Ev.Seat.l33_awake.v0 κ x0.2.2.2.2.2.2.2.2.2.2.2 x1.2.2.2.2.2.2.2.2.2.2.2 x2.2.2.2.2.2.2.2.2.2.2.2 x0.1 x0.2.1 x0.2.2.1 x0.2.2.2.1 x0.2.2.2.2.1 x0.2.2.2.2.2.1 x0.2.2.2.2.2.2.1 x0.2.2.2.2.2.2.2.1 x0.2.2.2.2.2.2.2.2.1 x0.2.2.2.2.2.2.2.2.2.1 x0.2.2.2.2.2.2.2.2.2.2.1 x2.1 x2.2.1 x2.2.2.1 x2.2.2.2.1 x2.2.2.2.2.1 x2.2.2.2.2.2.1 x2.2.2.2.2.2.2.1 x2.2.2.2.2.2.2.2.1 x2.2.2.2.2.2.2.2.2.1 x2.2.2.2.2.2.2.2.2.2.1 x2.2.2.2.2.2.2.2.2.2.2.1) fun x3=>
     some x3
def r06_Ident.v5(κ:Nat)(a0:ByteArray)(a1:Int):Option (ByteArray×Int×Bool):=
 bif (decide ((0:Int)≤a1))then
  Option.bind ((Array.toList (ByteArray.data a0))[(Int.toNat a1)]?) fun x0=>
   bif (decide ((((UInt8.toNat x0):Nat):Int)≥(97:Int)))then
    bif (decide ((0:Int)≤a1))then
     Option.bind ((Array.toList (ByteArray.data a0))[(Int.toNat a1)]?) fun x1=>
      some (a0,a1,(decide ((((UInt8.toNat x1):Nat):Int)≤(122:Int))))
    else
     none
   else
    some (a0,a1,Bool.false)
 else
  none
def r06_Ident.v7(κ:Nat)(a0:ByteArray)(a1:Int)(a2:Bool):Option (ByteArray×Int×Bool):=
 bif (!a2)then
  bif (a1==(0:Int))then
   some (a0,a1,Bool.true)
  else
   bif (decide ((0:Int)≤a1))then
    Option.bind ((Array.toList (ByteArray.data a0))[(Int.toNat a1)]?) fun x0=>
     bif ((((UInt8.toNat x0):Nat):Int) !=(45:Int))then
      bif (decide ((0:Int)≤a1))then
       Option.bind ((Array.toList (ByteArray.data a0))[(Int.toNat a1)]?) fun x1=>
        bif (decide ((((UInt8.toNat x1):Nat):Int)<(48:Int)))then
         some (a0,a1,Bool.true)
        else
         bif (decide ((0:Int)≤a1))then
          Option.bind ((Array.toList (ByteArray.data a0))[(Int.toNat a1)]?) fun x2=>
           some (a0,a1,(decide ((((UInt8.toNat x2):Nat):Int)>(57:Int))))
         else
          none
      else
       none
     else
      some (a0,a1,Bool.false)
   else
    none
 else
  some (a0,a1,Bool.false)
def r06_Ident.w4(κ:Nat)(rec:(ByteArray×Int)→Option ((ByteArray)⊕(Bool)))(a0:ByteArray)(a1:Int):Option ((ByteArray)⊕(Bool)):=
 bif (decide (a1<(((ByteArray.size a0):Nat):Int)))then
  Option.bind (Ev.Seat.r06_Ident.v5 κ a0 a1) fun x0=>
   Option.bind (Ev.Seat.r06_Ident.v7 κ x0.1 x0.2.1 x0.2.2) fun x1=>
    bif x1.2.2 then
     some (.inr Bool.false)
    else
     rec (x1.1,(IntKind.wrap IntKind.i64 (x1.2.1+(1:Int))))
 else
  some (.inl a0)
def r06_Ident.l4(κ:Nat):Nat→(ByteArray×Int)→Option ((ByteArray)⊕(Bool))
 |0,_ =>none
 |k+1,(a0,a1)=>r06_Ident.w4 κ (r06_Ident.l4 κ k) a0 a1
def r06_Ident.v10(κ:Nat)(a0:ByteArray):Option (Bool):=
 bif (!(Ev.seq a0 (ByteArray.mk (List.toArray []))))then
  some (decide ((((ByteArray.size a0):Nat):Int)≤(12:Int)))
 else
  some Bool.false
def r06_Ident(κ:Nat)(a0:ByteArray):Option (Bool):=
 Option.bind (Ev.Seat.r06_Ident.l4 κ κ (a0,(0:Int))) fun x0=>
  match x0 with
  | .inl x1=>
   Option.bind (Ev.Seat.r06_Ident.v10 κ x1) fun x2=>
    some x2
  | .inr x3=>
   some x3
def r15_Show.v8(κ:Nat)(a0:List ApiStep)(a1:ByteArray)(a2:Int)(a3 a4:Bool):Option ((List ApiStep)×ByteArray×Int×Bool×Bool):=
 bif (!a3)then
  some (a0,a1,a2,a4,Bool.true)
 else
  bif (!a4)then
   bif (decide ((0:Int)≤a2))then
    Option.bind (a0[(Int.toNat a2)]?) fun x0=>
     some (a0,a1,a2,a4,(!(Ev.seq (Ev.Seat.ApiStep.key x0) (ByteArray.mk (List.toArray [])))))
   else
    none
  else
   some (a0,a1,a2,a4,Bool.false)
def r15_Show.v10(κ:Nat)(a0:List ApiStep)(a1:ByteArray)(a2:Int)(a3:Bool):Option ((List ApiStep)×ByteArray×Int):=
 bif a3 then
  bif (decide ((0:Int)≤a2))then
   Option.bind (a0[(Int.toNat a2)]?) fun x0=>
    bif (Nat.ble ((ByteArray.size (ByteArray.mk (List.toArray ((91:UInt8)::[]))))+(ByteArray.size (Ev.Seat.ApiStep.key x0))) Ev.maxI)then
     bif (Nat.ble ((ByteArray.size ((ByteArray.mk (List.toArray ((91:UInt8)::[])))++(Ev.Seat.ApiStep.key x0)))+(ByteArray.size (ByteArray.mk (List.toArray ((93:UInt8)::[]))))) Ev.maxI)then
      bif (Nat.ble ((ByteArray.size a1)+(ByteArray.size (((ByteArray.mk (List.toArray ((91:UInt8)::[])))++(Ev.Seat.ApiStep.key x0))++(ByteArray.mk (List.toArray ((93:UInt8)::[])))))) Ev.maxI)then
       some (a0,(a1++(((ByteArray.mk (List.toArray ((91:UInt8)::[])))++(Ev.Seat.ApiStep.key x0))++(ByteArray.mk (List.toArray ((93:UInt8)::[]))))),a2)
      else
       none
     else
      none
    else
     none
  else
   none
 else
  some (a0,a1,a2)
def r15_Show.v7(κ:Nat)(a0:List ApiStep)(a1:ByteArray)(a2:Int):Option (((List ApiStep)×ByteArray×Int)⊕(ByteArray)):=
 bif (decide ((0:Int)≤a2))then
  Option.bind (a0[(Int.toNat a2)]?) fun x0=>
   Option.bind (Ev.Seat.r06_Ident κ (Ev.Seat.ApiStep.name x0)) fun x1=>
    bif (decide ((0:Int)≤a2))then
     Option.bind (a0[(Int.toNat a2)]?) fun x2=>
      Option.bind (Ev.Seat.r06_Ident κ (Ev.Seat.ApiStep.key x2)) fun x3=>
       Option.bind (Ev.Seat.r15_Show.v8 κ a0 a1 a2 x1 x3) fun x4=>
        bif x4.2.2.2.2 then
         some (.inr (ByteArray.mk (List.toArray [])))
        else
         bif (decide ((0:Int)≤x4.2.2.1))then
          Option.bind (x4.1[(Int.toNat x4.2.2.1)]?) fun x5=>
           bif (Nat.ble ((ByteArray.size (ByteArray.mk (List.toArray ((47:UInt8)::[]))))+(ByteArray.size (Ev.Seat.ApiStep.name x5))) Ev.maxI)then
            bif (Nat.ble ((ByteArray.size x4.2.1)+(ByteArray.size ((ByteArray.mk (List.toArray ((47:UInt8)::[])))++(Ev.Seat.ApiStep.name x5)))) Ev.maxI)then
             Option.bind (Ev.Seat.r15_Show.v10 κ x4.1 (x4.2.1++((ByteArray.mk (List.toArray ((47:UInt8)::[])))++(Ev.Seat.ApiStep.name x5))) x4.2.2.1 x4.2.2.2.1) fun x6=>
              some (.inl (x6.1,x6.2.1,x6.2.2))
            else
             none
           else
            none
         else
          none
    else
     none
 else
  none
def r15_Show.w6(κ:Nat)(rec:((List ApiStep)×ByteArray×Int)→Option (((List ApiStep)×ByteArray)⊕(ByteArray)))(a0:List ApiStep)(a1:ByteArray)(a2:Int):Option (((List ApiStep)×ByteArray)⊕(ByteArray)):=
 bif (decide (a2<(((List.length a0):Nat):Int)))then
  Option.bind (Ev.Seat.r15_Show.v7 κ a0 a1 a2) fun x0=>
   match x0 with
   | .inl x1=>
    rec (x1.1,x1.2.1,(IntKind.wrap IntKind.i64 (x1.2.2+(1:Int))))
   | .inr x2=>
    some (.inr x2)
 else
  some (.inl (a0,a1))
def r15_Show.l6(κ:Nat):Nat→((List ApiStep)×ByteArray×Int)→Option (((List ApiStep)×ByteArray)⊕(ByteArray))
 |0,_ =>none
 |k+1,(a0,a1,a2)=>r15_Show.w6 κ (r15_Show.l6 κ k) a0 a1 a2
def r15_Show(κ:Nat)(a0:List ApiStep):Option (ByteArray):=
 Option.bind (Ev.Seat.r15_Show.l6 κ κ (a0,(ByteArray.mk (List.toArray [])),(0:Int))) fun x0=>
  match x0 with
  | .inl x1=>
   bif (Ev.seq x1.2 (ByteArray.mk (List.toArray [])))then
    some (ByteArray.mk (List.toArray ((47:UInt8)::[])))
   else
    bif (decide ((((List.length x1.1):Nat):Int)>(6:Int)))then
     some (ByteArray.mk (List.toArray []))
    else
     some x1.2
  | .inr x2=>
   some x2
def r06_ShowUint.w0(κ:Nat)(rec:(Int×ByteArray)→Option (ByteArray))(a0:Int)(a1:ByteArray):Option (ByteArray):=
 bif (decide (a0>(9:Int)))then
  bif (Nat.ble ((ByteArray.size (ByteArray.mk (List.toArray (List.map (fun x=>(UInt8.ofNat (Int.toNat x))) ((IntKind.wrap IntKind.u8 (IntKind.wrap IntKind.u64 ((48:Int)+(Int.tmod (IntKind.wrap IntKind.u64 (Int.tdiv a0 (10:Int))) (10:Int)))))::[])))))+(ByteArray.size a1)) Ev.maxI)then
   rec ((IntKind.wrap IntKind.u64 (Int.tdiv a0 (10:Int))),((ByteArray.mk (List.toArray (List.map (fun x=>(UInt8.ofNat (Int.toNat x))) ((IntKind.wrap IntKind.u8 (IntKind.wrap IntKind.u64 ((48:Int)+(Int.tmod (IntKind.wrap IntKind.u64 (Int.tdiv a0 (10:Int))) (10:Int)))))::[]))))++a1))
  else
   none
 else
  some a1
def r06_ShowUint.l0(κ:Nat):Nat→(Int×ByteArray)→Option (ByteArray)
 |0,_ =>none
 |k+1,(a0,a1)=>r06_ShowUint.w0 κ (r06_ShowUint.l0 κ k) a0 a1
def r06_ShowUint(κ:Nat)(a0:Int):Option (ByteArray):=
 Option.bind (Ev.Seat.r06_ShowUint.l0 κ κ (a0,(ByteArray.mk (List.toArray (List.map (fun x=>(UInt8.ofNat (Int.toNat x))) ((IntKind.wrap IntKind.u8 (IntKind.wrap IntKind.u64 ((48:Int)+(Int.tmod a0 (10:Int)))))::[])))))) fun x0=>
  some x0
def r05_letter.v0(κ:Nat)(a0:Int):Option (Bool):=
 bif (decide (a0≥(97:Int)))then
  bif (decide (a0≤(122:Int)))then
   some Bool.true
  else
   bif (decide (a0≥(65:Int)))then
    bif (decide (a0≤(90:Int)))then
     some Bool.true
    else
     bif (decide (a0≥(48:Int)))then
      bif (decide (a0≤(57:Int)))then
       some Bool.true
      else
       bif (a0==(95:Int))then
        some Bool.true
       else
        bif (a0==(45:Int))then
         some Bool.true
        else
         some (a0==(46:Int))
     else
      bif (a0==(95:Int))then
       some Bool.true
      else
       bif (a0==(45:Int))then
        some Bool.true
       else
        some (a0==(46:Int))
   else
    bif (decide (a0≥(48:Int)))then
     bif (decide (a0≤(57:Int)))then
      some Bool.true
     else
      bif (a0==(95:Int))then
       some Bool.true
      else
       bif (a0==(45:Int))then
        some Bool.true
       else
        some (a0==(46:Int))
    else
     bif (a0==(95:Int))then
      some Bool.true
     else
      bif (a0==(45:Int))then
       some Bool.true
      else
       some (a0==(46:Int))
 else
  bif (decide (a0≥(65:Int)))then
   bif (decide (a0≤(90:Int)))then
    some Bool.true
   else
    bif (decide (a0≥(48:Int)))then
     bif (decide (a0≤(57:Int)))then
      some Bool.true
     else
      bif (a0==(95:Int))then
       some Bool.true
      else
       bif (a0==(45:Int))then
        some Bool.true
       else
        some (a0==(46:Int))
    else
     bif (a0==(95:Int))then
      some Bool.true
     else
      bif (a0==(45:Int))then
       some Bool.true
      else
       some (a0==(46:Int))
  else
   bif (decide (a0≥(48:Int)))then
    bif (decide (a0≤(57:Int)))then
     some Bool.true
    else
     bif (a0==(95:Int))then
      some Bool.true
     else
      bif (a0==(45:Int))then
       some Bool.true
      else
       some (a0==(46:Int))
   else
    bif (a0==(95:Int))then
     some Bool.true
    else
     bif (a0==(45:Int))then
      some Bool.true
     else
      some (a0==(46:Int))
def r05_letter(κ:Nat)(a0:ByteArray):Option (Bool):=
 bif ((((ByteArray.size a0):Nat):Int) !=(1:Int))then
  some Bool.false
 else
  Option.bind ((Array.toList (ByteArray.data a0))[(Int.toNat (0:Int))]?) fun x0=>
   Option.bind (Ev.Seat.r05_letter.v0 κ (((UInt8.toNat x0):Nat):Int)) fun x1=>
    some x1
def r05_Plain.w0(κ:Nat)(rec:(ByteArray×Int)→Option ((ByteArray)⊕(Bool)))(a0:ByteArray)(a1:Int):Option ((ByteArray)⊕(Bool)):=
 bif (decide (a1<(((ByteArray.size a0):Nat):Int)))then
  bif ((((decide ((0:Int)≤(IntKind.wrap IntKind.i64 (a1+(1:Int)))))&&(decide ((IntKind.wrap IntKind.i64 (a1+(1:Int)))≤(((ByteArray.size a0):Nat):Int))))&&(decide ((0:Int)≤a1)))&&(decide (a1≤(IntKind.wrap IntKind.i64 (a1+(1:Int))))))then
   Option.bind (Ev.Seat.r05_letter κ (ByteArray.extract a0 (Int.toNat a1) (Int.toNat (IntKind.wrap IntKind.i64 (a1+(1:Int)))))) fun x0=>
    bif (!x0)then
     some (.inr Bool.false)
    else
     rec (a0,(IntKind.wrap IntKind.i64 (a1+(1:Int))))
  else
   none
 else
  some (.inl a0)
def r05_Plain.l0(κ:Nat):Nat→(ByteArray×Int)→Option ((ByteArray)⊕(Bool))
 |0,_ =>none
 |k+1,(a0,a1)=>r05_Plain.w0 κ (r05_Plain.l0 κ k) a0 a1
def r05_Plain(κ:Nat)(a0:ByteArray):Option (Bool):=
 Option.bind (Ev.Seat.r05_Plain.l0 κ κ (a0,(0:Int))) fun x0=>
  match x0 with
  | .inl x1=>
   some (!(Ev.seq x1 (ByteArray.mk (List.toArray []))))
  | .inr x2=>
   some x2
def r10_Steps.w0(κ:Nat)(rec:((List ApiStep)×(List ApiStep)×Int)→Option ((Unit)⊕(Bool)))(a0 a1:List ApiStep)(a2:Int):Option ((Unit)⊕(Bool)):=
 bif (decide (a2<(((List.length a0):Nat):Int)))then
  bif (decide ((0:Int)≤a2))then
   Option.bind (a0[(Int.toNat a2)]?) fun x0=>
    bif (decide ((0:Int)≤a2))then
     Option.bind (a1[(Int.toNat a2)]?) fun x1=>
      bif (!((Ev.seq (Ev.Seat.ApiStep.name x0) (Ev.Seat.ApiStep.name x1))&&(Ev.seq (Ev.Seat.ApiStep.key x0) (Ev.Seat.ApiStep.key x1))))then
       some (.inr Bool.false)
      else
       rec (a0,a1,(IntKind.wrap IntKind.i64 (a2+(1:Int))))
    else
     none
  else
   none
 else
  some (.inl ())
def r10_Steps.l0(κ:Nat):Nat→((List ApiStep)×(List ApiStep)×Int)→Option ((Unit)⊕(Bool))
 |0,_ =>none
 |k+1,(a0,a1,a2)=>r10_Steps.w0 κ (r10_Steps.l0 κ k) a0 a1 a2
def r10_Steps(κ:Nat)(a0 a1:List ApiStep):Option (Bool):=
 bif ((((List.length a0):Nat):Int) !=(((List.length a1):Nat):Int))then
  some Bool.false
 else
  Option.bind (Ev.Seat.r10_Steps.l0 κ κ (a0,a1,(0:Int))) fun x0=>
   match x0 with
   | .inl x1=>
    some Bool.true
   | .inr x2=>
    some x2
def r33_name.v0(κ:Nat)(a0:Int)(a1:List ByteArray):Option (Int×Bool×(List ByteArray)):=
 bif (decide (a0<(0:Int)))then
  some (a0,Bool.true,a1)
 else
  some (a0,(decide (a0≥(((List.length a1):Nat):Int))),a1)
def r33_name(κ:Nat)(a0:Int):Option (ByteArray):=
 Option.bind (Ev.Seat.r33_name.v0 κ a0 ((ByteArray.mk (List.toArray ((108:UInt8)::((111:UInt8)::((99:UInt8)::((107:UInt8)::[]))))))::((ByteArray.mk (List.toArray ((117:UInt8)::((110:UInt8)::((108:UInt8)::((111:UInt8)::((99:UInt8)::((107:UInt8)::[]))))))))::((ByteArray.mk (List.toArray ((100:UInt8)::((105:UInt8)::((115:UInt8)::((99:UInt8)::((97:UInt8)::((114:UInt8)::((100:UInt8)::[])))))))))::((ByteArray.mk (List.toArray ((99:UInt8)::((104:UInt8)::((101:UInt8)::((99:UInt8)::((107:UInt8)::[])))))))::((ByteArray.mk (List.toArray ((99:UInt8)::((111:UInt8)::((110:UInt8)::((102:UInt8)::((105:UInt8)::((114:UInt8)::((109:UInt8)::[])))))))))::((ByteArray.mk (List.toArray ((99:UInt8)::((97:UInt8)::((110:UInt8)::((99:UInt8)::((101:UInt8)::((108:UInt8)::[]))))))))::((ByteArray.mk (List.toArray ((115:UInt8)::((97:UInt8)::((118:UInt8)::((101:UInt8)::[]))))))::((ByteArray.mk (List.toArray ((115:UInt8)::((101:UInt8)::((116:UInt8)::[])))))::((ByteArray.mk (List.toArray ((100:UInt8)::((101:UInt8)::((108:UInt8)::[])))))::((ByteArray.mk (List.toArray ((99:UInt8)::((111:UInt8)::((109:UInt8)::((109:UInt8)::((105:UInt8)::((116:UInt8)::[]))))))))::((ByteArray.mk (List.toArray ((114:UInt8)::((111:UInt8)::((108:UInt8)::((108:UInt8)::((98:UInt8)::((97:UInt8)::((99:UInt8)::((107:UInt8)::[]))))))))))::((ByteArray.mk (List.toArray ((112:UInt8)::((114:UInt8)::((117:UInt8)::((110:UInt8)::((101:UInt8)::[])))))))::((ByteArray.mk (List.toArray ((115:UInt8)::((104:UInt8)::((111:UInt8)::((119:UInt8)::[]))))))::((ByteArray.mk (List.toArray ((108:UInt8)::((111:UInt8)::((97:UInt8)::((100:UInt8)::[]))))))::((ByteArray.mk (List.toArray ((108:UInt8)::((111:UInt8)::((97:UInt8)::((100:UInt8)::[]))))))::((ByteArray.mk (List.toArray ((112:UInt8)::((97:UInt8)::((99:UInt8)::((107:UInt8)::((101:UInt8)::((116:UInt8)::[]))))))))::((ByteArray.mk (List.toArray ((116:UInt8)::((105:UInt8)::((99:UInt8)::((107:UInt8)::[]))))))::((ByteArray.mk (List.toArray ((110:UInt8)::((101:UInt8)::((120:UInt8)::((116:UInt8)::[]))))))::((ByteArray.mk (List.toArray ((100:UInt8)::((117:UInt8)::((109:UInt8)::((112:UInt8)::[]))))))::[])))))))))))))))))))) fun x0=>
  bif x0.2.1 then
   some (ByteArray.mk (List.toArray []))
  else
   bif ((decide ((0:Int)≤x0.1))&&(Nat.blt (Int.toNat x0.1) (List.length x0.2.2)))then
    Option.bind (x0.2.2[(Int.toNat x0.1)]?) fun x1=>
     some x1
   else
    none
def r33_Same.v0(κ:Nat)(a0:Bool)(a1 a2:Int)(a3:List ApiStep)(a4:ByteArray)(a5:Int)(a6 a7:Bool)(a8:ByteArray)(a9 a10:Int)(a11:ByteArray)(a12 a13:Int)(a14:List ApiStep)(a15:ByteArray)(a16:Int)(a17 a18:Bool)(a19:ByteArray)(a20 a21:Int)(a22:ByteArray):Option (Bool):=
 bif a0 then
  bif (a1==a12)then
   bif (a2==a13)then
    bif (Ev.seq a4 a15)then
     bif (a5==a16)then
      bif (a6==a17)then
       bif (a7==a18)then
        bif (Ev.seq a8 a19)then
         bif (a9==a20)then
          bif (a10==a21)then
           some (Ev.seq a11 a22)
          else
           some Bool.false
         else
          some Bool.false
        else
         some Bool.false
       else
        some Bool.false
      else
       some Bool.false
     else
      some Bool.false
    else
     some Bool.false
   else
    some Bool.false
  else
   some Bool.false
 else
  some Bool.false
def r33_Same(κ:Nat)(a0 a1:Int)(a2:List ApiStep)(a3:ByteArray)(a4:Int)(a5 a6:Bool)(a7:ByteArray)(a8 a9:Int)(a10:ByteArray)(a11 a12:Int)(a13:List ApiStep)(a14:ByteArray)(a15:Int)(a16 a17:Bool)(a18:ByteArray)(a19 a20:Int)(a21:ByteArray):Option (Bool):=
 Option.bind (Ev.Seat.r10_Steps κ a2 a13) fun x0=>
  Option.bind (Ev.Seat.r33_Same.v0 κ x0 a0 a1 a2 a3 a4 a5 a6 a7 a8 a9 a10 a11 a12 a13 a14 a15 a16 a17 a18 a19 a20 a21) fun x1=>
   some x1
def r33_only.v0(κ:Nat)(a0:Int)(a1:Bool)(a2 a3:Int)(a4:List ApiStep)(a5:ByteArray)(a6:Int)(a7 a8:Bool)(a9:ByteArray)(a10 a11:Int)(a12:ByteArray)(a13 a14:Int)(a15:ByteArray)(a16:Int)(a17 a18:Bool)(a19:ByteArray)(a20 a21:Int)(a22:ByteArray)(a23 a24:Int)(a25:ByteArray)(a26:Int)(a27 a28:Bool)(a29:ByteArray)(a30 a31:Int)(a32:ByteArray):Option (Int×Int×Int×(List ApiStep)×ByteArray×Int×Bool×Bool×ByteArray×Int×Int×ByteArray×Int×Int×ByteArray×Int×Bool×Bool×ByteArray×Int×Int×ByteArray×Int×Int×ByteArray×Int×Bool×Bool×ByteArray×Int×Int×ByteArray):=
 bif a1 then
  some (a0,a2,a3,a4,a5,a6,a7,a8,a9,a10,a11,a12,a13,a14,a15,a16,a17,a18,a19,a20,a21,a22,a23,a3,a25,a26,a27,a28,a29,a30,a31,a32)
 else
  some (a0,a2,a3,a4,a5,a6,a7,a8,a9,a10,a11,a12,a13,a14,a15,a16,a17,a18,a19,a20,a21,a22,a23,a24,a25,a26,a27,a28,a29,a30,a31,a32)
def r33_only.v2(κ:Nat)(a0 a1 a2:Int)(a3:List ApiStep)(a4:ByteArray)(a5:Int)(a6 a7:Bool)(a8:ByteArray)(a9 a10:Int)(a11:ByteArray)(a12 a13:Int)(a14:ByteArray)(a15:Int)(a16 a17:Bool)(a18:ByteArray)(a19 a20:Int)(a21:ByteArray)(a22 a23:Int)(a24:ByteArray)(a25:Int)(a26 a27:Bool)(a28:ByteArray)(a29 a30:Int)(a31:ByteArray):Option (Int×Bool×Int×Int×(List ApiStep)×ByteArray×Int×Bool×Bool×ByteArray×Int×Int×ByteArray×Int×Int×ByteArray×Int×Bool×Bool×ByteArray×Int×Int×ByteArray×Int×Int×ByteArray×Int×Bool×Bool×ByteArray×Int×Int×ByteArray):=
 bif (a0==(7:Int))then
  some (a0,Bool.true,a1,a2,a3,a4,a5,a6,a7,a8,a9,a10,a11,a12,a13,a14,a15,a16,a17,a18,a19,a20,a21,a22,a23,a24,a25,a26,a27,a28,a29,a30,a31)
 else
  some (a0,(a0==(8:Int)),a1,a2,a3,a4,a5,a6,a7,a8,a9,a10,a11,a12,a13,a14,a15,a16,a17,a18,a19,a20,a21,a22,a23,a24,a25,a26,a27,a28,a29,a30,a31)
def r33_only.v4(κ:Nat)(a0:Int)(a1:Bool)(a2 a3:Int)(a4:List ApiStep)(a5:ByteArray)(a6:Int)(a7 a8:Bool)(a9:ByteArray)(a10 a11:Int)(a12:ByteArray)(a13 a14:Int)(a15:ByteArray)(a16:Int)(a17 a18:Bool)(a19:ByteArray)(a20 a21:Int)(a22:ByteArray)(a23 a24:Int)(a25:ByteArray)(a26:Int)(a27 a28:Bool)(a29:ByteArray)(a30 a31:Int)(a32:ByteArray):Option Ty5:=
 bif a1 then
  some (a0,a2,a3,a4,a5,a6,a7,a8,a9,a10,a11,a12,a13,a14,a15,a16,a17,a18,a19,a20,a21,a22,a23,a24,a4,a25,a26,a27,a28,a29,a30,a31,a32)
 else
  some (a0,a2,a3,a4,a5,a6,a7,a8,a9,a10,a11,a12,a13,a14,a15,a16,a17,a18,a19,a20,a21,a22,a23,a24,[],a25,a26,a27,a28,a29,a30,a31,a32)
def r33_only.v6(κ:Nat)(a0:Int)(a1:Bool)(a2 a3:Int)(a4:List ApiStep)(a5:ByteArray)(a6:Int)(a7 a8:Bool)(a9:ByteArray)(a10 a11:Int)(a12:ByteArray)(a13 a14:Int)(a15:ByteArray)(a16:Int)(a17 a18:Bool)(a19:ByteArray)(a20 a21:Int)(a22:ByteArray)(a23 a24:Int)(a25:List ApiStep)(a26:ByteArray)(a27:Int)(a28 a29:Bool)(a30:ByteArray)(a31 a32:Int)(a33:ByteArray):Option Ty5:=
 bif a1 then
  some (a0,a2,a3,a4,a5,a6,a7,a8,a9,a10,a11,a12,a13,a14,a15,a16,a17,a18,a19,a20,a21,a22,a23,a24,a25,a5,a27,a28,a29,a30,a31,a32,a33)
 else
  some (a0,a2,a3,a4,a5,a6,a7,a8,a9,a10,a11,a12,a13,a14,a15,a16,a17,a18,a19,a20,a21,a22,a23,a24,a25,a26,a27,a28,a29,a30,a31,a32,a33)
def r33_only.v8(κ:Nat)(a0 a1 a2:Int)(a3:List ApiStep)(a4:ByteArray)(a5:Int)(a6 a7:Bool)(a8:ByteArray)(a9 a10:Int)(a11:ByteArray)(a12 a13:Int)(a14:ByteArray)(a15:Int)(a16 a17:Bool)(a18:ByteArray)(a19 a20:Int)(a21:ByteArray)(a22 a23:Int)(a24:List ApiStep)(a25:ByteArray)(a26:Int)(a27 a28:Bool)(a29:ByteArray)(a30 a31:Int)(a32:ByteArray):Option Ty15:=
 bif (decide (a0≥(9:Int)))then
  bif (decide (a0≤(12:Int)))then
   some (a0,Bool.true,a1,a2,a3,a4,a5,a6,a7,a8,a9,a10,a11,a12,a13,a14,a15,a16,a17,a18,a19,a20,a21,a22,a23,a24,a25,a26,a27,a28,a29,a30,a31,a32)
  else
   some (a0,(a0==(16:Int)),a1,a2,a3,a4,a5,a6,a7,a8,a9,a10,a11,a12,a13,a14,a15,a16,a17,a18,a19,a20,a21,a22,a23,a24,a25,a26,a27,a28,a29,a30,a31,a32)
 else
  some (a0,(a0==(16:Int)),a1,a2,a3,a4,a5,a6,a7,a8,a9,a10,a11,a12,a13,a14,a15,a16,a17,a18,a19,a20,a21,a22,a23,a24,a25,a26,a27,a28,a29,a30,a31,a32)
def r33_only.v10(κ:Nat)(a0:Int)(a1:Bool)(a2 a3:Int)(a4:List ApiStep)(a5:ByteArray)(a6:Int)(a7 a8:Bool)(a9:ByteArray)(a10 a11:Int)(a12:ByteArray)(a13 a14:Int)(a15:ByteArray)(a16:Int)(a17 a18:Bool)(a19:ByteArray)(a20 a21:Int)(a22:ByteArray)(a23 a24:Int)(a25:List ApiStep)(a26:ByteArray)(a27:Int)(a28 a29:Bool)(a30:ByteArray)(a31 a32:Int)(a33:ByteArray):Option Ty5:=
 bif a1 then
  some (a0,a2,a3,a4,a5,a6,a7,a8,a9,a10,a11,a12,a13,a14,a15,a16,a17,a18,a19,a20,a21,a22,a23,a24,a25,a26,a6,a28,a29,a30,a31,a32,a33)
 else
  some (a0,a2,a3,a4,a5,a6,a7,a8,a9,a10,a11,a12,a13,a14,a15,a16,a17,a18,a19,a20,a21,a22,a23,a24,a25,a26,a27,a28,a29,a30,a31,a32,a33)
def r33_only.v12(κ:Nat)(a0:Int)(a1:Bool)(a2 a3:Int)(a4:List ApiStep)(a5:ByteArray)(a6:Int)(a7 a8:Bool)(a9:ByteArray)(a10 a11:Int)(a12:ByteArray)(a13 a14:Int)(a15:ByteArray)(a16:Int)(a17 a18:Bool)(a19:ByteArray)(a20 a21:Int)(a22:ByteArray)(a23 a24:Int)(a25:List ApiStep)(a26:ByteArray)(a27:Int)(a28 a29:Bool)(a30:ByteArray)(a31 a32:Int)(a33:ByteArray):Option Ty5:=
 bif a1 then
  some (a0,a2,a3,a4,a5,a6,a7,a8,a9,a10,a11,a12,a13,a14,a15,a16,a17,a18,a19,a20,a21,a22,a23,a24,a25,a26,a27,a7,a8,a30,a31,a32,a33)
 else
  some (a0,a2,a3,a4,a5,a6,a7,a8,a9,a10,a11,a12,a13,a14,a15,a16,a17,a18,a19,a20,a21,a22,a23,a24,a25,a26,a27,a28,a29,a30,a31,a32,a33)
def r33_only.v14(κ:Nat)(a0 a1 a2:Int)(a3:List ApiStep)(a4:ByteArray)(a5:Int)(a6 a7:Bool)(a8:ByteArray)(a9 a10:Int)(a11:ByteArray)(a12 a13:Int)(a14:ByteArray)(a15:Int)(a16 a17:Bool)(a18:ByteArray)(a19 a20:Int)(a21:ByteArray)(a22 a23:Int)(a24:List ApiStep)(a25:ByteArray)(a26:Int)(a27 a28:Bool)(a29:ByteArray)(a30 a31:Int)(a32:ByteArray):Option Ty15:=
 bif (a0==(13:Int))then
  some (a0,Bool.true,a1,a2,a3,a4,a5,a6,a7,a8,a9,a10,a11,a12,a13,a14,a15,a16,a17,a18,a19,a20,a21,a22,a23,a24,a25,a26,a27,a28,a29,a30,a31,a32)
 else
  some (a0,(a0==(14:Int)),a1,a2,a3,a4,a5,a6,a7,a8,a9,a10,a11,a12,a13,a14,a15,a16,a17,a18,a19,a20,a21,a22,a23,a24,a25,a26,a27,a28,a29,a30,a31,a32)
def r33_only.v16(κ:Nat)(a0:Int)(a1:Bool)(a2 a3:Int)(a4:List ApiStep)(a5:ByteArray)(a6:Int)(a7 a8:Bool)(a9:ByteArray)(a10 a11:Int)(a12:ByteArray)(a13 a14:Int)(a15:ByteArray)(a16:Int)(a17 a18:Bool)(a19:ByteArray)(a20 a21:Int)(a22:ByteArray)(a23 a24:Int)(a25:List ApiStep)(a26:ByteArray)(a27:Int)(a28 a29:Bool)(a30:ByteArray)(a31 a32:Int)(a33:ByteArray):Option Ty5:=
 bif a1 then
  some (a0,a2,a3,a4,a5,a6,a7,a8,a9,a10,a11,a12,a13,a14,a15,a16,a17,a18,a19,a20,a21,a22,a23,a24,a25,a26,a27,a28,a29,a30,a31,a32,a12)
 else
  some (a0,a2,a3,a4,a5,a6,a7,a8,a9,a10,a11,a12,a13,a14,a15,a16,a17,a18,a19,a20,a21,a22,a23,a24,a25,a26,a27,a28,a29,a30,a31,a32,a33)
def r33_only.v18(κ:Nat)(a0 a1 a2:Int)(a3:List ApiStep)(a4:ByteArray)(a5:Int)(a6 a7:Bool)(a8:ByteArray)(a9 a10:Int)(a11:ByteArray)(a12 a13:Int)(a14:ByteArray)(a15:Int)(a16 a17:Bool)(a18:ByteArray)(a19 a20:Int)(a21:ByteArray)(a22 a23:Int)(a24:List ApiStep)(a25:ByteArray)(a26:Int)(a27 a28:Bool)(a29:ByteArray)(a30 a31:Int)(a32:ByteArray):Option Ty15:=
 bif (a0==(15:Int))then
  some (a0,Bool.true,a1,a2,a3,a4,a5,a6,a7,a8,a9,a10,a11,a12,a13,a14,a15,a16,a17,a18,a19,a20,a21,a22,a23,a24,a25,a26,a27,a28,a29,a30,a31,a32)
 else
  some (a0,(decide (a0>(16:Int))),a1,a2,a3,a4,a5,a6,a7,a8,a9,a10,a11,a12,a13,a14,a15,a16,a17,a18,a19,a20,a21,a22,a23,a24,a25,a26,a27,a28,a29,a30,a31,a32)
def r33_only.v20(κ:Nat)(a0:Int)(a1:Bool)(a2 a3:Int)(a4:List ApiStep)(a5:ByteArray)(a6:Int)(a7 a8:Bool)(a9:ByteArray)(a10 a11:Int)(a12:ByteArray)(a13 a14:Int)(a15:ByteArray)(a16:Int)(a17 a18:Bool)(a19:ByteArray)(a20 a21:Int)(a22:ByteArray)(a23 a24:Int)(a25:List ApiStep)(a26:ByteArray)(a27:Int)(a28 a29:Bool)(a30:ByteArray)(a31 a32:Int)(a33:ByteArray):Option Ty5:=
 bif a1 then
  some (a0,a2,a3,a4,a5,a6,a7,a8,a9,a10,a11,a12,a13,a14,a15,a16,a17,a18,a19,a20,a21,a22,a23,a24,a25,a26,a27,a28,a29,a9,a31,a32,a33)
 else
  some (a0,a2,a3,a4,a5,a6,a7,a8,a9,a10,a11,a12,a13,a14,a15,a16,a17,a18,a19,a20,a21,a22,a23,a24,a25,a26,a27,a28,a29,a30,a31,a32,a33)
def r33_only.v22(κ:Nat)(a0:Bool)(a1 a2:Int)(a3:List ApiStep)(a4:ByteArray)(a5:Int)(a6 a7:Bool)(a8:ByteArray)(a9 a10:Int)(a11:ByteArray)(a12 a13:Int)(a14:ByteArray)(a15:Int)(a16 a17:Bool)(a18:ByteArray)(a19 a20:Int)(a21:ByteArray)(a22 a23:Int)(a24:List ApiStep)(a25:ByteArray)(a26:Int)(a27 a28:Bool)(a29:ByteArray)(a30 a31:Int)(a32:ByteArray):Option (Int×Int×ByteArray×Int×Bool×Bool×ByteArray×Int×Int×ByteArray×Int×Int×(List ApiStep)×ByteArray×Int×Bool×Bool×ByteArray×Int×Int×ByteArray):=
 bif a0 then
  some (a12,a13,a14,a15,a16,a17,a18,a19,a20,a21,a22,a23,a24,a25,a26,a27,a28,a29,a9,a10,a32)
 else
  some (a12,a13,a14,a15,a16,a17,a18,a19,a20,a21,a22,a23,a24,a25,a26,a27,a28,a29,a30,a31,a32)
def r33_only(κ:Nat)(a0 a1:Int)(a2:List ApiStep)(a3:ByteArray)(a4:Int)(a5 a6:Bool)(a7:ByteArray)(a8 a9:Int)(a10:ByteArray):Option Ty17:=
 Option.bind (Ev.Seat.r33_only.v0 κ a0 (decide (a0<(15:Int))) a0 a1 a2 a3 a4 a5 a6 a7 a8 a9 a10 (0:Int) (0:Int) (ByteArray.mk (List.toArray [])) (0:Int) Bool.false Bool.false (ByteArray.mk (List.toArray [])) (0:Int) (0:Int) (ByteArray.mk (List.toArray [])) a0 (0:Int) (ByteArray.mk (List.toArray [])) (0:Int) Bool.false Bool.false (ByteArray.mk (List.toArray [])) (0:Int) (0:Int) (ByteArray.mk (List.toArray []))) fun x0=>
  Option.bind (Ev.Seat.r33_only.v2 κ x0.1 x0.2.1 x0.2.2.1 x0.2.2.2.1 x0.2.2.2.2.1 x0.2.2.2.2.2.1 x0.2.2.2.2.2.2.1 x0.2.2.2.2.2.2.2.1 x0.2.2.2.2.2.2.2.2.1 x0.2.2.2.2.2.2.2.2.2.1 x0.2.2.2.2.2.2.2.2.2.2.1 x0.2.2.2.2.2.2.2.2.2.2.2.1 x0.2.2.2.2.2.2.2.2.2.2.2.2.1 x0.2.2.2.2.2.2.2.2.2.2.2.2.2.1 x0.2.2.2.2.2.2.2.2.2.2.2.2.2.2.1 x0.2.2.2.2.2.2.2.2.2.2.2.2.2.2.2.1 x0.2.2.2.2.2.2.2.2.2.2.2.2.2.2.2.2.1 x0.2.2.2.2.2.2.2.2.2.2.2.2.2.2.2.2.2.1 x0.2.2.2.2.2.2.2.2.2.2.2.2.2.2.2.2.2.2.1 x0.2.2.2.2.2.2.2.2.2.2.2.2.2.2.2.2.2.2.2.1 x0.2.2.2.2.2.2.2.2.2.2.2.2.2.2.2.2.2.2.2.2.1 x0.2.2.2.2.2.2.2.2.2.2.2.2.2.2.2.2.2.2.2.2.2.1 x0.2.2.2.2.2.2.2.2.2.2.2.2.2.2.2.2.2.2.2.2.2.2.1 x0.2.2.2.2.2.2.2.2.2.2.2.2.2.2.2.2.2.2.2.2.2.2.2.1 x0.2.2.2.2.2.2.2.2.2.2.2.2.2.2.2.2.2.2.2.2.2.2.2.2.1 x0.2.2.2.2.2.2.2.2.2.2.2.2.2.2.2.2.2.2.2.2.2.2.2.2.2.1 x0.2.2.2.2.2.2.2.2.2.2.2.2.2.2.2.2.2.2.2.2.2.2.2.2.2.2.1 x0.2.2.2.2.2.2.2.2.2.2.2.2.2.2.2.2.2.2.2.2.2.2.2.2.2.2.2.1 x0.2.2.2.2.2.2.2.2.2.2.2.2.2.2.2.2.2.2.2.2.2.2.2.2.2.2.2.2.1 x0.2.2.2.2.2.2.2.2.2.2.2.2.2.2.2.2.2.2.2.2.2.2.2.2.2.2.2.2.2.1 x0.2.2.2.2.2.2.2.2.2.2.2.2.2.2.2.2.2.2.2.2.2.2.2.2.2.2.2.2.2.2.1 x0.2.2.2.2.2.2.2.2.2.2.2.2.2.2.2.2.2.2.2.2.2.2.2.2.2.2.2.2.2.2.2) fun x1=>
   Option.bind (Ev.Seat.r33_only.v4 κ x1.1 x1.2.1 x1.2.2.1 x1.2.2.2.1 x1.2.2.2.2.1 x1.2.2.2.2.2.1 x1.2.2.2.2.2.2.1 x1.2.2.2.2.2.2.2.1 x1.2.2.2.2.2.2.2.2.1 x1.2.2.2.2.2.2.2.2.2.1 x1.2.2.2.2.2.2.2.2.2.2.1 x1.2.2.2.2.2.2.2.2.2.2.2.1 x1.2.2.2.2.2.2.2.2.2.2.2.2.1 x1.2.2.2.2.2.2.2.2.2.2.2.2.2.1 x1.2.2.2.2.2.2.2.2.2.2.2.2.2.2.1 x1.2.2.2.2.2.2.2.2.2.2.2.2.2.2.2.1 x1.2.2.2.2.2.2.2.2.2.2.2.2.2.2.2.2.1 x1.2.2.2.2.2.2.2.2.2.2.2.2.2.2.2.2.2.1 x1.2.2.2.2.2.2.2.2.2.2.2.2.2.2.2.2.2.2.1 x1.2.2.2.2.2.2.2.2.2.2.2.2.2.2.2.2.2.2.2.1 x1.2.2.2.2.2.2.2.2.2.2.2.2.2.2.2.2.2.2.2.2.1 x1.2.2.2.2.2.2.2.2.2.2.2.2.2.2.2.2.2.2.2.2.2.1 x1.2.2.2.2.2.2.2.2.2.2.2.2.2.2.2.2.2.2.2.2.2.2.1 x1.2.2.2.2.2.2.2.2.2.2.2.2.2.2.2.2.2.2.2.2.2.2.2.1 x1.2.2.2.2.2.2.2.2.2.2.2.2.2.2.2.2.2.2.2.2.2.2.2.2.1 x1.2.2.2.2.2.2.2.2.2.2.2.2.2.2.2.2.2.2.2.2.2.2.2.2.2.1 x1.2.2.2.2.2.2.2.2.2.2.2.2.2.2.2.2.2.2.2.2.2.2.2.2.2.2.1 x1.2.2.2.2.2.2.2.2.2.2.2.2.2.2.2.2.2.2.2.2.2.2.2.2.2.2.2.1 x1.2.2.2.2.2.2.2.2.2.2.2.2.2.2.2.2.2.2.2.2.2.2.2.2.2.2.2.2.1 x1.2.2.2.2.2.2.2.2.2.2.2.2.2.2.2.2.2.2.2.2.2.2.2.2.2.2.2.2.2.1 x1.2.2.2.2.2.2.2.2.2.2.2.2.2.2.2.2.2.2.2.2.2.2.2.2.2.2.2.2.2.2.1 x1.2.2.2.2.2.2.2.2.2.2.2.2.2.2.2.2.2.2.2.2.2.2.2.2.2.2.2.2.2.2.2.1 x1.2.2.2.2.2.2.2.2.2.2.2.2.2.2.2.2.2.2.2.2.2.2.2.2.2.2.2.2.2.2.2.2) fun x2=>
    Option.bind (Ev.Seat.r33_only.v6 κ x2.1 (x2.1==(7:Int)) x2.2.1 x2.2.2.1 x2.2.2.2.1 x2.2.2.2.2.1 x2.2.2.2.2.2.1 x2.2.2.2.2.2.2.1 x2.2.2.2.2.2.2.2.1 x2.2.2.2.2.2.2.2.2.1 x2.2.2.2.2.2.2.2.2.2.1 x2.2.2.2.2.2.2.2.2.2.2.1 x2.2.2.2.2.2.2.2.2.2.2.2.1 x2.2.2.2.2.2.2.2.2.2.2.2.2.1 x2.2.2.2.2.2.2.2.2.2.2.2.2.2.1 x2.2.2.2.2.2.2.2.2.2.2.2.2.2.2.1 x2.2.2.2.2.2.2.2.2.2.2.2.2.2.2.2.1 x2.2.2.2.2.2.2.2.2.2.2.2.2.2.2.2.2.1 x2.2.2.2.2.2.2.2.2.2.2.2.2.2.2.2.2.2.1 x2.2.2.2.2.2.2.2.2.2.2.2.2.2.2.2.2.2.2.1 x2.2.2.2.2.2.2.2.2.2.2.2.2.2.2.2.2.2.2.2.1 x2.2.2.2.2.2.2.2.2.2.2.2.2.2.2.2.2.2.2.2.2.1 x2.2.2.2.2.2.2.2.2.2.2.2.2.2.2.2.2.2.2.2.2.2.1 x2.2.2.2.2.2.2.2.2.2.2.2.2.2.2.2.2.2.2.2.2.2.2.1 x2.2.2.2.2.2.2.2.2.2.2.2.2.2.2.2.2.2.2.2.2.2.2.2.1 x2.2.2.2.2.2.2.2.2.2.2.2.2.2.2.2.2.2.2.2.2.2.2.2.2.1 x2.2.2.2.2.2.2.2.2.2.2.2.2.2.2.2.2.2.2.2.2.2.2.2.2.2.1 x2.2.2.2.2.2.2.2.2.2.2.2.2.2.2.2.2.2.2.2.2.2.2.2.2.2.2.1 x2.2.2.2.2.2.2.2.2.2.2.2.2.2.2.2.2.2.2.2.2.2.2.2.2.2.2.2.1 x2.2.2.2.2.2.2.2.2.2.2.2.2.2.2.2.2.2.2.2.2.2.2.2.2.2.2.2.2.1 x2.2.2.2.2.2.2.2.2.2.2.2.2.2.2.2.2.2.2.2.2.2.2.2.2.2.2.2.2.2.1 x2.2.2.2.2.2.2.2.2.2.2.2.2.2.2.2.2.2.2.2.2.2.2.2.2.2.2.2.2.2.2.1 x2.2.2.2.2.2.2.2.2.2.2.2.2.2.2.2.2.2.2.2.2.2.2.2.2.2.2.2.2.2.2.2.1 x2.2.2.2.2.2.2.2.2.2.2.2.2.2.2.2.2.2.2.2.2.2.2.2.2.2.2.2.2.2.2.2.2) fun x3=>
     Option.bind (Ev.Seat.r33_only.v8 κ x3.1 x3.2.1 x3.2.2.1 x3.2.2.2.1 x3.2.2.2.2.1 x3.2.2.2.2.2.1 x3.2.2.2.2.2.2.1 x3.2.2.2.2.2.2.2.1 x3.2.2.2.2.2.2.2.2.1 x3.2.2.2.2.2.2.2.2.2.1 x3.2.2.2.2.2.2.2.2.2.2.1 x3.2.2.2.2.2.2.2.2.2.2.2.1 x3.2.2.2.2.2.2.2.2.2.2.2.2.1 x3.2.2.2.2.2.2.2.2.2.2.2.2.2.1 x3.2.2.2.2.2.2.2.2.2.2.2.2.2.2.1 x3.2.2.2.2.2.2.2.2.2.2.2.2.2.2.2.1 x3.2.2.2.2.2.2.2.2.2.2.2.2.2.2.2.2.1 x3.2.2.2.2.2.2.2.2.2.2.2.2.2.2.2.2.2.1 x3.2.2.2.2.2.2.2.2.2.2.2.2.2.2.2.2.2.2.1 x3.2.2.2.2.2.2.2.2.2.2.2.2.2.2.2.2.2.2.2.1 x3.2.2.2.2.2.2.2.2.2.2.2.2.2.2.2.2.2.2.2.2.1 x3.2.2.2.2.2.2.2.2.2.2.2.2.2.2.2.2.2.2.2.2.2.1 x3.2.2.2.2.2.2.2.2.2.2.2.2.2.2.2.2.2.2.2.2.2.2.1 x3.2.2.2.2.2.2.2.2.2.2.2.2.2.2.2.2.2.2.2.2.2.2.2.1 x3.2.2.2.2.2.2.2.2.2.2.2.2.2.2.2.2.2.2.2.2.2.2.2.2.1 x3.2.2.2.2.2.2.2.2.2.2.2.2.2.2.2.2.2.2.2.2.2.2.2.2.2.1 x3.2.2.2.2.2.2.2.2.2.2.2.2.2.2.2.2.2.2.2.2.2.2.2.2.2.2.1 x3.2.2.2.2.2.2.2.2.2.2.2.2.2.2.2.2.2.2.2.2.2.2.2.2.2.2.2.1 x3.2.2.2.2.2.2.2.2.2.2.2.2.2.2.2.2.2.2.2.2.2.2.2.2.2.2.2.2.1 x3.2.2.2.2.2.2.2.2.2.2.2.2.2.2.2.2.2.2.2.2.2.2.2.2.2.2.2.2.2.1 x3.2.2.2.2.2.2.2.2.2.2.2.2.2.2.2.2.2.2.2.2.2.2.2.2.2.2.2.2.2.2.1 x3.2.2.2.2.2.2.2.2.2.2.2.2.2.2.2.2.2.2.2.2.2.2.2.2.2.2.2.2.2.2.2.1 x3.2.2.2.2.2.2.2.2.2.2.2.2.2.2.2.2.2.2.2.2.2.2.2.2.2.2.2.2.2.2.2.2) fun x4=>
      Option.bind (Ev.Seat.r33_only.v10 κ x4.1 x4.2.1 x4.2.2.1 x4.2.2.2.1 x4.2.2.2.2.1 x4.2.2.2.2.2.1 x4.2.2.2.2.2.2.1 x4.2.2.2.2.2.2.2.1 x4.2.2.2.2.2.2.2.2.1 x4.2.2.2.2.2.2.2.2.2.1 x4.2.2.2.2.2.2.2.2.2.2.1 x4.2.2.2.2.2.2.2.2.2.2.2.1 x4.2.2.2.2.2.2.2.2.2.2.2.2.1 x4.2.2.2.2.2.2.2.2.2.2.2.2.2.1 x4.2.2.2.2.2.2.2.2.2.2.2.2.2.2.1 x4.2.2.2.2.2.2.2.2.2.2.2.2.2.2.2.1 x4.2.2.2.2.2.2.2.2.2.2.2.2.2.2.2.2.1 x4.2.2.2.2.2.2.2.2.2.2.2.2.2.2.2.2.2.1 x4.2.2.2.2.2.2.2.2.2.2.2.2.2.2.2.2.2.2.1 x4.2.2.2.2.2.2.2.2.2.2.2.2.2.2.2.2.2.2.2.1 x4.2.2.2.2.2.2.2.2.2.2.2.2.2.2.2.2.2.2.2.2.1 x4.2.2.2.2.2.2.2.2.2.2.2.2.2.2.2.2.2.2.2.2.2.1 x4.2.2.2.2.2.2.2.2.2.2.2.2.2.2.2.2.2.2.2.2.2.2.1 x4.2.2.2.2.2.2.2.2.2.2.2.2.2.2.2.2.2.2.2.2.2.2.2.1 x4.2.2.2.2.2.2.2.2.2.2.2.2.2.2.2.2.2.2.2.2.2.2.2.2.1 x4.2.2.2.2.2.2.2.2.2.2.2.2.2.2.2.2.2.2.2.2.2.2.2.2.2.1 x4.2.2.2.2.2.2.2.2.2.2.2.2.2.2.2.2.2.2.2.2.2.2.2.2.2.2.1 x4.2.2.2.2.2.2.2.2.2.2.2.2.2.2.2.2.2.2.2.2.2.2.2.2.2.2.2.1 x4.2.2.2.2.2.2.2.2.2.2.2.2.2.2.2.2.2.2.2.2.2.2.2.2.2.2.2.2.1 x4.2.2.2.2.2.2.2.2.2.2.2.2.2.2.2.2.2.2.2.2.2.2.2.2.2.2.2.2.2.1 x4.2.2.2.2.2.2.2.2.2.2.2.2.2.2.2.2.2.2.2.2.2.2.2.2.2.2.2.2.2.2.1 x4.2.2.2.2.2.2.2.2.2.2.2.2.2.2.2.2.2.2.2.2.2.2.2.2.2.2.2.2.2.2.2.1 x4.2.2.2.2.2.2.2.2.2.2.2.2.2.2.2.2.2.2.2.2.2.2.2.2.2.2.2.2.2.2.2.2.1 x4.2.2.2.2.2.2.2.2.2.2.2.2.2.2.2.2.2.2.2.2.2.2.2.2.2.2.2.2.2.2.2.2.2) fun x5=>
       Option.bind (Ev.Seat.r33_only.v12 κ x5.1 (x5.1==(12:Int)) x5.2.1 x5.2.2.1 x5.2.2.2.1 x5.2.2.2.2.1 x5.2.2.2.2.2.1 x5.2.2.2.2.2.2.1 x5.2.2.2.2.2.2.2.1 x5.2.2.2.2.2.2.2.2.1 x5.2.2.2.2.2.2.2.2.2.1 x5.2.2.2.2.2.2.2.2.2.2.1 x5.2.2.2.2.2.2.2.2.2.2.2.1 x5.2.2.2.2.2.2.2.2.2.2.2.2.1 x5.2.2.2.2.2.2.2.2.2.2.2.2.2.1 x5.2.2.2.2.2.2.2.2.2.2.2.2.2.2.1 x5.2.2.2.2.2.2.2.2.2.2.2.2.2.2.2.1 x5.2.2.2.2.2.2.2.2.2.2.2.2.2.2.2.2.1 x5.2.2.2.2.2.2.2.2.2.2.2.2.2.2.2.2.2.1 x5.2.2.2.2.2.2.2.2.2.2.2.2.2.2.2.2.2.2.1 x5.2.2.2.2.2.2.2.2.2.2.2.2.2.2.2.2.2.2.2.1 x5.2.2.2.2.2.2.2.2.2.2.2.2.2.2.2.2.2.2.2.2.1 x5.2.2.2.2.2.2.2.2.2.2.2.2.2.2.2.2.2.2.2.2.2.1 x5.2.2.2.2.2.2.2.2.2.2.2.2.2.2.2.2.2.2.2.2.2.2.1 x5.2.2.2.2.2.2.2.2.2.2.2.2.2.2.2.2.2.2.2.2.2.2.2.1 x5.2.2.2.2.2.2.2.2.2.2.2.2.2.2.2.2.2.2.2.2.2.2.2.2.1 x5.2.2.2.2.2.2.2.2.2.2.2.2.2.2.2.2.2.2.2.2.2.2.2.2.2.1 x5.2.2.2.2.2.2.2.2.2.2.2.2.2.2.2.2.2.2.2.2.2.2.2.2.2.2.1 x5.2.2.2.2.2.2.2.2.2.2.2.2.2.2.2.2.2.2.2.2.2.2.2.2.2.2.2.1 x5.2.2.2.2.2.2.2.2.2.2.2.2.2.2.2.2.2.2.2.2.2.2.2.2.2.2.2.2.1 x5.2.2.2.2.2.2.2.2.2.2.2.2.2.2.2.2.2.2.2.2.2.2.2.2.2.2.2.2.2.1 x5.2.2.2.2.2.2.2.2.2.2.2.2.2.2.2.2.2.2.2.2.2.2.2.2.2.2.2.2.2.2.1 x5.2.2.2.2.2.2.2.2.2.2.2.2.2.2.2.2.2.2.2.2.2.2.2.2.2.2.2.2.2.2.2.1 x5.2.2.2.2.2.2.2.2.2.2.2.2.2.2.2.2.2.2.2.2.2.2.2.2.2.2.2.2.2.2.2.2) fun x6=>
        Option.bind (Ev.Seat.r33_only.v14 κ x6.1 x6.2.1 x6.2.2.1 x6.2.2.2.1 x6.2.2.2.2.1 x6.2.2.2.2.2.1 x6.2.2.2.2.2.2.1 x6.2.2.2.2.2.2.2.1 x6.2.2.2.2.2.2.2.2.1 x6.2.2.2.2.2.2.2.2.2.1 x6.2.2.2.2.2.2.2.2.2.2.1 x6.2.2.2.2.2.2.2.2.2.2.2.1 x6.2.2.2.2.2.2.2.2.2.2.2.2.1 x6.2.2.2.2.2.2.2.2.2.2.2.2.2.1 x6.2.2.2.2.2.2.2.2.2.2.2.2.2.2.1 x6.2.2.2.2.2.2.2.2.2.2.2.2.2.2.2.1 x6.2.2.2.2.2.2.2.2.2.2.2.2.2.2.2.2.1 x6.2.2.2.2.2.2.2.2.2.2.2.2.2.2.2.2.2.1 x6.2.2.2.2.2.2.2.2.2.2.2.2.2.2.2.2.2.2.1 x6.2.2.2.2.2.2.2.2.2.2.2.2.2.2.2.2.2.2.2.1 x6.2.2.2.2.2.2.2.2.2.2.2.2.2.2.2.2.2.2.2.2.1 x6.2.2.2.2.2.2.2.2.2.2.2.2.2.2.2.2.2.2.2.2.2.1 x6.2.2.2.2.2.2.2.2.2.2.2.2.2.2.2.2.2.2.2.2.2.2.1 x6.2.2.2.2.2.2.2.2.2.2.2.2.2.2.2.2.2.2.2.2.2.2.2.1 x6.2.2.2.2.2.2.2.2.2.2.2.2.2.2.2.2.2.2.2.2.2.2.2.2.1 x6.2.2.2.2.2.2.2.2.2.2.2.2.2.2.2.2.2.2.2.2.2.2.2.2.2.1 x6.2.2.2.2.2.2.2.2.2.2.2.2.2.2.2.2.2.2.2.2.2.2.2.2.2.2.1 x6.2.2.2.2.2.2.2.2.2.2.2.2.2.2.2.2.2.2.2.2.2.2.2.2.2.2.2.1 x6.2.2.2.2.2.2.2.2.2.2.2.2.2.2.2.2.2.2.2.2.2.2.2.2.2.2.2.2.1 x6.2.2.2.2.2.2.2.2.2.2.2.2.2.2.2.2.2.2.2.2.2.2.2.2.2.2.2.2.2.1 x6.2.2.2.2.2.2.2.2.2.2.2.2.2.2.2.2.2.2.2.2.2.2.2.2.2.2.2.2.2.2.1 x6.2.2.2.2.2.2.2.2.2.2.2.2.2.2.2.2.2.2.2.2.2.2.2.2.2.2.2.2.2.2.2.1 x6.2.2.2.2.2.2.2.2.2.2.2.2.2.2.2.2.2.2.2.2.2.2.2.2.2.2.2.2.2.2.2.2) fun x7=>
         Option.bind (Ev.Seat.r33_only.v16 κ x7.1 x7.2.1 x7.2.2.1 x7.2.2.2.1 x7.2.2.2.2.1 x7.2.2.2.2.2.1 x7.2.2.2.2.2.2.1 x7.2.2.2.2.2.2.2.1 x7.2.2.2.2.2.2.2.2.1 x7.2.2.2.2.2.2.2.2.2.1 x7.2.2.2.2.2.2.2.2.2.2.1 x7.2.2.2.2.2.2.2.2.2.2.2.1 x7.2.2.2.2.2.2.2.2.2.2.2.2.1 x7.2.2.2.2.2.2.2.2.2.2.2.2.2.1 x7.2.2.2.2.2.2.2.2.2.2.2.2.2.2.1 x7.2.2.2.2.2.2.2.2.2.2.2.2.2.2.2.1 x7.2.2.2.2.2.2.2.2.2.2.2.2.2.2.2.2.1 x7.2.2.2.2.2.2.2.2.2.2.2.2.2.2.2.2.2.1 x7.2.2.2.2.2.2.2.2.2.2.2.2.2.2.2.2.2.2.1 x7.2.2.2.2.2.2.2.2.2.2.2.2.2.2.2.2.2.2.2.1 x7.2.2.2.2.2.2.2.2.2.2.2.2.2.2.2.2.2.2.2.2.1 x7.2.2.2.2.2.2.2.2.2.2.2.2.2.2.2.2.2.2.2.2.2.1 x7.2.2.2.2.2.2.2.2.2.2.2.2.2.2.2.2.2.2.2.2.2.2.1 x7.2.2.2.2.2.2.2.2.2.2.2.2.2.2.2.2.2.2.2.2.2.2.2.1 x7.2.2.2.2.2.2.2.2.2.2.2.2.2.2.2.2.2.2.2.2.2.2.2.2.1 x7.2.2.2.2.2.2.2.2.2.2.2.2.2.2.2.2.2.2.2.2.2.2.2.2.2.1 x7.2.2.2.2.2.2.2.2.2.2.2.2.2.2.2.2.2.2.2.2.2.2.2.2.2.2.1 x7.2.2.2.2.2.2.2.2.2.2.2.2.2.2.2.2.2.2.2.2.2.2.2.2.2.2.2.1 x7.2.2.2.2.2.2.2.2.2.2.2.2.2.2.2.2.2.2.2.2.2.2.2.2.2.2.2.2.1 x7.2.2.2.2.2.2.2.2.2.2.2.2.2.2.2.2.2.2.2.2.2.2.2.2.2.2.2.2.2.1 x7.2.2.2.2.2.2.2.2.2.2.2.2.2.2.2.2.2.2.2.2.2.2.2.2.2.2.2.2.2.2.1 x7.2.2.2.2.2.2.2.2.2.2.2.2.2.2.2.2.2.2.2.2.2.2.2.2.2.2.2.2.2.2.2.1 x7.2.2.2.2.2.2.2.2.2.2.2.2.2.2.2.2.2.2.2.2.2.2.2.2.2.2.2.2.2.2.2.2.1 x7.2.2.2.2.2.2.2.2.2.2.2.2.2.2.2.2.2.2.2.2.2.2.2.2.2.2.2.2.2.2.2.2.2) fun x8=>
          Option.bind (Ev.Seat.r33_only.v18 κ x8.1 x8.2.1 x8.2.2.1 x8.2.2.2.1 x8.2.2.2.2.1 x8.2.2.2.2.2.1 x8.2.2.2.2.2.2.1 x8.2.2.2.2.2.2.2.1 x8.2.2.2.2.2.2.2.2.1 x8.2.2.2.2.2.2.2.2.2.1 x8.2.2.2.2.2.2.2.2.2.2.1 x8.2.2.2.2.2.2.2.2.2.2.2.1 x8.2.2.2.2.2.2.2.2.2.2.2.2.1 x8.2.2.2.2.2.2.2.2.2.2.2.2.2.1 x8.2.2.2.2.2.2.2.2.2.2.2.2.2.2.1 x8.2.2.2.2.2.2.2.2.2.2.2.2.2.2.2.1 x8.2.2.2.2.2.2.2.2.2.2.2.2.2.2.2.2.1 x8.2.2.2.2.2.2.2.2.2.2.2.2.2.2.2.2.2.1 x8.2.2.2.2.2.2.2.2.2.2.2.2.2.2.2.2.2.2.1 x8.2.2.2.2.2.2.2.2.2.2.2.2.2.2.2.2.2.2.2.1 x8.2.2.2.2.2.2.2.2.2.2.2.2.2.2.2.2.2.2.2.2.1 x8.2.2.2.2.2.2.2.2.2.2.2.2.2.2.2.2.2.2.2.2.2.1 x8.2.2.2.2.2.2.2.2.2.2.2.2.2.2.2.2.2.2.2.2.2.2.1 x8.2.2.2.2.2.2.2.2.2.2.2.2.2.2.2.2.2.2.2.2.2.2.2.1 x8.2.2.2.2.2.2.2.2.2.2.2.2.2.2.2.2.2.2.2.2.2.2.2.2.1 x8.2.2.2.2.2.2.2.2.2.2.2.2.2.2.2.2.2.2.2.2.2.2.2.2.2.1 x8.2.2.2.2.2.2.2.2.2.2.2.2.2.2.2.2.2.2.2.2.2.2.2.2.2.2.1 x8.2.2.2.2.2.2.2.2.2.2.2.2.2.2.2.2.2.2.2.2.2.2.2.2.2.2.2.1 x8.2.2.2.2.2.2.2.2.2.2.2.2.2.2.2.2.2.2.2.2.2.2.2.2.2.2.2.2.1 x8.2.2.2.2.2.2.2.2.2.2.2.2.2.2.2.2.2.2.2.2.2.2.2.2.2.2.2.2.2.1 x8.2.2.2.2.2.2.2.2.2.2.2.2.2.2.2.2.2.2.2.2.2.2.2.2.2.2.2.2.2.2.1 x8.2.2.2.2.2.2.2.2.2.2.2.2.2.2.2.2.2.2.2.2.2.2.2.2.2.2.2.2.2.2.2.1 x8.2.2.2.2.2.2.2.2.2.2.2.2.2.2.2.2.2.2.2.2.2.2.2.2.2.2.2.2.2.2.2.2) fun x9=>
           Option.bind (Ev.Seat.r33_only.v20 κ x9.1 x9.2.1 x9.2.2.1 x9.2.2.2.1 x9.2.2.2.2.1 x9.2.2.2.2.2.1 x9.2.2.2.2.2.2.1 x9.2.2.2.2.2.2.2.1 x9.2.2.2.2.2.2.2.2.1 x9.2.2.2.2.2.2.2.2.2.1 x9.2.2.2.2.2.2.2.2.2.2.1 x9.2.2.2.2.2.2.2.2.2.2.2.1 x9.2.2.2.2.2.2.2.2.2.2.2.2.1 x9.2.2.2.2.2.2.2.2.2.2.2.2.2.1 x9.2.2.2.2.2.2.2.2.2.2.2.2.2.2.1 x9.2.2.2.2.2.2.2.2.2.2.2.2.2.2.2.1 x9.2.2.2.2.2.2.2.2.2.2.2.2.2.2.2.2.1 x9.2.2.2.2.2.2.2.2.2.2.2.2.2.2.2.2.2.1 x9.2.2.2.2.2.2.2.2.2.2.2.2.2.2.2.2.2.2.1 x9.2.2.2.2.2.2.2.2.2.2.2.2.2.2.2.2.2.2.2.1 x9.2.2.2.2.2.2.2.2.2.2.2.2.2.2.2.2.2.2.2.2.1 x9.2.2.2.2.2.2.2.2.2.2.2.2.2.2.2.2.2.2.2.2.2.1 x9.2.2.2.2.2.2.2.2.2.2.2.2.2.2.2.2.2.2.2.2.2.2.1 x9.2.2.2.2.2.2.2.2.2.2.2.2.2.2.2.2.2.2.2.2.2.2.2.1 x9.2.2.2.2.2.2.2.2.2.2.2.2.2.2.2.2.2.2.2.2.2.2.2.2.1 x9.2.2.2.2.2.2.2.2.2.2.2.2.2.2.2.2.2.2.2.2.2.2.2.2.2.1 x9.2.2.2.2.2.2.2.2.2.2.2.2.2.2.2.2.2.2.2.2.2.2.2.2.2.2.1 x9.2.2.2.2.2.2.2.2.2.2.2.2.2.2.2.2.2.2.2.2.2.2.2.2.2.2.2.1 x9.2.2.2.2.2.2.2.2.2.2.2.2.2.2.2.2.2.2.2.2.2.2.2.2.2.2.2.2.1 x9.2.2.2.2.2.2.2.2.2.2.2.2.2.2.2.2.2.2.2.2.2.2.2.2.2.2.2.2.2.1 x9.2.2.2.2.2.2.2.2.2.2.2.2.2.2.2.2.2.2.2.2.2.2.2.2.2.2.2.2.2.2.1 x9.2.2.2.2.2.2.2.2.2.2.2.2.2.2.2.2.2.2.2.2.2.2.2.2.2.2.2.2.2.2.2.1 x9.2.2.2.2.2.2.2.2.2.2.2.2.2.2.2.2.2.2.2.2.2.2.2.2.2.2.2.2.2.2.2.2.1 x9.2.2.2.2.2.2.2.2.2.2.2.2.2.2.2.2.2.2.2.2.2.2.2.2.2.2.2.2.2.2.2.2.2) fun x10=>
            Option.bind (Ev.Seat.r33_only.v22 κ (x10.1==(15:Int)) x10.2.1 x10.2.2.1 x10.2.2.2.1 x10.2.2.2.2.1 x10.2.2.2.2.2.1 x10.2.2.2.2.2.2.1 x10.2.2.2.2.2.2.2.1 x10.2.2.2.2.2.2.2.2.1 x10.2.2.2.2.2.2.2.2.2.1 x10.2.2.2.2.2.2.2.2.2.2.1 x10.2.2.2.2.2.2.2.2.2.2.2.1 x10.2.2.2.2.2.2.2.2.2.2.2.2.1 x10.2.2.2.2.2.2.2.2.2.2.2.2.2.1 x10.2.2.2.2.2.2.2.2.2.2.2.2.2.2.1 x10.2.2.2.2.2.2.2.2.2.2.2.2.2.2.2.1 x10.2.2.2.2.2.2.2.2.2.2.2.2.2.2.2.2.1 x10.2.2.2.2.2.2.2.2.2.2.2.2.2.2.2.2.2.1 x10.2.2.2.2.2.2.2.2.2.2.2.2.2.2.2.2.2.2.1 x10.2.2.2.2.2.2.2.2.2.2.2.2.2.2.2.2.2.2.2.1 x10.2.2.2.2.2.2.2.2.2.2.2.2.2.2.2.2.2.2.2.2.1 x10.2.2.2.2.2.2.2.2.2.2.2.2.2.2.2.2.2.2.2.2.2.1 x10.2.2.2.2.2.2.2.2.2.2.2.2.2.2.2.2.2.2.2.2.2.2.1 x10.2.2.2.2.2.2.2.2.2.2.2.2.2.2.2.2.2.2.2.2.2.2.2.1 x10.2.2.2.2.2.2.2.2.2.2.2.2.2.2.2.2.2.2.2.2.2.2.2.2.1 x10.2.2.2.2.2.2.2.2.2.2.2.2.2.2.2.2.2.2.2.2.2.2.2.2.2.1 x10.2.2.2.2.2.2.2.2.2.2.2.2.2.2.2.2.2.2.2.2.2.2.2.2.2.2.1 x10.2.2.2.2.2.2.2.2.2.2.2.2.2.2.2.2.2.2.2.2.2.2.2.2.2.2.2.1 x10.2.2.2.2.2.2.2.2.2.2.2.2.2.2.2.2.2.2.2.2.2.2.2.2.2.2.2.2.1 x10.2.2.2.2.2.2.2.2.2.2.2.2.2.2.2.2.2.2.2.2.2.2.2.2.2.2.2.2.2.1 x10.2.2.2.2.2.2.2.2.2.2.2.2.2.2.2.2.2.2.2.2.2.2.2.2.2.2.2.2.2.2.1 x10.2.2.2.2.2.2.2.2.2.2.2.2.2.2.2.2.2.2.2.2.2.2.2.2.2.2.2.2.2.2.2.1 x10.2.2.2.2.2.2.2.2.2.2.2.2.2.2.2.2.2.2.2.2.2.2.2.2.2.2.2.2.2.2.2.2) fun x11=>
             some (x11.2.2.2.2.2.2.2.2.2.2.1,x11.2.2.2.2.2.2.2.2.2.2.2.1,x11.2.2.2.2.2.2.2.2.2.2.2.2.1,x11.2.2.2.2.2.2.2.2.2.2.2.2.2.1,x11.2.2.2.2.2.2.2.2.2.2.2.2.2.2.1,x11.2.2.2.2.2.2.2.2.2.2.2.2.2.2.2.1,x11.2.2.2.2.2.2.2.2.2.2.2.2.2.2.2.2.1,x11.2.2.2.2.2.2.2.2.2.2.2.2.2.2.2.2.2.1,x11.2.2.2.2.2.2.2.2.2.2.2.2.2.2.2.2.2.2.1,x11.2.2.2.2.2.2.2.2.2.2.2.2.2.2.2.2.2.2.2.1,x11.2.2.2.2.2.2.2.2.2.2.2.2.2.2.2.2.2.2.2.2)
def r33_Right.v0(κ:Nat)(a0:ByteArray)(a1:Bool)(a2 a3:Int)(a4:List ApiStep)(a5:ByteArray)(a6:Int)(a7 a8:Bool)(a9:ByteArray)(a10 a11:Int)(a12:ByteArray):Option (Bool×Int×Int×(List ApiStep)×ByteArray×Int×Bool×Bool×ByteArray×Int×Int×ByteArray):=
 bif (Ev.seq a0 (ByteArray.mk (List.toArray [])))then
  some (Bool.true,a2,a3,a4,a5,a6,a7,a8,a9,a10,a11,a12)
 else
  bif (!a1)then
   some (Bool.true,a2,a3,a4,a5,a6,a7,a8,a9,a10,a11,a12)
  else
   bif (decide (a2<(15:Int)))then
    bif (decide (a3<(1:Int)))then
     some (Bool.true,a2,a3,a4,a5,a6,a7,a8,a9,a10,a11,a12)
    else
     some ((decide (a3>(9:Int))),a2,a3,a4,a5,a6,a7,a8,a9,a10,a11,a12)
   else
    some (Bool.false,a2,a3,a4,a5,a6,a7,a8,a9,a10,a11,a12)
def r33_Right.v2(κ:Nat)(a0 a1:Bool)(a2 a3:Int)(a4:List ApiStep)(a5:ByteArray)(a6:Int)(a7 a8:Bool)(a9:ByteArray)(a10 a11:Int)(a12:ByteArray):Option (Bool×Bool×Bool×Int×Int×(List ApiStep)×ByteArray×Int×Bool×Bool×ByteArray×Int×Int×ByteArray):=
 bif (a2==(7:Int))then
  bif ((((List.length a4):Nat):Int)==(0:Int))then
   some (a0,a1,Bool.true,a2,a3,a4,a5,a6,a7,a8,a9,a10,a11,a12)
  else
   Option.bind (Ev.Seat.r15_Show κ a4) fun x1=>
    some (a0,a1,(Ev.seq x1 (ByteArray.mk (List.toArray []))),a2,a3,a4,a5,a6,a7,a8,a9,a10,a11,a12)
 else
  bif (a2==(8:Int))then
   bif ((((List.length a4):Nat):Int)==(0:Int))then
    some (a0,a1,Bool.true,a2,a3,a4,a5,a6,a7,a8,a9,a10,a11,a12)
   else
    Option.bind (Ev.Seat.r15_Show κ a4) fun x0=>
     some (a0,a1,(Ev.seq x0 (ByteArray.mk (List.toArray []))),a2,a3,a4,a5,a6,a7,a8,a9,a10,a11,a12)
  else
   some (a0,a1,Bool.false,a2,a3,a4,a5,a6,a7,a8,a9,a10,a11,a12)
def r33_Right.v4(κ:Nat)(a0 a1:Bool)(a2 a3:Int)(a4:List ApiStep)(a5:ByteArray)(a6:Int)(a7 a8:Bool)(a9:ByteArray)(a10 a11:Int)(a12:ByteArray):Option (Bool):=
 bif (a2 !=(7:Int))then
  bif (decide (a2<(15:Int)))then
   some Bool.true
  else
   bif (a2==(16:Int))then
    some Bool.true
   else
    some a0
 else
  bif a1 then
   bif (decide (a2<(15:Int)))then
    some Bool.true
   else
    bif (a2==(16:Int))then
     some Bool.true
    else
     some a0
  else
   some Bool.false
def r33_Right(κ:Nat)(a0 a1:Int)(a2:List ApiStep)(a3:ByteArray)(a4:Int)(a5 a6:Bool)(a7:ByteArray)(a8 a9:Int)(a10:ByteArray):Option (Bool):=
 Option.bind (Ev.Seat.r33_name κ a0) fun x0=>
  Option.bind (Ev.Seat.r33_only κ a0 a1 a2 a3 a4 a5 a6 a7 a8 a9 a10) fun x1=>
   Option.bind (Ev.Seat.r33_Same κ x1.1 x1.2.1 x1.2.2.1 x1.2.2.2.1 x1.2.2.2.2.1 x1.2.2.2.2.2.1 x1.2.2.2.2.2.2.1 x1.2.2.2.2.2.2.2.1 x1.2.2.2.2.2.2.2.2.1 x1.2.2.2.2.2.2.2.2.2.1 x1.2.2.2.2.2.2.2.2.2.2 a0 a1 a2 a3 a4 a5 a6 a7 a8 a9 a10) fun x2=>
    Option.bind (Ev.Seat.r33_Right.v0 κ x0 x2 a0 a1 a2 a3 a4 a5 a6 a7 a8 a9 a10) fun x3=>
     bif x3.1 then
      some Bool.false
     else
      Option.bind (Ev.Seat.r06_Ident κ x3.2.2.2.2.2.2.2.2.1) fun x4=>
       Option.bind (Ev.Seat.r05_Plain κ x3.2.2.2.2.1) fun x5=>
        Option.bind (Ev.Seat.r33_Right.v2 κ x4 x5 x3.2.1 x3.2.2.1 x3.2.2.2.1 x3.2.2.2.2.1 x3.2.2.2.2.2.1 x3.2.2.2.2.2.2.1 x3.2.2.2.2.2.2.2.1 x3.2.2.2.2.2.2.2.2.1 x3.2.2.2.2.2.2.2.2.2.1 x3.2.2.2.2.2.2.2.2.2.2.1 x3.2.2.2.2.2.2.2.2.2.2.2) fun x6=>
         bif x6.2.2.1 then
          some Bool.false
         else
          Option.bind (Ev.Seat.r33_Right.v4 κ x6.1 x6.2.1 x6.2.2.2.1 x6.2.2.2.2.1 x6.2.2.2.2.2.1 x6.2.2.2.2.2.2.1 x6.2.2.2.2.2.2.2.1 x6.2.2.2.2.2.2.2.2.1 x6.2.2.2.2.2.2.2.2.2.1 x6.2.2.2.2.2.2.2.2.2.2.1 x6.2.2.2.2.2.2.2.2.2.2.2.1 x6.2.2.2.2.2.2.2.2.2.2.2.2.1 x6.2.2.2.2.2.2.2.2.2.2.2.2.2) fun x7=>
           some x7
def r33_hex.w0(κ:Nat)(rec:(ByteArray×ByteArray×Int)→Option (ByteArray))(a0 a1:ByteArray)(a2:Int):Option (ByteArray):=
 bif (decide (a2<(((ByteArray.size a0):Nat):Int)))then
  bif (decide ((0:Int)≤a2))then
   Option.bind ((Array.toList (ByteArray.data a0))[(Int.toNat a2)]?) fun x0=>
    bif (decide ((0:Int)≤a2))then
     Option.bind ((Array.toList (ByteArray.data a0))[(Int.toNat a2)]?) fun x1=>
      bif ((((decide ((0:Int)≤(IntKind.wrap IntKind.i64 ((IntKind.wrap IntKind.i64 (Int.tdiv (IntKind.wrap IntKind.i64 (((UInt8.toNat x0):Nat):Int)) (16:Int)))+(1:Int)))))&&(decide ((IntKind.wrap IntKind.i64 ((IntKind.wrap IntKind.i64 (Int.tdiv (IntKind.wrap IntKind.i64 (((UInt8.toNat x0):Nat):Int)) (16:Int)))+(1:Int)))≤(((ByteArray.size (ByteArray.mk (List.toArray ((48:UInt8)::((49:UInt8)::((50:UInt8)::((51:UInt8)::((52:UInt8)::((53:UInt8)::((54:UInt8)::((55:UInt8)::((56:UInt8)::((57:UInt8)::((97:UInt8)::((98:UInt8)::((99:UInt8)::((100:UInt8)::((101:UInt8)::((102:UInt8)::[]))))))))))))))))))):Nat):Int))))&&(decide ((0:Int)≤(IntKind.wrap IntKind.i64 (Int.tdiv (IntKind.wrap IntKind.i64 (((UInt8.toNat x0):Nat):Int)) (16:Int))))))&&(decide ((IntKind.wrap IntKind.i64 (Int.tdiv (IntKind.wrap IntKind.i64 (((UInt8.toNat x0):Nat):Int)) (16:Int)))≤(IntKind.wrap IntKind.i64 ((IntKind.wrap IntKind.i64 (Int.tdiv (IntKind.wrap IntKind.i64 (((UInt8.toNat x0):Nat):Int)) (16:Int)))+(1:Int))))))then
       bif ((((decide ((0:Int)≤(IntKind.wrap IntKind.i64 ((Int.tmod (IntKind.wrap IntKind.i64 (((UInt8.toNat x1):Nat):Int)) (16:Int))+(1:Int)))))&&(decide ((IntKind.wrap IntKind.i64 ((Int.tmod (IntKind.wrap IntKind.i64 (((UInt8.toNat x1):Nat):Int)) (16:Int))+(1:Int)))≤(((ByteArray.size (ByteArray.mk (List.toArray ((48:UInt8)::((49:UInt8)::((50:UInt8)::((51:UInt8)::((52:UInt8)::((53:UInt8)::((54:UInt8)::((55:UInt8)::((56:UInt8)::((57:UInt8)::((97:UInt8)::((98:UInt8)::((99:UInt8)::((100:UInt8)::((101:UInt8)::((102:UInt8)::[]))))))))))))))))))):Nat):Int))))&&(decide ((0:Int)≤(Int.tmod (IntKind.wrap IntKind.i64 (((UInt8.toNat x1):Nat):Int)) (16:Int)))))&&(decide ((Int.tmod (IntKind.wrap IntKind.i64 (((UInt8.toNat x1):Nat):Int)) (16:Int))≤(IntKind.wrap IntKind.i64 ((Int.tmod (IntKind.wrap IntKind.i64 (((UInt8.toNat x1):Nat):Int)) (16:Int))+(1:Int))))))then
        bif (Nat.ble ((ByteArray.size (ByteArray.extract (ByteArray.mk (List.toArray ((48:UInt8)::((49:UInt8)::((50:UInt8)::((51:UInt8)::((52:UInt8)::((53:UInt8)::((54:UInt8)::((55:UInt8)::((56:UInt8)::((57:UInt8)::((97:UInt8)::((98:UInt8)::((99:UInt8)::((100:UInt8)::((101:UInt8)::((102:UInt8)::[])))))))))))))))))) (Int.toNat (IntKind.wrap IntKind.i64 (Int.tdiv (IntKind.wrap IntKind.i64 (((UInt8.toNat x0):Nat):Int)) (16:Int)))) (Int.toNat (IntKind.wrap IntKind.i64 ((IntKind.wrap IntKind.i64 (Int.tdiv (IntKind.wrap IntKind.i64 (((UInt8.toNat x0):Nat):Int)) (16:Int)))+(1:Int))))))+(ByteArray.size (ByteArray.extract (ByteArray.mk (List.toArray ((48:UInt8)::((49:UInt8)::((50:UInt8)::((51:UInt8)::((52:UInt8)::((53:UInt8)::((54:UInt8)::((55:UInt8)::((56:UInt8)::((57:UInt8)::((97:UInt8)::((98:UInt8)::((99:UInt8)::((100:UInt8)::((101:UInt8)::((102:UInt8)::[])))))))))))))))))) (Int.toNat (Int.tmod (IntKind.wrap IntKind.i64 (((UInt8.toNat x1):Nat):Int)) (16:Int))) (Int.toNat (IntKind.wrap IntKind.i64 ((Int.tmod (IntKind.wrap IntKind.i64 (((UInt8.toNat x1):Nat):Int)) (16:Int))+(1:Int))))))) Ev.maxI)then
         bif (Nat.ble ((ByteArray.size a1)+(ByteArray.size ((ByteArray.extract (ByteArray.mk (List.toArray ((48:UInt8)::((49:UInt8)::((50:UInt8)::((51:UInt8)::((52:UInt8)::((53:UInt8)::((54:UInt8)::((55:UInt8)::((56:UInt8)::((57:UInt8)::((97:UInt8)::((98:UInt8)::((99:UInt8)::((100:UInt8)::((101:UInt8)::((102:UInt8)::[])))))))))))))))))) (Int.toNat (IntKind.wrap IntKind.i64 (Int.tdiv (IntKind.wrap IntKind.i64 (((UInt8.toNat x0):Nat):Int)) (16:Int)))) (Int.toNat (IntKind.wrap IntKind.i64 ((IntKind.wrap IntKind.i64 (Int.tdiv (IntKind.wrap IntKind.i64 (((UInt8.toNat x0):Nat):Int)) (16:Int)))+(1:Int)))))++(ByteArray.extract (ByteArray.mk (List.toArray ((48:UInt8)::((49:UInt8)::((50:UInt8)::((51:UInt8)::((52:UInt8)::((53:UInt8)::((54:UInt8)::((55:UInt8)::((56:UInt8)::((57:UInt8)::((97:UInt8)::((98:UInt8)::((99:UInt8)::((100:UInt8)::((101:UInt8)::((102:UInt8)::[])))))))))))))))))) (Int.toNat (Int.tmod (IntKind.wrap IntKind.i64 (((UInt8.toNat x1):Nat):Int)) (16:Int))) (Int.toNat (IntKind.wrap IntKind.i64 ((Int.tmod (IntKind.wrap IntKind.i64 (((UInt8.toNat x1):Nat):Int)) (16:Int))+(1:Int)))))))) Ev.maxI)then
          rec (a0,(a1++((ByteArray.extract (ByteArray.mk (List.toArray ((48:UInt8)::((49:UInt8)::((50:UInt8)::((51:UInt8)::((52:UInt8)::((53:UInt8)::((54:UInt8)::((55:UInt8)::((56:UInt8)::((57:UInt8)::((97:UInt8)::((98:UInt8)::((99:UInt8)::((100:UInt8)::((101:UInt8)::((102:UInt8)::[])))))))))))))))))) (Int.toNat (IntKind.wrap IntKind.i64 (Int.tdiv (IntKind.wrap IntKind.i64 (((UInt8.toNat x0):Nat):Int)) (16:Int)))) (Int.toNat (IntKind.wrap IntKind.i64 ((IntKind.wrap IntKind.i64 (Int.tdiv (IntKind.wrap IntKind.i64 (((UInt8.toNat x0):Nat):Int)) (16:Int)))+(1:Int)))))++(ByteArray.extract (ByteArray.mk (List.toArray ((48:UInt8)::((49:UInt8)::((50:UInt8)::((51:UInt8)::((52:UInt8)::((53:UInt8)::((54:UInt8)::((55:UInt8)::((56:UInt8)::((57:UInt8)::((97:UInt8)::((98:UInt8)::((99:UInt8)::((100:UInt8)::((101:UInt8)::((102:UInt8)::[])))))))))))))))))) (Int.toNat (Int.tmod (IntKind.wrap IntKind.i64 (((UInt8.toNat x1):Nat):Int)) (16:Int))) (Int.toNat (IntKind.wrap IntKind.i64 ((Int.tmod (IntKind.wrap IntKind.i64 (((UInt8.toNat x1):Nat):Int)) (16:Int))+(1:Int))))))),(IntKind.wrap IntKind.i64 (a2+(1:Int))))
         else
          none
        else
         none
       else
        none
      else
       none
    else
     none
  else
   none
 else
  some a1
def r33_hex.l0(κ:Nat):Nat→(ByteArray×ByteArray×Int)→Option (ByteArray)
 |0,_ =>none
 |k+1,(a0,a1,a2)=>r33_hex.w0 κ (r33_hex.l0 κ k) a0 a1 a2
def r33_hex(κ:Nat)(a0:ByteArray):Option (ByteArray):=
 Option.bind (Ev.Seat.r33_hex.l0 κ κ (a0,(ByteArray.mk (List.toArray [])),(0:Int))) fun x0=>
  some x0
def r33_Line.v0(κ:Nat)(a0:ByteArray)(a1:Bool)(a2 a3:Int)(a4:List ApiStep)(a5:ByteArray)(a6:Int)(a7 a8:Bool)(a9:ByteArray)(a10 a11:Int)(a12:ByteArray):Option (ByteArray×Int×Int×(List ApiStep)×ByteArray×Int×Bool×Bool×ByteArray×Int×Int×ByteArray):=
 bif a1 then
  Option.bind (Ev.Seat.r06_ShowUint κ (IntKind.wrap IntKind.u64 a3)) fun x0=>
   bif (Nat.ble ((ByteArray.size x0)+(ByteArray.size (ByteArray.mk (List.toArray ((32:UInt8)::[]))))) Ev.maxI)then
    bif (Nat.ble ((ByteArray.size (x0++(ByteArray.mk (List.toArray ((32:UInt8)::[])))))+(ByteArray.size a0)) Ev.maxI)then
     some (((x0++(ByteArray.mk (List.toArray ((32:UInt8)::[]))))++a0),a2,a3,a4,a5,a6,a7,a8,a9,a10,a11,a12)
    else
     none
   else
    none
 else
  some (a0,a2,a3,a4,a5,a6,a7,a8,a9,a10,a11,a12)
def r33_Line.v2(κ:Nat)(a0 a1 a2:ByteArray)(a3:Bool)(a4 a5:Int)(a6:List ApiStep)(a7:ByteArray)(a8:Int)(a9 a10:Bool)(a11:ByteArray)(a12 a13:Int)(a14:ByteArray):Option (ByteArray×ByteArray×ByteArray×Int×Int×(List ApiStep)×ByteArray×Int×Bool×Bool×ByteArray×Int×Int×ByteArray):=
 bif a3 then
  some (a0,a1,(ByteArray.mk (List.toArray ((32:UInt8)::((114:UInt8)::((117:UInt8)::((110:UInt8)::((110:UInt8)::((105:UInt8)::((110:UInt8)::((103:UInt8)::[])))))))))),a4,a5,a6,a7,a8,a9,a10,a11,a12,a13,a14)
 else
  some (a0,a1,a2,a4,a5,a6,a7,a8,a9,a10,a11,a12,a13,a14)
def r33_Line.v4(κ:Nat)(a0 a1 a2 a3:ByteArray)(a4:Bool)(a5 a6:Int)(a7:List ApiStep)(a8:ByteArray)(a9:Int)(a10 a11:Bool)(a12:ByteArray)(a13 a14:Int)(a15:ByteArray):Option (ByteArray×ByteArray×ByteArray×ByteArray×Int×Int×(List ApiStep)×ByteArray×Int×Bool×Bool×ByteArray×Int×Int×ByteArray):=
 bif a4 then
  some (a0,a1,a2,(ByteArray.mk (List.toArray ((32:UInt8)::((98:UInt8)::((121:UInt8)::((116:UInt8)::((101:UInt8)::((115:UInt8)::[])))))))),a5,a6,a7,a8,a9,a10,a11,a12,a13,a14,a15)
 else
  some (a0,a1,a2,a3,a5,a6,a7,a8,a9,a10,a11,a12,a13,a14,a15)
def r33_Line.v7(κ:Nat)(a0 a1 a2 a3:ByteArray)(a4:Int)(a5:Bool)(a6 a7:Int)(a8:List ApiStep)(a9:ByteArray)(a10:Int)(a11 a12:Bool)(a13:ByteArray)(a14 a15:Int)(a16:ByteArray):Option (ByteArray×ByteArray×ByteArray×ByteArray×Int×Bool×Int×Int×(List ApiStep)×ByteArray×Int×Bool×Bool×ByteArray×Int×Int×ByteArray):=
 bif a5 then
  some (a0,a1,a2,a3,a4,a5,a6,a7,a8,a9,a10,a11,a12,a13,a14,a15,a16)
 else
  some (a0,a1,a2,a3,a4,(a4==(16:Int)),a6,a7,a8,a9,a10,a11,a12,a13,a14,a15,a16)
def r33_Line.v6(κ:Nat)(a0 a1 a2 a3:ByteArray)(a4:Int)(a5:Bool)(a6 a7:Int)(a8:List ApiStep)(a9:ByteArray)(a10:Int)(a11 a12:Bool)(a13:ByteArray)(a14 a15:Int)(a16:ByteArray):Option (ByteArray×ByteArray×ByteArray×ByteArray×Int×Bool×Int×Int×(List ApiStep)×ByteArray×Int×Bool×Bool×ByteArray×Int×Int×ByteArray):=
 bif a5 then
  some (a0,a1,a2,a3,a4,a5,a6,a7,a8,a9,a10,a11,a12,a13,a14,a15,a16)
 else
  Option.bind (Ev.Seat.r33_Line.v7 κ a0 a1 a2 a3 a4 (a4==(11:Int)) a6 a7 a8 a9 a10 a11 a12 a13 a14 a15 a16) fun x0=>
   some (x0.1,x0.2.1,x0.2.2.1,x0.2.2.2.1,x0.2.2.2.2.1,x0.2.2.2.2.2.1,x0.2.2.2.2.2.2.1,x0.2.2.2.2.2.2.2.1,x0.2.2.2.2.2.2.2.2.1,x0.2.2.2.2.2.2.2.2.2.1,x0.2.2.2.2.2.2.2.2.2.2.1,x0.2.2.2.2.2.2.2.2.2.2.2.1,x0.2.2.2.2.2.2.2.2.2.2.2.2.1,x0.2.2.2.2.2.2.2.2.2.2.2.2.2.1,x0.2.2.2.2.2.2.2.2.2.2.2.2.2.2.1,x0.2.2.2.2.2.2.2.2.2.2.2.2.2.2.2.1,x0.2.2.2.2.2.2.2.2.2.2.2.2.2.2.2.2)
def r33_Line.v10(κ:Nat)(a0:ByteArray)(a1:Int)(a2:Bool)(a3 a4:Int)(a5:List ApiStep)(a6:ByteArray)(a7:Int)(a8 a9:Bool)(a10:ByteArray)(a11 a12:Int)(a13:ByteArray):Option (ByteArray×Bool×Int×Int×(List ApiStep)×ByteArray×Int×Bool×Bool×ByteArray×Int×Int×ByteArray):=
 bif a2 then
  some (a0,a2,a3,a4,a5,a6,a7,a8,a9,a10,a11,a12,a13)
 else
  some (a0,(a1==(18:Int)),a3,a4,a5,a6,a7,a8,a9,a10,a11,a12,a13)
def r33_Line(κ:Nat)(a0 a1:Int)(a2:List ApiStep)(a3:ByteArray)(a4:Int)(a5 a6:Bool)(a7:ByteArray)(a8 a9:Int)(a10:ByteArray):Option (ByteArray):=
 Option.bind (Ev.Seat.r33_Right κ a0 a1 a2 a3 a4 a5 a6 a7 a8 a9 a10) fun x0=>
  bif (!x0)then
   some (ByteArray.mk (List.toArray []))
  else
   Option.bind (Ev.Seat.r33_name κ a0) fun x1=>
    Option.bind (Ev.Seat.r33_Line.v0 κ x1 (decide (a0<(15:Int))) a0 a1 a2 a3 a4 a5 a6 a7 a8 a9 a10) fun x2=>
     Option.bind (Ev.Seat.r06_ShowUint κ x2.2.2.2.2.2.1) fun x3=>
      bif (Nat.ble ((ByteArray.size (ByteArray.mk (List.toArray ((32:UInt8)::[]))))+(ByteArray.size x3)) Ev.maxI)then
       Option.bind (Ev.Seat.r33_Line.v2 κ x2.1 ((ByteArray.mk (List.toArray ((32:UInt8)::[])))++x3) (ByteArray.mk (List.toArray ((32:UInt8)::((99:UInt8)::((97:UInt8)::((110:UInt8)::((100:UInt8)::((105:UInt8)::((100:UInt8)::((97:UInt8)::((116:UInt8)::((101:UInt8)::[])))))))))))) x2.2.2.2.2.2.2.1 x2.2.1 x2.2.2.1 x2.2.2.2.1 x2.2.2.2.2.1 x2.2.2.2.2.2.1 x2.2.2.2.2.2.2.1 x2.2.2.2.2.2.2.2.1 x2.2.2.2.2.2.2.2.2.1 x2.2.2.2.2.2.2.2.2.2.1 x2.2.2.2.2.2.2.2.2.2.2.1 x2.2.2.2.2.2.2.2.2.2.2.2) fun x4=>
        Option.bind (Ev.Seat.r33_Line.v4 κ x4.1 x4.2.1 x4.2.2.1 (ByteArray.mk (List.toArray ((32:UInt8)::((116:UInt8)::((101:UInt8)::((120:UInt8)::((116:UInt8)::[]))))))) x4.2.2.2.2.2.2.2.2.2.1 x4.2.2.2.1 x4.2.2.2.2.1 x4.2.2.2.2.2.1 x4.2.2.2.2.2.2.1 x4.2.2.2.2.2.2.2.1 x4.2.2.2.2.2.2.2.2.1 x4.2.2.2.2.2.2.2.2.2.1 x4.2.2.2.2.2.2.2.2.2.2.1 x4.2.2.2.2.2.2.2.2.2.2.2.1 x4.2.2.2.2.2.2.2.2.2.2.2.2.1 x4.2.2.2.2.2.2.2.2.2.2.2.2.2) fun x5=>
         bif (x5.2.2.2.2.1==(7:Int))then
          bif (Nat.ble ((ByteArray.size x5.1)+(ByteArray.size (ByteArray.mk (List.toArray ((32:UInt8)::[]))))) Ev.maxI)then
           Option.bind (Ev.Seat.r15_Show κ x5.2.2.2.2.2.2.1) fun x12=>
            bif (Nat.ble ((ByteArray.size (x5.1++(ByteArray.mk (List.toArray ((32:UInt8)::[])))))+(ByteArray.size x12)) Ev.maxI)then
             bif (Nat.ble ((ByteArray.size ((x5.1++(ByteArray.mk (List.toArray ((32:UInt8)::[]))))++x12))+(ByteArray.size (ByteArray.mk (List.toArray ((32:UInt8)::[]))))) Ev.maxI)then
              bif (Nat.ble ((ByteArray.size (((x5.1++(ByteArray.mk (List.toArray ((32:UInt8)::[]))))++x12)++(ByteArray.mk (List.toArray ((32:UInt8)::[])))))+(ByteArray.size x5.2.2.2.2.2.2.2.1)) Ev.maxI)then
               some ((((x5.1++(ByteArray.mk (List.toArray ((32:UInt8)::[]))))++x12)++(ByteArray.mk (List.toArray ((32:UInt8)::[]))))++x5.2.2.2.2.2.2.2.1)
              else
               none
             else
              none
            else
             none
          else
           none
         else
          bif (x5.2.2.2.2.1==(8:Int))then
           bif (Nat.ble ((ByteArray.size x5.1)+(ByteArray.size (ByteArray.mk (List.toArray ((32:UInt8)::[]))))) Ev.maxI)then
            Option.bind (Ev.Seat.r15_Show κ x5.2.2.2.2.2.2.1) fun x11=>
             bif (Nat.ble ((ByteArray.size (x5.1++(ByteArray.mk (List.toArray ((32:UInt8)::[])))))+(ByteArray.size x11)) Ev.maxI)then
              some ((x5.1++(ByteArray.mk (List.toArray ((32:UInt8)::[]))))++x11)
             else
              none
           else
            none
          else
           bif (x5.2.2.2.2.1==(9:Int))then
            bif (x5.2.2.2.2.2.2.2.2.1==(0:Int))then
             some x5.1
            else
             bif (Nat.ble ((ByteArray.size x5.1)+(ByteArray.size x5.2.1)) Ev.maxI)then
              some (x5.1++x5.2.1)
             else
              none
           else
            Option.bind (Ev.Seat.r33_Line.v6 κ x5.1 x5.2.1 x5.2.2.1 x5.2.2.2.1 x5.2.2.2.2.1 (x5.2.2.2.2.1==(10:Int)) x5.2.2.2.2.1 x5.2.2.2.2.2.1 x5.2.2.2.2.2.2.1 x5.2.2.2.2.2.2.2.1 x5.2.2.2.2.2.2.2.2.1 x5.2.2.2.2.2.2.2.2.2.1 x5.2.2.2.2.2.2.2.2.2.2.1 x5.2.2.2.2.2.2.2.2.2.2.2.1 x5.2.2.2.2.2.2.2.2.2.2.2.2.1 x5.2.2.2.2.2.2.2.2.2.2.2.2.2.1 x5.2.2.2.2.2.2.2.2.2.2.2.2.2.2) fun x6=>
             bif x6.2.2.2.2.2.1 then
              bif (Nat.ble ((ByteArray.size x6.1)+(ByteArray.size x6.2.1)) Ev.maxI)then
               some (x6.1++x6.2.1)
              else
               none
             else
              bif (x6.2.2.2.2.1==(12:Int))then
               bif (Nat.ble ((ByteArray.size x6.1)+(ByteArray.size x6.2.2.1)) Ev.maxI)then
                bif (Nat.ble ((ByteArray.size (x6.1++x6.2.2.1))+(ByteArray.size x6.2.2.2.1)) Ev.maxI)then
                 bif (Nat.ble ((ByteArray.size ((x6.1++x6.2.2.1)++x6.2.2.2.1))+(ByteArray.size x6.2.1)) Ev.maxI)then
                  some (((x6.1++x6.2.2.1)++x6.2.2.2.1)++x6.2.1)
                 else
                  none
                else
                 none
               else
                none
              else
               bif (x6.2.2.2.2.1==(13:Int))then
                bif (Nat.ble ((ByteArray.size x6.1)+(ByteArray.size (ByteArray.mk (List.toArray ((32:UInt8)::((116:UInt8)::((101:UInt8)::((120:UInt8)::((116:UInt8)::((32:UInt8)::[])))))))))) Ev.maxI)then
                 bif (Nat.ble ((ByteArray.size (x6.1++(ByteArray.mk (List.toArray ((32:UInt8)::((116:UInt8)::((101:UInt8)::((120:UInt8)::((116:UInt8)::((32:UInt8)::[]))))))))))+(ByteArray.size x6.2.2.2.2.2.2.2.2.2.2.2.2.2.2.2.2)) Ev.maxI)then
                  some ((x6.1++(ByteArray.mk (List.toArray ((32:UInt8)::((116:UInt8)::((101:UInt8)::((120:UInt8)::((116:UInt8)::((32:UInt8)::[])))))))))++x6.2.2.2.2.2.2.2.2.2.2.2.2.2.2.2.2)
                 else
                  none
                else
                 none
               else
                bif (x6.2.2.2.2.1==(14:Int))then
                 bif (Nat.ble ((ByteArray.size x6.1)+(ByteArray.size (ByteArray.mk (List.toArray ((32:UInt8)::((98:UInt8)::((121:UInt8)::((116:UInt8)::((101:UInt8)::((115:UInt8)::((32:UInt8)::[]))))))))))) Ev.maxI)then
                  Option.bind (Ev.Seat.r33_hex κ x6.2.2.2.2.2.2.2.2.2.2.2.2.2.2.2.2) fun x10=>
                   bif (Nat.ble ((ByteArray.size (x6.1++(ByteArray.mk (List.toArray ((32:UInt8)::((98:UInt8)::((121:UInt8)::((116:UInt8)::((101:UInt8)::((115:UInt8)::((32:UInt8)::[])))))))))))+(ByteArray.size x10)) Ev.maxI)then
                    some ((x6.1++(ByteArray.mk (List.toArray ((32:UInt8)::((98:UInt8)::((121:UInt8)::((116:UInt8)::((101:UInt8)::((115:UInt8)::((32:UInt8)::[]))))))))))++x10)
                   else
                    none
                 else
                  none
                else
                 bif (x6.2.2.2.2.1==(15:Int))then
                  bif (Nat.ble ((ByteArray.size x6.1)+(ByteArray.size (ByteArray.mk (List.toArray ((32:UInt8)::[]))))) Ev.maxI)then
                   bif (Nat.ble ((ByteArray.size (x6.1++(ByteArray.mk (List.toArray ((32:UInt8)::[])))))+(ByteArray.size x6.2.2.2.2.2.2.2.2.2.2.2.2.2.1)) Ev.maxI)then
                    bif (Nat.ble ((ByteArray.size ((x6.1++(ByteArray.mk (List.toArray ((32:UInt8)::[]))))++x6.2.2.2.2.2.2.2.2.2.2.2.2.2.1))+(ByteArray.size (ByteArray.mk (List.toArray ((32:UInt8)::[]))))) Ev.maxI)then
                     Option.bind (Ev.Seat.r06_ShowUint κ x6.2.2.2.2.2.2.2.2.2.2.2.2.2.2.1) fun x8=>
                      bif (Nat.ble ((ByteArray.size (((x6.1++(ByteArray.mk (List.toArray ((32:UInt8)::[]))))++x6.2.2.2.2.2.2.2.2.2.2.2.2.2.1)++(ByteArray.mk (List.toArray ((32:UInt8)::[])))))+(ByteArray.size x8)) Ev.maxI)then
                       bif (Nat.ble ((ByteArray.size ((((x6.1++(ByteArray.mk (List.toArray ((32:UInt8)::[]))))++x6.2.2.2.2.2.2.2.2.2.2.2.2.2.1)++(ByteArray.mk (List.toArray ((32:UInt8)::[]))))++x8))+(ByteArray.size (ByteArray.mk (List.toArray ((32:UInt8)::[]))))) Ev.maxI)then
                        Option.bind (Ev.Seat.r06_ShowUint κ x6.2.2.2.2.2.2.2.2.2.2.2.2.2.2.2.1) fun x9=>
                         bif (Nat.ble ((ByteArray.size (((((x6.1++(ByteArray.mk (List.toArray ((32:UInt8)::[]))))++x6.2.2.2.2.2.2.2.2.2.2.2.2.2.1)++(ByteArray.mk (List.toArray ((32:UInt8)::[]))))++x8)++(ByteArray.mk (List.toArray ((32:UInt8)::[])))))+(ByteArray.size x9)) Ev.maxI)then
                          some ((((((x6.1++(ByteArray.mk (List.toArray ((32:UInt8)::[]))))++x6.2.2.2.2.2.2.2.2.2.2.2.2.2.1)++(ByteArray.mk (List.toArray ((32:UInt8)::[]))))++x8)++(ByteArray.mk (List.toArray ((32:UInt8)::[]))))++x9)
                         else
                          none
                       else
                        none
                      else
                       none
                    else
                     none
                   else
                    none
                  else
                   none
                 else
                  Option.bind (Ev.Seat.r33_Line.v10 κ x6.1 x6.2.2.2.2.1 (x6.2.2.2.2.1==(17:Int)) x6.2.2.2.2.2.2.1 x6.2.2.2.2.2.2.2.1 x6.2.2.2.2.2.2.2.2.1 x6.2.2.2.2.2.2.2.2.2.1 x6.2.2.2.2.2.2.2.2.2.2.1 x6.2.2.2.2.2.2.2.2.2.2.2.1 x6.2.2.2.2.2.2.2.2.2.2.2.2.1 x6.2.2.2.2.2.2.2.2.2.2.2.2.2.1 x6.2.2.2.2.2.2.2.2.2.2.2.2.2.2.1 x6.2.2.2.2.2.2.2.2.2.2.2.2.2.2.2.1 x6.2.2.2.2.2.2.2.2.2.2.2.2.2.2.2.2) fun x7=>
                   bif x7.2.1 then
                    bif (Nat.ble ((ByteArray.size x7.1)+(ByteArray.size (ByteArray.mk (List.toArray ((32:UInt8)::[]))))) Ev.maxI)then
                     bif (Nat.ble ((ByteArray.size (x7.1++(ByteArray.mk (List.toArray ((32:UInt8)::[])))))+(ByteArray.size x7.2.2.2.2.2.2.2.2.2.1)) Ev.maxI)then
                      some ((x7.1++(ByteArray.mk (List.toArray ((32:UInt8)::[]))))++x7.2.2.2.2.2.2.2.2.2.1)
                     else
                      none
                    else
                     none
                   else
                    some x7.1
      else
       none
def l33_Plain(κ:Nat)(a0 a1:Int)(a2:List ApiStep)(a3:ByteArray)(a4:Int)(a5 a6:Bool)(a7:ByteArray)(a8 a9:Int)(a10:List Int):Option Ty17:=
 some (a0,a1,a2,a3,a4,a5,a6,a7,a8,a9,(ByteArray.mk (List.toArray (List.map (fun x=>(UInt8.ofNat (Int.toNat x))) a10))))
def l33_WordsLines.v0(κ:Nat)(a0 a1:Int)(a2:List ApiStep)(a3:ByteArray)(a4:Int)(a5 a6:Bool)(a7:ByteArray)(a8 a9:Int)(a10:List Int)(a11 a12:Int)(a13:List ApiStep)(a14:ByteArray)(a15:Int)(a16 a17:Bool)(a18:ByteArray)(a19 a20:Int)(a21:List Int):Option (Bool×Int×Int×(List ApiStep)×ByteArray×Int×Bool×Bool×ByteArray×Int×Int×(List Int)×Int×Int×(List ApiStep)×ByteArray×Int×Bool×Bool×ByteArray×Int×Int×(List Int)):=
 bif (decide ((((List.length a2):Nat):Int)>(20:Int)))then
  some (Bool.true,a0,a1,a2,a3,a4,a5,a6,a7,a8,a9,a10,a11,a12,a13,a14,a15,a16,a17,a18,a19,a20,a21)
 else
  bif (decide ((((List.length a13):Nat):Int)>(20:Int)))then
   some (Bool.true,a0,a1,a2,a3,a4,a5,a6,a7,a8,a9,a10,a11,a12,a13,a14,a15,a16,a17,a18,a19,a20,a21)
  else
   bif (decide ((((List.length a10):Nat):Int)>(3000:Int)))then
    some (Bool.true,a0,a1,a2,a3,a4,a5,a6,a7,a8,a9,a10,a11,a12,a13,a14,a15,a16,a17,a18,a19,a20,a21)
   else
    bif (decide ((((List.length a21):Nat):Int)>(3000:Int)))then
     some (Bool.true,a0,a1,a2,a3,a4,a5,a6,a7,a8,a9,a10,a11,a12,a13,a14,a15,a16,a17,a18,a19,a20,a21)
    else
     bif (decide ((((ByteArray.size a3):Nat):Int)>(200:Int)))then
      some (Bool.true,a0,a1,a2,a3,a4,a5,a6,a7,a8,a9,a10,a11,a12,a13,a14,a15,a16,a17,a18,a19,a20,a21)
     else
      some ((decide ((((ByteArray.size a7):Nat):Int)>(200:Int))),a0,a1,a2,a3,a4,a5,a6,a7,a8,a9,a10,a11,a12,a13,a14,a15,a16,a17,a18,a19,a20,a21)
def l33_WordsLines.v2(κ:Nat)(a0:ByteArray)(a1:Bool)(a2 a3:Int)(a4:List ApiStep)(a5:ByteArray)(a6:Int)(a7 a8:Bool)(a9:ByteArray)(a10 a11:Int)(a12:List Int)(a13 a14:Int)(a15:List ApiStep)(a16:ByteArray)(a17:Int)(a18 a19:Bool)(a20:ByteArray)(a21 a22:Int)(a23:List Int):Option (ByteArray×Bool×Bool×Int×Int×(List ApiStep)×ByteArray×Int×Bool×Bool×ByteArray×Int×Int×(List Int)):=
 Option.bind (Ev.Seat.r33_Right κ a2 a3 a4 a5 a6 a7 a8 a9 a10 a11 (ByteArray.mk (List.toArray (List.map (fun x=>(UInt8.ofNat (Int.toNat x))) a12)))) fun x0=>
  bif (!(a1==x0))then
   some (a0,a1,Bool.true,a2,a3,a4,a5,a6,a7,a8,a9,a10,a11,a12)
  else
   Option.bind (Ev.Seat.r33_Line κ a2 a3 a4 a5 a6 a7 a8 a9 a10 a11 (ByteArray.mk (List.toArray (List.map (fun x=>(UInt8.ofNat (Int.toNat x))) a12)))) fun x1=>
    bif (!(Ev.seq a0 x1))then
     some (a0,a1,Bool.true,a2,a3,a4,a5,a6,a7,a8,a9,a10,a11,a12)
    else
     Option.bind (Ev.Seat.words_Same κ a2 a3 a4 a5 a6 a7 a8 a9 a10 a11 a12 a13 a14 a15 a16 a17 a18 a19 a20 a21 a22 a23) fun x2=>
      Option.bind (Ev.Seat.r33_Same κ a2 a3 a4 a5 a6 a7 a8 a9 a10 a11 (ByteArray.mk (List.toArray (List.map (fun x=>(UInt8.ofNat (Int.toNat x))) a12))) a13 a14 a15 a16 a17 a18 a19 a20 a21 a22 (ByteArray.mk (List.toArray (List.map (fun x=>(UInt8.ofNat (Int.toNat x))) a23)))) fun x3=>
       some (a0,a1,(!(x2==x3)),a2,a3,a4,a5,a6,a7,a8,a9,a10,a11,a12)
def l33_WordsLines.v4(κ:Nat)(a0:Bool)(a1 a2 a3:Int)(a4:List ApiStep)(a5:ByteArray)(a6:Int)(a7 a8:Bool)(a9:ByteArray)(a10 a11:Int)(a12:List Int)(a13 a14:Int)(a15:List ApiStep)(a16:ByteArray)(a17:Int)(a18 a19:Bool)(a20:ByteArray)(a21 a22:Int)(a23:List Int):Option (Bool):=
 bif (!a0)then
  some Bool.true
 else
  bif (a1==(0:Int))then
   Option.bind (Ev.Seat.r33_Same κ a13 a14 a15 a16 a17 a18 a19 a20 a21 a22 (ByteArray.mk (List.toArray (List.map (fun x=>(UInt8.ofNat (Int.toNat x))) a23))) a2 a3 a4 a5 a6 a7 a8 a9 a10 a11 (ByteArray.mk (List.toArray (List.map (fun x=>(UInt8.ofNat (Int.toNat x))) a12)))) fun x0=>
    some x0
  else
   some Bool.false
def l33_WordsLines(κ:Nat)(a0 a1:Int)(a2:List ApiStep)(a3:ByteArray)(a4:Int)(a5 a6:Bool)(a7:ByteArray)(a8 a9:Int)(a10:List Int)(a11 a12:Int)(a13:List ApiStep)(a14:ByteArray)(a15:Int)(a16 a17:Bool)(a18:ByteArray)(a19 a20:Int)(a21:List Int):Option (Bool):=
 Option.bind (Ev.Seat.l33_awake κ) fun x0=>
  bif (!x0)then
   some Bool.false
  else
   Option.bind (Ev.Seat.l33_WordsLines.v0 κ a0 a1 a2 a3 a4 a5 a6 a7 a8 a9 a10 a11 a12 a13 a14 a15 a16 a17 a18 a19 a20 a21) fun x1=>
    bif x1.1 then
     some Bool.true
    else
     Option.bind (Ev.Seat.words_Line κ x1.2.1 x1.2.2.1 x1.2.2.2.1 x1.2.2.2.2.1 x1.2.2.2.2.2.1 x1.2.2.2.2.2.2.1 x1.2.2.2.2.2.2.2.1 x1.2.2.2.2.2.2.2.2.1 x1.2.2.2.2.2.2.2.2.2.1 x1.2.2.2.2.2.2.2.2.2.2.1 x1.2.2.2.2.2.2.2.2.2.2.2.1) fun x2=>
      Option.bind (Ev.Seat.words_Right κ x1.2.1 x1.2.2.1 x1.2.2.2.1 x1.2.2.2.2.1 x1.2.2.2.2.2.1 x1.2.2.2.2.2.2.1 x1.2.2.2.2.2.2.2.1 x1.2.2.2.2.2.2.2.2.1 x1.2.2.2.2.2.2.2.2.2.1 x1.2.2.2.2.2.2.2.2.2.2.1 x1.2.2.2.2.2.2.2.2.2.2.2.1) fun x3=>
       Option.bind (Ev.Seat.l33_WordsLines.v2 κ x2 x3 x1.2.1 x1.2.2.1 x1.2.2.2.1 x1.2.2.2.2.1 x1.2.2.2.2.2.1 x1.2.2.2.2.2.2.1 x1.2.2.2.2.2.2.2.1 x1.2.2.2.2.2.2.2.2.1 x1.2.2.2.2.2.2.2.2.2.1 x1.2.2.2.2.2.2.2.2.2.2.1 x1.2.2.2.2.2.2.2.2.2.2.2.1 x1.2.2.2.2.2.2.2.2.2.2.2.2.1 x1.2.2.2.2.2.2.2.2.2.2.2.2.2.1 x1.2.2.2.2.2.2.2.2.2.2.2.2.2.2.1 x1.2.2.2.2.2.2.2.2.2.2.2.2.2.2.2.1 x1.2.2.2.2.2.2.2.2.2.2.2.2.2.2.2.2.1 x1.2.2.2.2.2.2.2.2.2.2.2.2.2.2.2.2.2.1 x1.2.2.2.2.2.2.2.2.2.2.2.2.2.2.2.2.2.2.1 x1.2.2.2.2.2.2.2.2.2.2.2.2.2.2.2.2.2.2.2.1 x1.2.2.2.2.2.2.2.2.2.2.2.2.2.2.2.2.2.2.2.2.1 x1.2.2.2.2.2.2.2.2.2.2.2.2.2.2.2.2.2.2.2.2.2.1 x1.2.2.2.2.2.2.2.2.2.2.2.2.2.2.2.2.2.2.2.2.2.2) fun x4=>
        bif x4.2.2.1 then
         some Bool.false
        else
         Option.bind (Ev.Seat.words_Parse κ x4.1) fun x5=>
          Option.bind (Ev.Seat.l33_WordsLines.v4 κ x4.2.1 x5.2.2.2.2.2.2.2.2.2.2.2 x4.2.2.2.1 x4.2.2.2.2.1 x4.2.2.2.2.2.1 x4.2.2.2.2.2.2.1 x4.2.2.2.2.2.2.2.1 x4.2.2.2.2.2.2.2.2.1 x4.2.2.2.2.2.2.2.2.2.1 x4.2.2.2.2.2.2.2.2.2.2.1 x4.2.2.2.2.2.2.2.2.2.2.2.1 x4.2.2.2.2.2.2.2.2.2.2.2.2.1 x4.2.2.2.2.2.2.2.2.2.2.2.2.2 x5.1 x5.2.1 x5.2.2.1 x5.2.2.2.1 x5.2.2.2.2.1 x5.2.2.2.2.2.1 x5.2.2.2.2.2.2.1 x5.2.2.2.2.2.2.2.1 x5.2.2.2.2.2.2.2.2.1 x5.2.2.2.2.2.2.2.2.2.1 x5.2.2.2.2.2.2.2.2.2.2.1) fun x6=>
           some x6
end Go.Proofs.YtdoifigogbdodaaGreatDoor.Ev.Seat
