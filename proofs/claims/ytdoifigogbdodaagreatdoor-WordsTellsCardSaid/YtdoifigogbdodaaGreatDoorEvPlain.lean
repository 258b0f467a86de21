import Derived.Test.YtdoifigogbdodaaGreatDoorEvSeat
set_option linter.unusedVariables false
set_option linter.unusedSimpArgs false
set_option maxHeartbeats 1000000
namespace Go.Proofs.YtdoifigogbdodaaGreatDoor.Ev.Seat
open Go Ev Go.Proofs
abbrev vh{A0 A1 A2 A3 A4 A5 A6 A7 A8 A9 A10 A11 A12 R:Type}(f:A0→A1→A2→A3→A4→A5→A6→A7→A8→A9→A10→A11→A12→R)(x:A0×A1×A2×A3×A4×A5×A6×A7×A8×A9×A10×A11×A12):R:=f x.1 x.2.1 x.2.2.1 x.2.2.2.1 x.2.2.2.2.1 x.2.2.2.2.2.1 x.2.2.2.2.2.2.1 x.2.2.2.2.2.2.2.1 x.2.2.2.2.2.2.2.2.1 x.2.2.2.2.2.2.2.2.2.1 x.2.2.2.2.2.2.2.2.2.2.1 x.2.2.2.2.2.2.2.2.2.2.2.1 x.2.2.2.2.2.2.2.2.2.2.2.2
abbrev zQl{A0 A1 A2 A3 A4 A5 A6 A7 A8 A9 A10 A11 A12 A13 R:Type}(f:A0→A1→A2→A3→A4→A5→A6→A7→A8→A9→A10→A11→A12→A13→R)(x:A0×A1×A2×A3×A4×A5×A6×A7×A8×A9×A10×A11×A12×A13):R:=f x.1 x.2.1 x.2.2.1 x.2.2.2.1 x.2.2.2.2.1 x.2.2.2.2.2.1 x.2.2.2.2.2.2.1 x.2.2.2.2.2.2.2.1 x.2.2.2.2.2.2.2.2.1 x.2.2.2.2.2.2.2.2.2.1 x.2.2.2.2.2.2.2.2.2.2.1 x.2.2.2.2.2.2.2.2.2.2.2.1 x.2.2.2.2.2.2.2.2.2.2.2.2.1 x.2.2.2.2.2.2.2.2.2.2.2.2.2
abbrev zXm{A0 A1 A2 A3 A4 A5 A6 A7 A8 A9 A10 A11 A12 A13 A14 A15 A16 R:Type}(f:A0→A1→A2→A3→A4→A5→A6→A7→A8→A9→A10→A11→A12→A13→A14→A15→A16→R)(x:A0×A1×A2×A3×A4×A5×A6×A7×A8×A9×A10×A11×A12×A13×A14×A15×A16):R:=f x.1 x.2.1 x.2.2.1 x.2.2.2.1 x.2.2.2.2.1 x.2.2.2.2.2.1 x.2.2.2.2.2.2.1 x.2.2.2.2.2.2.2.1 x.2.2.2.2.2.2.2.2.1 x.2.2.2.2.2.2.2.2.2.1 x.2.2.2.2.2.2.2.2.2.2.1 x.2.2.2.2.2.2.2.2.2.2.2.1 x.2.2.2.2.2.2.2.2.2.2.2.2.1 x.2.2.2.2.2.2.2.2.2.2.2.2.2.1 x.2.2.2.2.2.2.2.2.2.2.2.2.2.2.1 x.2.2.2.2.2.2.2.2.2.2.2.2.2.2.2.1 x.2.2.2.2.2.2.2.2.2.2.2.2.2.2.2.2
abbrev qA{A0 A1 A2 A3 A4 A5 A6 A7 A8 A9 A10 A11 A12 A13 A14 A15 A16 A17 A18 A19 A20 A21 A22 A23 A24 R:Type}(f:A0→A1→A2→A3→A4→A5→A6→A7→A8→A9→A10→A11→A12→A13→A14→A15→A16→A17→A18→A19→A20→A21→A22→A23→A24→R)(x:A0×A1×A2×A3×A4×A5×A6×A7×A8×A9×A10×A11×A12×A13×A14×A15×A16×A17×A18×A19×A20×A21×A22×A23×A24):R:=f x.1 x.2.1 x.2.2.1 x.2.2.2.1 x.2.2.2.2.1 x.2.2.2.2.2.1 x.2.2.2.2.2.2.1 x.2.2.2.2.2.2.2.1 x.2.2.2.2.2.2.2.2.1 x.2.2.2.2.2.2.2.2.2.1 x.2.2.2.2.2.2.2.2.2.2.1 x.2.2.2.2.2.2.2.2.2.2.2.1 x.2.2.2.2.2.2.2.2.2.2.2.2.1 x.2.2.2.2.2.2.2.2.2.2.2.2.2.1 x.2.2.2.2.2.2.2.2.2.2.2.2.2.2.1 x.2.2.2.2.2.2.2.2.2.2.2.2.2.2.2.1 x.2.2.2.2.2.2.2.2.2.2.2.2.2.2.2.2.1 x.2.2.2.2.2.2.2.2.2.2.2.2.2.2.2.2.2.1 x.2.2.2.2.2.2.2.2.2.2.2.2.2.2.2.2.2.2.1 x.2.2.2.2.2.2.2.2.2.2.2.2.2.2.2.2.2.2.2.1 x.2.2.2.2.2.2.2.2.2.2.2.2.2.2.2.2.2.2.2.2.1 x.2.2.2.2.2.2.2.2.2.2.2.2.2.2.2.2.2.2.2.2.2.1 x.2.2.2.2.2.2.2.2.2.2.2.2.2.2.2.2.2.2.2.2.2.2.1 x.2.2.2.2.2.2.2.2.2.2.2.2.2.2.2.2.2.2.2.2.2.2.2.1 x.2.2.2.2.2.2.2.2.2.2.2.2.2.2.2.2.2.2.2.2.2.2.2.2
abbrev zBU{A0 A1 A2 A3 A4 A5 A6 A7 A8 A9 A10 A11 A12 A13 A14 A15 A16 A17 A18 A19 A20 A21 A22 A23 A24 A25 R:Type}(f:A0→A1→A2→A3→A4→A5→A6→A7→A8→A9→A10→A11→A12→A13→A14→A15→A16→A17→A18→A19→A20→A21→A22→A23→A24→A25→R)(x:A0×A1×A2×A3×A4×A5×A6×A7×A8×A9×A10×A11×A12×A13×A14×A15×A16×A17×A18×A19×A20×A21×A22×A23×A24×A25):R:=f x.1 x.2.1 x.2.2.1 x.2.2.2.1 x.2.2.2.2.1 x.2.2.2.2.2.1 x.2.2.2.2.2.2.1 x.2.2.2.2.2.2.2.1 x.2.2.2.2.2.2.2.2.1 x.2.2.2.2.2.2.2.2.2.1 x.2.2.2.2.2.2.2.2.2.2.1 x.2.2.2.2.2.2.2.2.2.2.2.1 x.2.2.2.2.2.2.2.2.2.2.2.2.1 x.2.2.2.2.2.2.2.2.2.2.2.2.2.1 x.2.2.2.2.2.2.2.2.2.2.2.2.2.2.1 x.2.2.2.2.2.2.2.2.2.2.2.2.2.2.2.1 x.2.2.2.2.2.2.2.2.2.2.2.2.2.2.2.2.1 x.2.2.2.2.2.2.2.2.2.2.2.2.2.2.2.2.2.1 x.2.2.2.2.2.2.2.2.2.2.2.2.2.2.2.2.2.2.1 x.2.2.2.2.2.2.2.2.2.2.2.2.2.2.2.2.2.2.2.1 x.2.2.2.2.2.2.2.2.2.2.2.2.2.2.2.2.2.2.2.2.1 x.2.2.2.2.2.2.2.2.2.2.2.2.2.2.2.2.2.2.2.2.2.1 x.2.2.2.2.2.2.2.2.2.2.2.2.2.2.2.2.2.2.2.2.2.2.1 x.2.2.2.2.2.2.2.2.2.2.2.2.2.2.2.2.2.2.2.2.2.2.2.1 x.2.2.2.2.2.2.2.2.2.2.2.2.2.2.2.2.2.2.2.2.2.2.2.2.1 x.2.2.2.2.2.2.2.2.2.2.2.2.2.2.2.2.2.2.2.2.2.2.2.2.2
abbrev zNC{A0 A1 A2 A3 A4 A5 A6 A7 A8 A9 A10 A11 A12 A13 A14 A15 A16 A17 A18 A19 A20 A21 A22 A23 A24 A25 A26 A27 A28 R:Type}(f:A0→A1→A2→A3→A4→A5→A6→A7→A8→A9→A10→A11→A12→A13→A14→A15→A16→A17→A18→A19→A20→A21→A22→A23→A24→A25→A26→A27→A28→R)(x:A0×A1×A2×A3×A4×A5×A6×A7×A8×A9×A10×A11×A12×A13×A14×A15×A16×A17×A18×A19×A20×A21×A22×A23×A24×A25×A26×A27×A28):R:=f x.1 x.2.1 x.2.2.1 x.2.2.2.1 x.2.2.2.2.1 x.2.2.2.2.2.1 x.2.2.2.2.2.2.1 x.2.2.2.2.2.2.2.1 x.2.2.2.2.2.2.2.2.1 x.2.2.2.2.2.2.2.2.2.1 x.2.2.2.2.2.2.2.2.2.2.1 x.2.2.2.2.2.2.2.2.2.2.2.1 x.2.2.2.2.2.2.2.2.2.2.2.2.1 x.2.2.2.2.2.2.2.2.2.2.2.2.2.1 x.2.2.2.2.2.2.2.2.2.2.2.2.2.2.1 x.2.2.2.2.2.2.2.2.2.2.2.2.2.2.2.1 x.2.2.2.2.2.2.2.2.2.2.2.2.2.2.2.2.1 x.2.2.2.2.2.2.2.2.2.2.2.2.2.2.2.2.2.1 x.2.2.2.2.2.2.2.2.2.2.2.2.2.2.2.2.2.2.1 x.2.2.2.2.2.2.2.2.2.2.2.2.2.2.2.2.2.2.2.1 x.2.2.2.2.2.2.2.2.2.2.2.2.2.2.2.2.2.2.2.2.1 x.2.2.2.2.2.2.2.2.2.2.2.2.2.2.2.2.2.2.2.2.2.1 x.2.2.2.2.2.2.2.2.2.2.2.2.2.2.2.2.2.2.2.2.2.2.1 x.2.2.2.2.2.2.2.2.2.2.2.2.2.2.2.2.2.2.2.2.2.2.2.1 x.2.2.2.2.2.2.2.2.2.2.2.2.2.2.2.2.2.2.2.2.2.2.2.2.1 x.2.2.2.2.2.2.2.2.2.2.2.2.2.2.2.2.2.2.2.2.2.2.2.2.2.1 x.2.2.2.2.2.2.2.2.2.2.2.2.2.2.2.2.2.2.2.2.2.2.2.2.2.2.1 x.2.2.2.2.2.2.2.2.2.2.2.2.2.2.2.2.2.2.2.2.2.2.2.2.2.2.2.1 x.2.2.2.2.2.2.2.2.2.2.2.2.2.2.2.2.2.2.2.2.2.2.2.2.2.2.2.2
abbrev Ty0:=Int×ByteArray×Int×Int×(List zD)×ByteArray×Int×Bool×Bool×ByteArray×Int×Int×(List Int)×Int×Int×(List zD)×ByteArray×Int×Bool×Bool×ByteArray×Int×Int×(List Int)×ByteArray
abbrev Ty1:=Int×Int×(List zD)×ByteArray×Int×Bool×Bool×ByteArray×Int×Int×(List Int)×Int×Int×(List zD)×ByteArray×Int×Bool×Bool×ByteArray×Int×Int×(List Int)
abbrev Ty2:=Int×Int×(List zD)×ByteArray×Int×Bool×Bool×ByteArray×Int×Int×(List Int)×(List ByteArray)×ByteArray
abbrev Ty3:=Bool×Int×Int×ByteArray×Int×Bool×Bool×ByteArray×Int×Int
abbrev Ty4:=Int×ByteArray×Int×Int×(List zD)×ByteArray×Int×Bool×Bool×ByteArray×Int×Int×(List Int)×Int×Int×(List zD)×ByteArray×Int×Bool×Bool×ByteArray×Int×Int×(List Int)×ByteArray×ByteArray
abbrev Ty5:=Int×Int×Int×(List zD)×ByteArray×Int×Bool×Bool×ByteArray×Int×Int×ByteArray×Int×Int×ByteArray×Int×Bool×Bool×ByteArray×Int×Int×ByteArray×Int×Int×(List zD)×ByteArray×Int×Bool×Bool×ByteArray×Int×Int×ByteArray
abbrev Ty6:=ByteArray×Bool×Int×Int×(List zD)×ByteArray×Int×Bool×Bool×ByteArray×Int×Int×(List Int)
abbrev Ty8:=Int×ByteArray×Int×Int×(List zD)×ByteArray×Int×Bool×Bool×ByteArray×Int×Int×(List Int)×Int×Int×(List zD)×ByteArray×Int×Bool×Bool×ByteArray×Int×Int×(List Int)×ByteArray×ByteArray×ByteArray×ByteArray×ByteArray
abbrev Ty9:=Bool×Int×Int×(List zD)×ByteArray×Int×Bool×Bool×ByteArray×Int×Int×(List Int)
abbrev zYl:=Int×Int×(List zD)×ByteArray×Int×Bool×Bool×ByteArray×Int×Int×(List Int)×(List ByteArray)×ByteArray×ByteArray
abbrev zcO:=Int×Int×ByteArray×Int×Bool×Bool×ByteArray×Int×Int×ByteArray×Int×Int×ByteArray×Int×Bool×Bool×ByteArray×Int×Int×ByteArray
abbrev zhF:=ByteArray×ByteArray×ByteArray×ByteArray×ByteArray×Int×Int×Bool×Int×Int×ByteArray×Int×Bool×Bool×ByteArray×Int×Int×ByteArray×Int×Int×ByteArray×Int×Bool×Bool×ByteArray×Int×Int×ByteArray
abbrev zfV:=Int×Int×(List zD)×ByteArray×Int×Bool×Bool×ByteArray×Int×Int×(List Int)×(List ByteArray)×ByteArray×ByteArray×ByteArray×ByteArray×ByteArray
abbrev zkp:=Int×Bool×Int×Int×(List zD)×ByteArray×Int×Bool×Bool×ByteArray×Int×Int×ByteArray×Int×Int×ByteArray×Int×Bool×Bool×ByteArray×Int×Int×ByteArray×Int×Int×(List zD)×ByteArray×Int×Bool×Bool×ByteArray×Int×Int×ByteArray
abbrev zde:=Int×Int×(List zD)×ByteArray×Int×Bool×Bool×ByteArray×Int×Int×(List Int)
abbrev zj5:=Int×Int×(List zD)×ByteArray×Int×Bool×Bool×ByteArray×Int×Int×ByteArray
abbrev zkj:=Int×Int×Int×(List zD)×ByteArray×Int×Bool×Bool×ByteArray×Int×Int×(List Int)
abbrev zkB:=Int×Int×Int×(List zD)×ByteArray×Int×Bool×Bool×ByteArray×Int×Int×ByteArray
abbrev zke:=Int×Int×ByteArray×Int×Bool×Bool×ByteArray×Int×Int×ByteArray
abbrev zlB:=Int×Int×ByteArray×Int×Bool×Bool×ByteArray×Int×Int
def yQ.v0(κ:Nat)(a0:ByteArray):Option (Bool):=
 bif (!(Ev.seq a0 (ByteArray.mk (List.toArray []))))then
  bif (decide ((((ByteArray.size a0):Nat):Int)≤(12:Int)))then
   bif (((decide ((1:Int)≤(((ByteArray.size a0):Nat):Int)))&&(decide ((0:Int)≤(0:Int))))&&(decide ((0:Int)≤(1:Int))))then
    bif (Go.Lib.contains (Array.toList (ByteArray.data (ByteArray.mk (List.toArray ((97:UInt8)::((98:UInt8)::((99:UInt8)::((100:UInt8)::((101:UInt8)::((102:UInt8)::((103:UInt8)::((104:UInt8)::((105:UInt8)::((106:UInt8)::((107:UInt8)::((108:UInt8)::((109:UInt8)::((110:UInt8)::((111:UInt8)::((112:UInt8)::((113:UInt8)::((114:UInt8)::((115:UInt8)::((116:UInt8)::((117:UInt8)::((118:UInt8)::((119:UInt8)::((120:UInt8)::((121:UInt8)::((122:UInt8)::[])))))))))))))))))))))))))))))) (Array.toList (ByteArray.data (ByteArray.extract a0 (Int.toNat (0:Int)) (Int.toNat (1:Int))))))then
     Option.bind (Ev.Seat.wg κ a0 (ByteArray.mk (List.toArray ((97:UInt8)::((98:UInt8)::((99:UInt8)::((100:UInt8)::((101:UInt8)::((102:UInt8)::((103:UInt8)::((104:UInt8)::((105:UInt8)::((106:UInt8)::((107:UInt8)::((108:UInt8)::((109:UInt8)::((110:UInt8)::((111:UInt8)::((112:UInt8)::((113:UInt8)::((114:UInt8)::((115:UInt8)::((116:UInt8)::((117:UInt8)::((118:UInt8)::((119:UInt8)::((120:UInt8)::((121:UInt8)::((122:UInt8)::((48:UInt8)::((49:UInt8)::((50:UInt8)::((51:UInt8)::((52:UInt8)::((53:UInt8)::((54:UInt8)::((55:UInt8)::((56:UInt8)::((57:UInt8)::((45:UInt8)::[])))))))))))))))))))))))))))))))))))))))) fun x0=>
      some (Ev.seq x0 (ByteArray.mk (List.toArray [])))
    else
     some Bool.false
   else
    none
  else
   some Bool.false
 else
  some Bool.false
def yQ(κ:Nat)(a0:ByteArray):Option (Bool):=
 Option.bind (Ev.Seat.yQ.v0 κ a0) fun x0=>
  some x0
def qY.v0(κ:Nat)(a0:Bool):Option (Unit):=
 bif a0 then
  some ()
 else
  none
def qY(κ:Nat):Option (Unit):=
 some ()
def qP.v0(κ:Nat)(a0:Bool)(a1:List Int):Option ((List Int)):=
 bif a0 then
  some a1
 else
  some a1
def qP(κ:Nat)(a0:List Int):Option ((List Int)):=
 some a0
def yd(κ:Nat)(a0:ByteArray)(a1:List Int):Option (Int×(List Int)):=
 bif (Nat.ble ((List.length a1)+(List.length (List.map (fun b=>(((UInt8.toNat b):Nat):Int)) (Array.toList (ByteArray.data a0))))) (Ev.room (0+1)))then
  some ((((ByteArray.size a0):Nat):Int),(a1++(List.map (fun b=>(((UInt8.toNat b):Nat):Int)) (Array.toList (ByteArray.data a0)))))
 else
  none
def qQ.v0(κ:Nat)(a0:Bool)(a1:List Int):Option ((List Int)):=
 bif a0 then
  some a1
 else
  none
def qQ(κ:Nat)(a0:List Int):Option ((List Int)):=
 some a0
def qD(κ:Nat)(a0:ByteArray)(a1:List Int):Option (Int×(List Int)):=
 bif (Nat.ble ((List.length a1)+(List.length (List.map (fun b=>(((UInt8.toNat b):Nat):Int)) (Array.toList (ByteArray.data a0))))) (Ev.room (0+1)))then
  some ((((ByteArray.size a0):Nat):Int),(a1++(List.map (fun b=>(((UInt8.toNat b):Nat):Int)) (Array.toList (ByteArray.data a0)))))
 else
  none
def y2(κ:Nat)(a0:List Int):Option (ByteArray):=
 bif ((decide ((((List.length a0):Nat):Int)=(((List.length a0):Nat):Int)))&&(Nat.ble (List.length a0) Ev.qL))then
  some (Ev.uo Ev.Seat.C a0)
 else
  none
def qM(κ:Nat)(a0:List Int):Option (ByteArray):=
 bif ((decide ((((List.length a0):Nat):Int)=(((List.length a0):Nat):Int)))&&(Nat.ble (List.length a0) Ev.qL))then
  some (Ev.uo Ev.Seat.C a0)
 else
  none
def zl.v25(κ:Nat)(a0:List zD)(a1 a2:Int)(a3 a4:ByteArray)(a5:List Int):Option ((List zD)×Int×Int×Bool×ByteArray×ByteArray×(List Int)):=
 Option.bind (Ev.Seat.yQ κ a3) fun x0=>
  bif (!x0)then
   some (a0,a1,a2,Bool.true,a3,a4,a5)
  else
   bif (!(Ev.seq a4 (ByteArray.mk (List.toArray []))))then
    Option.bind (Ev.Seat.yQ κ a4) fun x1=>
     some (a0,a1,a2,(!x1),a3,a4,a5)
   else
    some (a0,a1,a2,Bool.false,a3,a4,a5)
def zl.v27(κ:Nat)(a0:List zD)(a1 a2:Int)(a3:Bool)(a4 a5:ByteArray)(a6:List Int):Option ((List zD)×Int×Int×(List Int)):=
 bif a3 then
  bif (Nat.ble ((ByteArray.size (ByteArray.mk (List.toArray ((91:UInt8)::[]))))+(ByteArray.size a5)) Ev.qL)then
   bif (Nat.ble ((ByteArray.size ((ByteArray.mk (List.toArray ((91:UInt8)::[])))++a5))+(ByteArray.size (ByteArray.mk (List.toArray ((93:UInt8)::[]))))) Ev.qL)then
    Option.bind (Ev.Seat.yd κ (((ByteArray.mk (List.toArray ((91:UInt8)::[])))++a5)++(ByteArray.mk (List.toArray ((93:UInt8)::[])))) a6) fun x0=>
     some (a0,a1,a2,x0.2)
   else
    none
  else
   none
 else
  some (a0,a1,a2,a6)
def zl.v24(κ:Nat)(a0:List zD)(a1 a2:Int)(a3:List Int):Option (((List zD)×Int×Int×(List Int))⊕(ByteArray)):=
 bif (decide ((0:Int)≤a2))then
  Option.bind (a0[(Int.toNat a2)]?) fun x0=>
   Option.bind (Ev.Seat.zl.v25 κ a0 a1 a2 (Ev.Seat.zD.name x0) (Ev.Seat.zD.key x0) a3) fun x1=>
    bif x1.2.2.2.1 then
     some (.inr (ByteArray.mk (List.toArray [])))
    else
     bif (Nat.ble ((ByteArray.size (ByteArray.mk (List.toArray ((47:UInt8)::[]))))+(ByteArray.size x1.2.2.2.2.1)) Ev.qL)then
      Option.bind (Ev.Seat.qD κ ((ByteArray.mk (List.toArray ((47:UInt8)::[])))++x1.2.2.2.2.1) x1.2.2.2.2.2.2) fun x2=>
       Option.bind (Ev.Seat.zl.v27 κ x1.1 x1.2.1 x1.2.2.1 (!(Ev.seq x1.2.2.2.2.2.1 (ByteArray.mk (List.toArray [])))) x1.2.2.2.2.1 x1.2.2.2.2.2.1 x2.2) fun x3=>
        some (.inl (x3.1,x3.2.1,x3.2.2.1,x3.2.2.2))
     else
      none
 else
  none
def zl.v30(κ:Nat)(a0:List zD)(a1 a2:Int)(a3 a4:ByteArray)(a5:List Int):Option ((List zD)×Int×Int×Bool×ByteArray×ByteArray×(List Int)):=
 Option.bind (Ev.Seat.yQ κ a3) fun x0=>
  bif (!x0)then
   some (a0,a1,a2,Bool.true,a3,a4,a5)
  else
   bif (!(Ev.seq a4 (ByteArray.mk (List.toArray []))))then
    Option.bind (Ev.Seat.yQ κ a4) fun x1=>
     some (a0,a1,a2,(!x1),a3,a4,a5)
   else
    some (a0,a1,a2,Bool.false,a3,a4,a5)
def zl.v32(κ:Nat)(a0:List zD)(a1 a2:Int)(a3:Bool)(a4 a5:ByteArray)(a6:List Int):Option ((List zD)×Int×Int×(List Int)):=
 bif a3 then
  bif (Nat.ble ((ByteArray.size (ByteArray.mk (List.toArray ((91:UInt8)::[]))))+(ByteArray.size a5)) Ev.qL)then
   bif (Nat.ble ((ByteArray.size ((ByteArray.mk (List.toArray ((91:UInt8)::[])))++a5))+(ByteArray.size (ByteArray.mk (List.toArray ((93:UInt8)::[]))))) Ev.qL)then
    Option.bind (Ev.Seat.yd κ (((ByteArray.mk (List.toArray ((91:UInt8)::[])))++a5)++(ByteArray.mk (List.toArray ((93:UInt8)::[])))) a6) fun x0=>
     some (a0,a1,a2,x0.2)
   else
    none
  else
   none
 else
  some (a0,a1,a2,a6)
def zl.v29(κ:Nat)(a0:List zD)(a1 a2:Int)(a3:List Int):Option (((List zD)×Int×Int×(List Int))⊕(ByteArray)):=
 bif (decide ((0:Int)≤a2))then
  Option.bind (a0[(Int.toNat a2)]?) fun x0=>
   Option.bind (Ev.Seat.zl.v30 κ a0 a1 a2 (Ev.Seat.zD.name x0) (Ev.Seat.zD.key x0) a3) fun x1=>
    bif x1.2.2.2.1 then
     some (.inr (ByteArray.mk (List.toArray [])))
    else
     bif (Nat.ble ((ByteArray.size (ByteArray.mk (List.toArray ((47:UInt8)::[]))))+(ByteArray.size x1.2.2.2.2.1)) Ev.qL)then
      Option.bind (Ev.Seat.yd κ ((ByteArray.mk (List.toArray ((47:UInt8)::[])))++x1.2.2.2.2.1) x1.2.2.2.2.2.2) fun x2=>
       Option.bind (Ev.Seat.zl.v32 κ x1.1 x1.2.1 x1.2.2.1 (!(Ev.seq x1.2.2.2.2.2.1 (ByteArray.mk (List.toArray [])))) x1.2.2.2.2.1 x1.2.2.2.2.2.1 x2.2) fun x3=>
        some (.inl (x3.1,x3.2.1,x3.2.2.1,x3.2.2.2))
     else
      none
 else
  none
def zl.w23(κ:Nat)(rec:(((List zD)×Int×Int×(List Int))⊕((List zD)×Int×Int×(List Int)))→Option (((List Int))⊕((ByteArray)⊕((List Int)))))(a0:List zD)(a1 a2:Int)(a3:List Int):Option (((List Int))⊕((ByteArray)⊕((List Int)))):=
 bif (decide (a2<a1))then
  Option.bind (Ev.Seat.zl.v24 κ a0 a1 a2 a3) fun x0=>
   match x0 with
   | .inl x1=>
    rec (.inr (x1.1,x1.2.1,(IntKind.wrap IntKind.i64 (x1.2.2.1+(1:Int))),x1.2.2.2))
   | .inr x2=>
    some (.inr (.inl x2))
 else
  some (.inl a3)
def zl.zdt(κ:Nat)(rec:(((List zD)×Int×Int×(List Int))⊕((List zD)×Int×Int×(List Int)))→Option (((List Int))⊕((ByteArray)⊕((List Int)))))(a0:List zD)(a1 a2:Int)(a3:List Int):Option (((List Int))⊕((ByteArray)⊕((List Int)))):=
 bif (decide (a2<a1))then
  Option.bind (Ev.Seat.zl.v29 κ a0 a1 a2 a3) fun x0=>
   match x0 with
   | .inl x1=>
    rec (.inr (x1.1,x1.2.1,(IntKind.wrap IntKind.i64 (x1.2.2.1+(1:Int))),x1.2.2.2))
   | .inr x2=>
    some (.inr (.inl x2))
 else
  some (.inr (.inr a3))
def zl.l23(κ:Nat):Nat→(((List zD)×Int×Int×(List Int))⊕((List zD)×Int×Int×(List Int)))→Option (((List Int))⊕((ByteArray)⊕((List Int))))
 |0,_ =>none
 |k+1,(.inl (a0,a1,a2,a3))=>zl.w23 κ (zl.l23 κ k) a0 a1 a2 a3
 |k+1,(.inr (a0,a1,a2,a3))=>zl.zdt κ (zl.l23 κ k) a0 a1 a2 a3
def zl(κ:Nat)(a0:List zD):Option (ByteArray):=
 bif ((((List.length a0):Nat):Int)==(0:Int))then
  some (ByteArray.mk (List.toArray ((47:UInt8)::[])))
 else
  bif (decide ((((List.length a0):Nat):Int)>(6:Int)))then
   some (ByteArray.mk (List.toArray []))
  else
   Option.bind (Ev.Seat.zl.l23 κ κ (Sum.inl (a0,(((List.length a0):Nat):Int),(0:Int),[]))) fun x0=>
    match x0 with
    | .inl x1=>
     Option.bind (Ev.Seat.y2 κ x1) fun x2=>
      some x2
    | .inr x3=>
     match x3 with
     | .inl x4=>
      some x4
     | .inr x5=>
      Option.bind (Ev.Seat.qM κ x5) fun x6=>
       some x6
def zu.v0(κ:Nat)(a0 a1:ByteArray):Option (Bool):=
 bif (decide ((((ByteArray.size a0):Nat):Int)≥(((ByteArray.size a1):Nat):Int)))then
  bif (((decide ((((ByteArray.size a1):Nat):Int)≤(((ByteArray.size a0):Nat):Int)))&&(decide ((0:Int)≤(0:Int))))&&(decide ((0:Int)≤(((ByteArray.size a1):Nat):Int))))then
   some (Ev.seq (ByteArray.extract a0 (Int.toNat (0:Int)) (Int.toNat (((ByteArray.size a1):Nat):Int))) a1)
  else
   none
 else
  some Bool.false
def zu(κ:Nat)(a0 a1:ByteArray):Option (Bool):=
 Option.bind (Ev.Seat.zu.v0 κ a0 a1) fun x0=>
  some x0
def strings_HasPrefix(κ:Nat)(a0 a1:ByteArray):Option (Bool):=
 Option.bind (Ev.Seat.zu κ a0 a1) fun x0=>
  some x0
def yz.v0(κ:Nat)(a0:Int)(a1:Bool)(a2:ByteArray)(a3 a4 a5:Int):Option (ByteArray×Int×Int×Int):=
 bif a1 then
  some (a2,a3,a0,(IntKind.wrap IntKind.i64 (a3-(((ByteArray.size a2):Nat):Int))))
 else
  some (a2,a3,a4,a5)
def yz(κ:Nat)(a0:Int)(a1:ByteArray)(a2 a3 a4:Int):Option (ByteArray×Int×Int×Int):=
 Option.bind (Ev.Seat.yz.v0 κ a0 (a3==(0:Int)) a1 a2 a3 a4) fun x0=>
  some (x0.1,x0.2.1,x0.2.2.1,x0.2.2.2)
def y9(κ:Nat)(a0 a1:ByteArray):Option (ByteArray×Bool):=
 Option.bind (Ev.Seat.zu κ a0 a1) fun x0=>
  bif (!x0)then
   some (a0,Bool.false)
  else
   bif (((decide ((((ByteArray.size a0):Nat):Int)≤(((ByteArray.size a0):Nat):Int)))&&(decide ((0:Int)≤(((ByteArray.size a1):Nat):Int))))&&(decide ((((ByteArray.size a1):Nat):Int)≤(((ByteArray.size a0):Nat):Int))))then
    some ((ByteArray.extract a0 (Int.toNat (((ByteArray.size a1):Nat):Int)) (Int.toNat (((ByteArray.size a0):Nat):Int))),Bool.true)
   else
    none
def strings_CutPrefix(κ:Nat)(a0 a1:ByteArray):Option (ByteArray×Bool):=
 Option.bind (Ev.Seat.y9 κ a0 a1) fun x0=>
  some (x0.1,x0.2)
def qW(κ:Nat)(a0 a1:ByteArray)(a2 a3 a4:Int):Option (ByteArray×Int×Int×Int):=
 Option.bind (Ev.Seat.strings_CutPrefix κ a1 a0) fun x0=>
  bif (!x0.2)then
   Option.bind (Ev.Seat.yz κ (21:Int) a1 a2 a3 a4) fun x1=>
    some (x1.1,x1.2.1,x1.2.2.1,x1.2.2.2)
  else
   some (x0.1,a2,a3,a4)
def yq.v0(κ:Nat)(a0 a1:ByteArray)(a2:Bool)(a3:ByteArray)(a4 a5 a6:Int):Option (ByteArray×ByteArray×ByteArray×Int×Int×Int):=
 bif a2 then
  Option.bind (Ev.Seat.yz κ (22:Int) a3 a4 a5 a6) fun x0=>
   some (a0,a1,x0.1,x0.2.1,x0.2.2.1,x0.2.2.2)
 else
  some (a0,a1,a3,a4,a5,a6)
def yq(κ:Nat)(a0:ByteArray)(a1 a2 a3:Int):Option (ByteArray×ByteArray×Int×Int×Int):=
 bif ((((decide ((0:Int)≤(IntKind.wrap IntKind.i64 ((((ByteArray.size a0):Nat):Int)-(((ByteArray.size (ByteArray.mk (List.toArray (Go.Lib.trimLeftS (Array.toList (ByteArray.data a0)) (Array.toList (ByteArray.data (ByteArray.mk (List.toArray ((97:UInt8)::((98:UInt8)::((99:UInt8)::((100:UInt8)::((101:UInt8)::((102:UInt8)::((103:UInt8)::((104:UInt8)::((105:UInt8)::((106:UInt8)::((107:UInt8)::((108:UInt8)::((109:UInt8)::((110:UInt8)::((111:UInt8)::((112:UInt8)::((113:UInt8)::((114:UInt8)::((115:UInt8)::((116:UInt8)::((117:UInt8)::((118:UInt8)::((119:UInt8)::((120:UInt8)::((121:UInt8)::((122:UInt8)::((48:UInt8)::((49:UInt8)::((50:UInt8)::((51:UInt8)::((52:UInt8)::((53:UInt8)::((54:UInt8)::((55:UInt8)::((56:UInt8)::((57:UInt8)::((45:UInt8)::[]))))))))))))))))))))))))))))))))))))))))))))):Nat):Int)))))&&(decide ((IntKind.wrap IntKind.i64 ((((ByteArray.size a0):Nat):Int)-(((ByteArray.size (ByteArray.mk (List.toArray (Go.Lib.trimLeftS (Array.toList (ByteArray.data a0)) (Array.toList (ByteArray.data (ByteArray.mk (List.toArray ((97:UInt8)::((98:UInt8)::((99:UInt8)::((100:UInt8)::((101:UInt8)::((102:UInt8)::((103:UInt8)::((104:UInt8)::((105:UInt8)::((106:UInt8)::((107:UInt8)::((108:UInt8)::((109:UInt8)::((110:UInt8)::((111:UInt8)::((112:UInt8)::((113:UInt8)::((114:UInt8)::((115:UInt8)::((116:UInt8)::((117:UInt8)::((118:UInt8)::((119:UInt8)::((120:UInt8)::((121:UInt8)::((122:UInt8)::((48:UInt8)::((49:UInt8)::((50:UInt8)::((51:UInt8)::((52:UInt8)::((53:UInt8)::((54:UInt8)::((55:UInt8)::((56:UInt8)::((57:UInt8)::((45:UInt8)::[]))))))))))))))))))))))))))))))))))))))))))))):Nat):Int)))≤(((ByteArray.size a0):Nat):Int))))&&(decide ((0:Int)≤(0:Int))))&&(decide ((0:Int)≤(IntKind.wrap IntKind.i64 ((((ByteArray.size a0):Nat):Int)-(((ByteArray.size (ByteArray.mk (List.toArray (Go.Lib.trimLeftS (Array.toList (ByteArray.data a0)) (Array.toList (ByteArray.data (ByteArray.mk (List.toArray ((97:UInt8)::((98:UInt8)::((99:UInt8)::((100:UInt8)::((101:UInt8)::((102:UInt8)::((103:UInt8)::((104:UInt8)::((105:UInt8)::((106:UInt8)::((107:UInt8)::((108:UInt8)::((109:UInt8)::((110:UInt8)::((111:UInt8)::((112:UInt8)::((113:UInt8)::((114:UInt8)::((115:UInt8)::((116:UInt8)::((117:UInt8)::((118:UInt8)::((119:UInt8)::((120:UInt8)::((121:UInt8)::((122:UInt8)::((48:UInt8)::((49:UInt8)::((50:UInt8)::((51:UInt8)::((52:UInt8)::((53:UInt8)::((54:UInt8)::((55:UInt8)::((56:UInt8)::((57:UInt8)::((45:UInt8)::[]))))))))))))))))))))))))))))))))))))))))))))):Nat):Int))))))then
  Option.bind (Ev.Seat.yQ κ (ByteArray.extract a0 (Int.toNat (0:Int)) (Int.toNat (IntKind.wrap IntKind.i64 ((((ByteArray.size a0):Nat):Int)-(((ByteArray.size (ByteArray.mk (List.toArray (Go.Lib.trimLeftS (Array.toList (ByteArray.data a0)) (Array.toList (ByteArray.data (ByteArray.mk (List.toArray ((97:UInt8)::((98:UInt8)::((99:UInt8)::((100:UInt8)::((101:UInt8)::((102:UInt8)::((103:UInt8)::((104:UInt8)::((105:UInt8)::((106:UInt8)::((107:UInt8)::((108:UInt8)::((109:UInt8)::((110:UInt8)::((111:UInt8)::((112:UInt8)::((113:UInt8)::((114:UInt8)::((115:UInt8)::((116:UInt8)::((117:UInt8)::((118:UInt8)::((119:UInt8)::((120:UInt8)::((121:UInt8)::((122:UInt8)::((48:UInt8)::((49:UInt8)::((50:UInt8)::((51:UInt8)::((52:UInt8)::((53:UInt8)::((54:UInt8)::((55:UInt8)::((56:UInt8)::((57:UInt8)::((45:UInt8)::[]))))))))))))))))))))))))))))))))))))))))))))):Nat):Int)))))) fun x0=>
   Option.bind (Ev.Seat.yq.v0 κ (ByteArray.mk (List.toArray (Go.Lib.trimLeftS (Array.toList (ByteArray.data a0)) (Array.toList (ByteArray.data (ByteArray.mk (List.toArray ((97:UInt8)::((98:UInt8)::((99:UInt8)::((100:UInt8)::((101:UInt8)::((102:UInt8)::((103:UInt8)::((104:UInt8)::((105:UInt8)::((106:UInt8)::((107:UInt8)::((108:UInt8)::((109:UInt8)::((110:UInt8)::((111:UInt8)::((112:UInt8)::((113:UInt8)::((114:UInt8)::((115:UInt8)::((116:UInt8)::((117:UInt8)::((118:UInt8)::((119:UInt8)::((120:UInt8)::((121:UInt8)::((122:UInt8)::((48:UInt8)::((49:UInt8)::((50:UInt8)::((51:UInt8)::((52:UInt8)::((53:UInt8)::((54:UInt8)::((55:UInt8)::((56:UInt8)::((57:UInt8)::((45:UInt8)::[])))))))))))))))))))))))))))))))))))))))))))) (ByteArray.extract a0 (Int.toNat (0:Int)) (Int.toNat (IntKind.wrap IntKind.i64 ((((ByteArray.size a0):Nat):Int)-(((ByteArray.size (ByteArray.mk (List.toArray (Go.Lib.trimLeftS (Array.toList (ByteArray.data a0)) (Array.toList (ByteArray.data (ByteArray.mk (List.toArray ((97:UInt8)::((98:UInt8)::((99:UInt8)::((100:UInt8)::((101:UInt8)::((102:UInt8)::((103:UInt8)::((104:UInt8)::((105:UInt8)::((106:UInt8)::((107:UInt8)::((108:UInt8)::((109:UInt8)::((110:UInt8)::((111:UInt8)::((112:UInt8)::((113:UInt8)::((114:UInt8)::((115:UInt8)::((116:UInt8)::((117:UInt8)::((118:UInt8)::((119:UInt8)::((120:UInt8)::((121:UInt8)::((122:UInt8)::((48:UInt8)::((49:UInt8)::((50:UInt8)::((51:UInt8)::((52:UInt8)::((53:UInt8)::((54:UInt8)::((55:UInt8)::((56:UInt8)::((57:UInt8)::((45:UInt8)::[]))))))))))))))))))))))))))))))))))))))))))))):Nat):Int))))) (!x0) a0 a1 a2 a3) fun x1=>
    some (x1.2.1,x1.1,x1.2.2.2.1,x1.2.2.2.2.1,x1.2.2.2.2.2)
 else
  none
def zi.v0(κ:Nat)(a0:Int)(a1:ByteArray)(a2 a3 a4:Int)(a5 a6:ByteArray):Option (Bool×ByteArray×Int×Int×Int×ByteArray×ByteArray):=
 bif (decide (a0≥(6:Int)))then
  Option.bind (Ev.Seat.strings_HasPrefix κ a1 (ByteArray.mk (List.toArray ((47:UInt8)::[])))) fun x0=>
   some (x0,a1,a2,a3,a4,a5,a6)
 else
  some (Bool.false,a1,a2,a3,a4,a5,a6)
def zi.v2(κ:Nat)(a0:Bool)(a1:ByteArray)(a2 a3 a4:Int)(a5 a6:ByteArray):Option (ByteArray×Int×Int×Int×ByteArray×ByteArray):=
 bif a0 then
  Option.bind (Ev.Seat.yz κ (13:Int) a1 a2 a3 a4) fun x0=>
   some (x0.1,x0.2.1,x0.2.2.1,x0.2.2.2,a5,a6)
 else
  some (a1,a2,a3,a4,a5,a6)
def zi.v4(κ:Nat)(a0:Bool)(a1:ByteArray)(a2 a3 a4:Int)(a5 a6 a7 a8:ByteArray):Option (ByteArray×Int×Int×Int×ByteArray×ByteArray×ByteArray×ByteArray):=
 bif a0 then
  Option.bind (Ev.Seat.qW κ (ByteArray.mk (List.toArray ((91:UInt8)::[]))) a1 a2 a3 a4) fun x0=>
   Option.bind (Ev.Seat.yq κ x0.1 x0.2.1 x0.2.2.1 x0.2.2.2) fun x1=>
    Option.bind (Ev.Seat.qW κ (ByteArray.mk (List.toArray ((93:UInt8)::[]))) x1.2.1 x1.2.2.1 x1.2.2.2.1 x1.2.2.2.2) fun x2=>
     some (x2.1,x2.2.1,x2.2.2.1,x2.2.2.2,a5,a6,a7,x1.1)
 else
  some (a1,a2,a3,a4,a5,a6,a7,a8)
def zi(κ:Nat)(a0:Int)(a1:ByteArray)(a2 a3 a4:Int):Option (ByteArray×ByteArray×ByteArray×Int×Int×Int):=
 Option.bind (Ev.Seat.zi.v0 κ a0 a1 a2 a3 a4 (ByteArray.mk (List.toArray [])) (ByteArray.mk (List.toArray []))) fun x0=>
  Option.bind (Ev.Seat.zi.v2 κ x0.1 x0.2.1 x0.2.2.1 x0.2.2.2.1 x0.2.2.2.2.1 x0.2.2.2.2.2.1 x0.2.2.2.2.2.2) fun x1=>
   Option.bind (Ev.Seat.qW κ (ByteArray.mk (List.toArray ((47:UInt8)::[]))) x1.1 x1.2.1 x1.2.2.1 x1.2.2.2.1) fun x2=>
    Option.bind (Ev.Seat.yq κ x2.1 x2.2.1 x2.2.2.1 x2.2.2.2) fun x3=>
     Option.bind (Ev.Seat.strings_HasPrefix κ x3.2.1 (ByteArray.mk (List.toArray ((91:UInt8)::[])))) fun x4=>
      Option.bind (Ev.Seat.zi.v4 κ x4 x3.2.1 x3.2.2.1 x3.2.2.2.1 x3.2.2.2.2 x1.2.2.2.2.1 x1.2.2.2.2.2 x3.1 (ByteArray.mk (List.toArray []))) fun x5=>
       some (x5.2.2.2.2.2.2.1,x5.2.2.2.2.2.2.2,x5.1,x5.2.1,x5.2.2.1,x5.2.2.2.1)
def yF.v3(κ:Nat)(a0:ByteArray)(a1 a2 a3:Int)(a4:List zD):Option (Bool×ByteArray×Int×Int×Int×(List zD)):=
 bif (!(Ev.seq a0 (ByteArray.mk (List.toArray []))))then
  some ((a2==(0:Int)),a0,a1,a2,a3,a4)
 else
  some (Bool.false,a0,a1,a2,a3,a4)
def yF.w2(κ:Nat)(rec:(ByteArray×Int×Int×Int×(List zD))→Option (ByteArray×Int×Int×Int×(List zD)))(a0:ByteArray)(a1 a2 a3:Int)(a4:List zD):Option (ByteArray×Int×Int×Int×(List zD)):=
 Option.bind (Ev.Seat.yF.v3 κ a0 a1 a2 a3 a4) fun x0=>
  bif x0.1 then
   Option.bind (Ev.Seat.zi κ (((List.length x0.2.2.2.2.2):Nat):Int) x0.2.1 x0.2.2.1 x0.2.2.2.1 x0.2.2.2.2.1) fun x1=>
    bif (Nat.ble ((List.length x0.2.2.2.2.2)+(List.length ((Ev.Seat.zD.mk x1.1 x1.2.1)::[]))) (Ev.room (31+1)))then
     rec (x1.2.2.1,x1.2.2.2.1,x1.2.2.2.2.1,x1.2.2.2.2.2,(x0.2.2.2.2.2++((Ev.Seat.zD.mk x1.1 x1.2.1)::[])))
    else
     none
  else
   some (x0.2.1,x0.2.2.1,x0.2.2.2.1,x0.2.2.2.2.1,x0.2.2.2.2.2)
def yF.l2(κ:Nat):Nat→(ByteArray×Int×Int×Int×(List zD))→Option (ByteArray×Int×Int×Int×(List zD))
 |0,_ =>none
 |k+1,(a0,a1,a2,a3,a4)=>yF.w2 κ (yF.l2 κ k) a0 a1 a2 a3 a4
def yF(κ:Nat)(a0:ByteArray):Option (Int×Int×(List zD)):=
 bif (Ev.seq a0 (ByteArray.mk (List.toArray ((47:UInt8)::[]))))then
  some ((0:Int),(0:Int),[])
 else
  Option.bind (Ev.Seat.zi κ (0:Int) a0 (((ByteArray.size a0):Nat):Int) (0:Int) (0:Int)) fun x0=>
   Option.bind (Ev.Seat.yF.l2 κ κ (x0.2.2.1,x0.2.2.2.1,x0.2.2.2.2.1,x0.2.2.2.2.2,((Ev.Seat.zD.mk x0.1 x0.2.1)::[]))) fun x1=>
    bif (x1.2.2.1 !=(0:Int))then
     some (x1.2.2.1,x1.2.2.2.1,[])
    else
     some ((0:Int),(0:Int),x1.2.2.2.2)
def zZ.v5(κ:Nat)(a0 a1:Int)(a2:Bool):Option (Int×Int×Bool):=
 bif a2 then
  some (a0,a1,a2)
 else
  some (a0,a1,(a1==(6:Int)))
def zZ.v4(κ:Nat)(a0 a1:Int)(a2:Bool):Option (Int×Int×Bool):=
 bif a2 then
  some (a0,a1,a2)
 else
  Option.bind (Ev.Seat.zZ.v5 κ a0 a1 (a1==(5:Int))) fun x0=>
   some (x0.1,x0.2.1,x0.2.2)
def zZ.v3(κ:Nat)(a0 a1:Int)(a2:Bool):Option (Int×Int×Bool):=
 bif a2 then
  some (a0,a1,a2)
 else
  Option.bind (Ev.Seat.zZ.v4 κ a0 a1 (a1==(4:Int))) fun x0=>
   some (x0.1,x0.2.1,x0.2.2)
def zZ.v2(κ:Nat)(a0 a1:Int)(a2:Bool):Option (Int×Int×Bool):=
 bif a2 then
  some (a0,a1,a2)
 else
  Option.bind (Ev.Seat.zZ.v3 κ a0 a1 (a1==(3:Int))) fun x0=>
   some (x0.1,x0.2.1,x0.2.2)
def zZ.v1(κ:Nat)(a0 a1:Int)(a2:Bool):Option (Int×Int×Bool):=
 bif a2 then
  some (a0,a1,a2)
 else
  Option.bind (Ev.Seat.zZ.v2 κ a0 a1 (a1==(2:Int))) fun x0=>
   some (x0.1,x0.2.1,x0.2.2)
def zZ.v0(κ:Nat)(a0 a1:Int)(a2:Bool):Option (Int×Int×Bool):=
 bif a2 then
  some (a0,a1,a2)
 else
  Option.bind (Ev.Seat.zZ.v1 κ a0 a1 (a1==(1:Int))) fun x0=>
   some (x0.1,x0.2.1,x0.2.2)
def zZ(κ:Nat)(a0:Int):Option ((Unit)⊕((ByteArray)⊕((ByteArray)⊕((ByteArray)⊕((ByteArray×ByteArray)⊕((ByteArray×ByteArray)⊕((ByteArray×ByteArray×ByteArray×ByteArray×ByteArray)⊕((ByteArray)⊕((ByteArray)⊕((ByteArray)⊕((ByteArray)⊕(ByteArray)))))))))))):=
 Option.bind (Ev.Seat.zZ.v0 κ a0 a0 (a0==(0:Int))) fun x0=>
  bif x0.2.2 then
   bif ((decide ((0:Int)≤x0.1))&&(Nat.blt (Int.toNat x0.1) (List.length ((ByteArray.mk (List.toArray ((108:UInt8)::((111:UInt8)::((99:UInt8)::((107:UInt8)::[]))))))::((ByteArray.mk (List.toArray ((117:UInt8)::((110:UInt8)::((108:UInt8)::((111:UInt8)::((99:UInt8)::((107:UInt8)::[]))))))))::((ByteArray.mk (List.toArray ((100:UInt8)::((105:UInt8)::((115:UInt8)::((99:UInt8)::((97:UInt8)::((114:UInt8)::((100:UInt8)::[])))))))))::((ByteArray.mk (List.toArray ((99:UInt8)::((104:UInt8)::((101:UInt8)::((99:UInt8)::((107:UInt8)::[])))))))::((ByteArray.mk (List.toArray ((99:UInt8)::((111:UInt8)::((110:UInt8)::((102:UInt8)::((105:UInt8)::((114:UInt8)::((109:UInt8)::[])))))))))::((ByteArray.mk (List.toArray ((99:UInt8)::((97:UInt8)::((110:UInt8)::((99:UInt8)::((101:UInt8)::((108:UInt8)::[]))))))))::((ByteArray.mk (List.toArray ((115:UInt8)::((97:UInt8)::((118:UInt8)::((101:UInt8)::[]))))))::[]))))))))))then
    Option.bind (((ByteArray.mk (List.toArray ((108:UInt8)::((111:UInt8)::((99:UInt8)::((107:UInt8)::[]))))))::((ByteArray.mk (List.toArray ((117:UInt8)::((110:UInt8)::((108:UInt8)::((111:UInt8)::((99:UInt8)::((107:UInt8)::[]))))))))::((ByteArray.mk (List.toArray ((100:UInt8)::((105:UInt8)::((115:UInt8)::((99:UInt8)::((97:UInt8)::((114:UInt8)::((100:UInt8)::[])))))))))::((ByteArray.mk (List.toArray ((99:UInt8)::((104:UInt8)::((101:UInt8)::((99:UInt8)::((107:UInt8)::[])))))))::((ByteArray.mk (List.toArray ((99:UInt8)::((111:UInt8)::((110:UInt8)::((102:UInt8)::((105:UInt8)::((114:UInt8)::((109:UInt8)::[])))))))))::((ByteArray.mk (List.toArray ((99:UInt8)::((97:UInt8)::((110:UInt8)::((99:UInt8)::((101:UInt8)::((108:UInt8)::[]))))))))::((ByteArray.mk (List.toArray ((115:UInt8)::((97:UInt8)::((118:UInt8)::((101:UInt8)::[]))))))::[])))))))[(Int.toNat x0.1)]?) fun x1=>
     some (.inr (.inr (.inr (.inr (.inr (.inr (.inr (.inr (.inr (.inr (.inr x1)))))))))))
   else
    none
  else
   bif (x0.2.1==(7:Int))then
    some (.inr (.inr (.inr (.inr (.inr (.inr (.inr (.inr (.inr (.inr (.inl (ByteArray.mk (List.toArray ((115:UInt8)::((101:UInt8)::((116:UInt8)::[]))))))))))))))))
   else
    bif (x0.2.1==(8:Int))then
     some (.inr (.inr (.inr (.inr (.inr (.inr (.inr (.inr (.inr (.inl (ByteArray.mk (List.toArray ((100:UInt8)::((101:UInt8)::((108:UInt8)::[])))))))))))))))
    else
     bif (x0.2.1==(9:Int))then
      some (.inr (.inr (.inr (.inr (.inr (.inr (.inr (.inr (.inl (ByteArray.mk (List.toArray ((99:UInt8)::((111:UInt8)::((109:UInt8)::((109:UInt8)::((105:UInt8)::((116:UInt8)::[])))))))))))))))))
     else
      bif (x0.2.1==(10:Int))then
       some (.inr (.inr (.inr (.inr (.inr (.inr (.inr (.inl (ByteArray.mk (List.toArray ((114:UInt8)::((111:UInt8)::((108:UInt8)::((108:UInt8)::((98:UInt8)::((97:UInt8)::((99:UInt8)::((107:UInt8)::[]))))))))))))))))))
      else
       bif (x0.2.1==(11:Int))then
        some (.inr (.inr (.inr (.inr (.inr (.inr (.inr (.inl (ByteArray.mk (List.toArray ((112:UInt8)::((114:UInt8)::((117:UInt8)::((110:UInt8)::((101:UInt8)::[])))))))))))))))
       else
        bif (x0.2.1==(12:Int))then
         some (.inr (.inr (.inr (.inr (.inr (.inr (.inl ((ByteArray.mk (List.toArray ((115:UInt8)::((104:UInt8)::((111:UInt8)::((119:UInt8)::[])))))),(ByteArray.mk (List.toArray ((99:UInt8)::((97:UInt8)::((110:UInt8)::((100:UInt8)::((105:UInt8)::((100:UInt8)::((97:UInt8)::((116:UInt8)::((101:UInt8)::[]))))))))))),(ByteArray.mk (List.toArray ((114:UInt8)::((117:UInt8)::((110:UInt8)::((110:UInt8)::((105:UInt8)::((110:UInt8)::((103:UInt8)::[]))))))))),(ByteArray.mk (List.toArray ((116:UInt8)::((101:UInt8)::((120:UInt8)::((116:UInt8)::[])))))),(ByteArray.mk (List.toArray ((98:UInt8)::((121:UInt8)::((116:UInt8)::((101:UInt8)::((115:UInt8)::[])))))))))))))))
        else
         bif (x0.2.1==(13:Int))then
          some (.inr (.inr (.inr (.inr (.inr (.inl ((ByteArray.mk (List.toArray ((108:UInt8)::((111:UInt8)::((97:UInt8)::((100:UInt8)::[])))))),(ByteArray.mk (List.toArray ((116:UInt8)::((101:UInt8)::((120:UInt8)::((116:UInt8)::[])))))))))))))
         else
          bif (x0.2.1==(14:Int))then
           some (.inr (.inr (.inr (.inr (.inl ((ByteArray.mk (List.toArray ((108:UInt8)::((111:UInt8)::((97:UInt8)::((100:UInt8)::[])))))),(ByteArray.mk (List.toArray ((98:UInt8)::((121:UInt8)::((116:UInt8)::((101:UInt8)::((115:UInt8)::[])))))))))))))
          else
           bif (x0.2.1==(15:Int))then
            some (.inr (.inr (.inr (.inl (ByteArray.mk (List.toArray ((112:UInt8)::((97:UInt8)::((99:UInt8)::((107:UInt8)::((101:UInt8)::((116:UInt8)::[]))))))))))))
           else
            bif (x0.2.1==(16:Int))then
             some (.inr (.inr (.inl (ByteArray.mk (List.toArray ((116:UInt8)::((105:UInt8)::((99:UInt8)::((107:UInt8)::[])))))))))
            else
             bif (x0.2.1==(17:Int))then
              some (.inr (.inl (ByteArray.mk (List.toArray ((110:UInt8)::((101:UInt8)::((120:UInt8)::((116:UInt8)::[]))))))))
             else
              bif (x0.2.1==(18:Int))then
               some (.inr (.inl (ByteArray.mk (List.toArray ((100:UInt8)::((117:UInt8)::((109:UInt8)::((112:UInt8)::[]))))))))
              else
               some (.inl ())
def zJb(κ:Nat)(a0:ByteArray)(a1 a2:Int)(a3:List zD)(a4:ByteArray)(a5:Int)(a6 a7:Bool)(a8:ByteArray)(a9 a10:Int)(a11:List Int):Option Ty6:=
 some (a0,Bool.true,a1,a2,a3,a4,a5,a6,a7,a8,a9,a10,a11)
def qd(κ:Nat)(a0 a1:Int)(a2:List zD)(a3:ByteArray)(a4:Int)(a5 a6:Bool)(a7:ByteArray)(a8 a9:Int)(a10:List Int):Option Ty6:=
 Option.bind (Ev.Seat.ve κ (IntKind.wrap IntKind.u64 a1)) fun x0=>
  bif (decide (a1≥(1:Int)))then
   some (x0,(decide (a1≤(9:Int))),a0,a1,a2,a3,a4,a5,a6,a7,a8,a9,a10)
  else
   some (x0,Bool.false,a0,a1,a2,a3,a4,a5,a6,a7,a8,a9,a10)
def jZ(κ:Nat)(a0 a1:Int)(a2:List zD)(a3:ByteArray)(a4:Int)(a5 a6:Bool)(a7:ByteArray)(a8 a9:Int)(a10:List Int):Option Ty6:=
 Option.bind (Ev.Seat.yQ κ a7) fun x0=>
  some (a7,x0,a0,a1,a2,a3,a4,a5,a6,a7,a8,a9,a10)
def zbe(κ:Nat)(a0 a1:Int)(a2:List zD)(a3:ByteArray)(a4:Int)(a5 a6:Bool)(a7:ByteArray)(a8 a9:Int)(a10:List Int):Option zde:=
 some (a0,a1,a2,a3,a4,a5,a6,a7,a8,a9,a10)
def vW(κ:Nat)(a0 a1:Int)(a2:List zD)(a3:ByteArray)(a4:Int)(a5 a6:Bool)(a7:ByteArray)(a8 a9:Int)(a10:List Int):Option Ty6:=
 Option.bind (Ev.Seat.ve κ a4) fun x0=>
  some (x0,Bool.true,a0,a1,a2,a3,a4,a5,a6,a7,a8,a9,a10)
def zTA(κ:Nat)(a0 a1:Int)(a2:List zD)(a3:ByteArray)(a4:Int)(a5 a6:Bool)(a7:ByteArray)(a8 a9:Int)(a10:List Int):Option zde:=
 some (a0,a1,a2,a3,a4,a5,a6,a7,a8,a9,a10)
def kp(κ:Nat)(a0 a1:Int)(a2:List zD)(a3:ByteArray)(a4:Int)(a5 a6:Bool)(a7:ByteArray)(a8 a9:Int)(a10:List Int):Option Ty6:=
 Option.bind (Ev.Seat.ve κ a8) fun x0=>
  some (x0,Bool.true,a0,a1,a2,a3,a4,a5,a6,a7,a8,a9,a10)
def zIE(κ:Nat)(a0 a1:Int)(a2:List zD)(a3:ByteArray)(a4:Int)(a5 a6:Bool)(a7:ByteArray)(a8 a9:Int)(a10:List Int):Option zde:=
 some (a0,a1,a2,a3,a4,a5,a6,a7,a8,a9,a10)
def gI(κ:Nat)(a0 a1:ByteArray)(a2 a3:Int)(a4:List zD)(a5:ByteArray)(a6:Int)(a7 a8:Bool)(a9:ByteArray)(a10 a11:Int)(a12:List Int):Option Ty6:=
 bif a7 then
  some (a1,Bool.true,a2,a3,a4,a5,a6,a7,a8,a9,a10,a11,a12)
 else
  some (a0,Bool.true,a2,a3,a4,a5,a6,a7,a8,a9,a10,a11,a12)
def gA(κ:Nat)(a0 a1:Int)(a2:List zD)(a3:ByteArray)(a4:Int)(a5 a6:Bool)(a7:ByteArray)(a8 a9:Int)(a10:List Int):Option Ty6:=
 Option.bind (Ev.Seat.ve κ a4) fun x0=>
  some (x0,Bool.true,a0,a1,a2,a3,a4,a5,a6,a7,a8,a9,a10)
def jT(κ:Nat)(a0 a1:Int)(a2:List zD)(a3:ByteArray)(a4:Int)(a5 a6:Bool)(a7:ByteArray)(a8 a9:Int)(a10:List Int):Option Ty6:=
 Option.bind (Ev.Seat.zl κ a2) fun x0=>
  bif (decide ((((List.length a2):Nat):Int)>(0:Int)))then
   some (x0,(!(Ev.seq x0 (ByteArray.mk (List.toArray [])))),a0,a1,a2,a3,a4,a5,a6,a7,a8,a9,a10)
  else
   some (x0,Bool.false,a0,a1,a2,a3,a4,a5,a6,a7,a8,a9,a10)
def zTT(κ:Nat)(a0 a1:Int)(a2:List zD)(a3:ByteArray)(a4:Int)(a5 a6:Bool)(a7:ByteArray)(a8 a9:Int)(a10:List Int):Option zde:=
 some (a0,a1,a2,a3,a4,a5,a6,a7,a8,a9,a10)
def ku(κ:Nat)(a0 a1:Int)(a2:List zD)(a3:ByteArray)(a4:Int)(a5 a6:Bool)(a7:ByteArray)(a8 a9:Int)(a10:List Int):Option Ty6:=
 Option.bind (Ev.Seat.ve κ a9) fun x0=>
  some (x0,Bool.true,a0,a1,a2,a3,a4,a5,a6,a7,a8,a9,a10)
def jb(κ:Nat)(a0:Int):Option ((List Int)):=
 some (a0::[])
def ym(κ:Nat)(a0:Int)(a1:List Int):Option ((List Int)):=
 bif (Nat.ble ((List.length a1)+(List.length (a0::[]))) (Ev.room (0+1)))then
  some (a1++(a0::[]))
 else
  none
def qm(κ:Nat)(a0:Int)(a1:List Int):Option ((List Int)):=
 bif (Nat.ble ((List.length a1)+(List.length (a0::[]))) (Ev.room (0+1)))then
  some (a1++(a0::[]))
 else
  none
def yu.w0(κ:Nat)(rec:(((List Int)×Int×Int×(List Int))⊕((List Int)×Int×Int×(List Int)))→Option (((List Int))⊕((List Int))))(a0:List Int)(a1 a2:Int)(a3:List Int):Option (((List Int))⊕((List Int))):=
 bif (decide (a2<a1))then
  bif (decide ((0:Int)≤a2))then
   Option.bind (a0[(Int.toNat a2)]?) fun x0=>
    bif (decide ((0:Int)≤(Int.fdiv x0 ((2:Int)^(Min.min (Int.toNat (4:Int)) (IntKind.bits IntKind.u8))))))then
     Option.bind ((Array.toList (ByteArray.data (ByteArray.mk (List.toArray ((48:UInt8)::((49:UInt8)::((50:UInt8)::((51:UInt8)::((52:UInt8)::((53:UInt8)::((54:UInt8)::((55:UInt8)::((56:UInt8)::((57:UInt8)::((97:UInt8)::((98:UInt8)::((99:UInt8)::((100:UInt8)::((101:UInt8)::((102:UInt8)::[]))))))))))))))))))))[(Int.toNat (Int.fdiv x0 ((2:Int)^(Min.min (Int.toNat (4:Int)) (IntKind.bits IntKind.u8)))))]?) fun x1=>
      Option.bind (Ev.Seat.qm κ (((UInt8.toNat x1):Nat):Int) a3) fun x2=>
       Option.bind ((Array.toList (ByteArray.data (ByteArray.mk (List.toArray ((48:UInt8)::((49:UInt8)::((50:UInt8)::((51:UInt8)::((52:UInt8)::((53:UInt8)::((54:UInt8)::((55:UInt8)::((56:UInt8)::((57:UInt8)::((97:UInt8)::((98:UInt8)::((99:UInt8)::((100:UInt8)::((101:UInt8)::((102:UInt8)::[]))))))))))))))))))))[(Int.toNat (IntKind.wrap IntKind.u8 (((BitVec.toNat (HAnd.hAnd (BitVec.ofInt (IntKind.bits IntKind.u8) x0) (BitVec.ofInt (IntKind.bits IntKind.u8) (15:Int)))):Nat):Int)))]?) fun x3=>
        Option.bind (Ev.Seat.ym κ (((UInt8.toNat x3):Nat):Int) x2) fun x4=>
         rec (.inr (a0,a1,(IntKind.wrap IntKind.i64 (a2+(1:Int))),x4))
    else
     none
  else
   none
 else
  some (.inl a3)
def yu.zfj(κ:Nat)(rec:(((List Int)×Int×Int×(List Int))⊕((List Int)×Int×Int×(List Int)))→Option (((List Int))⊕((List Int))))(a0:List Int)(a1 a2:Int)(a3:List Int):Option (((List Int))⊕((List Int))):=
 bif (decide (a2<a1))then
  bif (decide ((0:Int)≤a2))then
   Option.bind (a0[(Int.toNat a2)]?) fun x0=>
    bif (decide ((0:Int)≤(Int.fdiv x0 ((2:Int)^(Min.min (Int.toNat (4:Int)) (IntKind.bits IntKind.u8))))))then
     Option.bind ((Array.toList (ByteArray.data (ByteArray.mk (List.toArray ((48:UInt8)::((49:UInt8)::((50:UInt8)::((51:UInt8)::((52:UInt8)::((53:UInt8)::((54:UInt8)::((55:UInt8)::((56:UInt8)::((57:UInt8)::((97:UInt8)::((98:UInt8)::((99:UInt8)::((100:UInt8)::((101:UInt8)::((102:UInt8)::[]))))))))))))))))))))[(Int.toNat (Int.fdiv x0 ((2:Int)^(Min.min (Int.toNat (4:Int)) (IntKind.bits IntKind.u8)))))]?) fun x1=>
      Option.bind (Ev.Seat.ym κ (((UInt8.toNat x1):Nat):Int) a3) fun x2=>
       Option.bind ((Array.toList (ByteArray.data (ByteArray.mk (List.toArray ((48:UInt8)::((49:UInt8)::((50:UInt8)::((51:UInt8)::((52:UInt8)::((53:UInt8)::((54:UInt8)::((55:UInt8)::((56:UInt8)::((57:UInt8)::((97:UInt8)::((98:UInt8)::((99:UInt8)::((100:UInt8)::((101:UInt8)::((102:UInt8)::[]))))))))))))))))))))[(Int.toNat (IntKind.wrap IntKind.u8 (((BitVec.toNat (HAnd.hAnd (BitVec.ofInt (IntKind.bits IntKind.u8) x0) (BitVec.ofInt (IntKind.bits IntKind.u8) (15:Int)))):Nat):Int)))]?) fun x3=>
        Option.bind (Ev.Seat.ym κ (((UInt8.toNat x3):Nat):Int) x2) fun x4=>
         rec (.inr (a0,a1,(IntKind.wrap IntKind.i64 (a2+(1:Int))),x4))
    else
     none
  else
   none
 else
  some (.inr a3)
def yu.l0(κ:Nat):Nat→(((List Int)×Int×Int×(List Int))⊕((List Int)×Int×Int×(List Int)))→Option (((List Int))⊕((List Int)))
 |0,_ =>none
 |k+1,(.inl (a0,a1,a2,a3))=>yu.w0 κ (yu.l0 κ k) a0 a1 a2 a3
 |k+1,(.inr (a0,a1,a2,a3))=>yu.zfj κ (yu.l0 κ k) a0 a1 a2 a3
def yu(κ:Nat)(a0:List Int):Option (ByteArray):=
 Option.bind (Ev.Seat.yu.l0 κ κ (Sum.inl (a0,(((List.length a0):Nat):Int),(0:Int),[]))) fun x0=>
  match x0 with
  | .inl x1=>
   Option.bind (Ev.Seat.y2 κ x1) fun x2=>
    some x2
  | .inr x3=>
   Option.bind (Ev.Seat.qM κ x3) fun x4=>
    some x4
def js(κ:Nat)(a0 a1:Int)(a2:List zD)(a3:ByteArray)(a4:Int)(a5 a6:Bool)(a7:ByteArray)(a8 a9:Int)(a10:List Int):Option Ty6:=
 Option.bind (Ev.Seat.yu κ a10) fun x0=>
  some (x0,Bool.true,a0,a1,a2,a3,a4,a5,a6,a7,a8,a9,a10)
def zBm(κ:Nat)(a0 a1:Int)(a2:List zD)(a3:ByteArray)(a4:Int)(a5 a6:Bool)(a7:ByteArray)(a8 a9:Int)(a10:List Int):Option Ty6:=
 some ((ByteArray.mk (List.toArray (List.map (fun x=>(UInt8.ofNat (Int.toNat x))) a10))),Bool.true,a0,a1,a2,a3,a4,a5,a6,a7,a8,a9,a10)
def zH7(κ:Nat)(a0 a1:Int)(a2:List zD)(a3:ByteArray)(a4:Int)(a5 a6:Bool)(a7:ByteArray)(a8 a9:Int)(a10:List Int):Option zde:=
 some (a0,a1,a2,a3,a4,a5,a6,a7,a8,a9,a10)
def jv(κ:Nat)(a0 a1:ByteArray)(a2 a3:Int)(a4:List zD)(a5:ByteArray)(a6:Int)(a7 a8:Bool)(a9:ByteArray)(a10 a11:Int)(a12:List Int):Option Ty6:=
 bif a8 then
  some (a1,Bool.true,a2,a3,a4,a5,a6,a7,a8,a9,a10,a11,a12)
 else
  some (a0,Bool.true,a2,a3,a4,a5,a6,a7,a8,a9,a10,a11,a12)
def vj.v0(κ:Nat)(a0:ByteArray):Option (Bool):=
 bif (!(Ev.seq a0 (ByteArray.mk (List.toArray []))))then
  Option.bind (Ev.Seat.wg κ a0 (ByteArray.mk (List.toArray (List.append ((97:UInt8)::((98:UInt8)::((99:UInt8)::((100:UInt8)::((101:UInt8)::((102:UInt8)::((103:UInt8)::((104:UInt8)::((105:UInt8)::((106:UInt8)::((107:UInt8)::((108:UInt8)::((109:UInt8)::((110:UInt8)::((111:UInt8)::((112:UInt8)::((113:UInt8)::((114:UInt8)::((115:UInt8)::((116:UInt8)::((117:UInt8)::((118:UInt8)::((119:UInt8)::((120:UInt8)::((121:UInt8)::((122:UInt8)::((65:UInt8)::((66:UInt8)::((67:UInt8)::((68:UInt8)::((69:UInt8)::((70:UInt8)::[])))))))))))))))))))))))))))))))) ((71:UInt8)::((72:UInt8)::((73:UInt8)::((74:UInt8)::((75:UInt8)::((76:UInt8)::((77:UInt8)::((78:UInt8)::((79:UInt8)::((80:UInt8)::((81:UInt8)::((82:UInt8)::((83:UInt8)::((84:UInt8)::((85:UInt8)::((86:UInt8)::((87:UInt8)::((88:UInt8)::((89:UInt8)::((90:UInt8)::((48:UInt8)::((49:UInt8)::((50:UInt8)::((51:UInt8)::((52:UInt8)::((53:UInt8)::((54:UInt8)::((55:UInt8)::((56:UInt8)::((57:UInt8)::((95:UInt8)::((45:UInt8)::((46:UInt8)::[]))))))))))))))))))))))))))))))))))))) fun x0=>
   some (Ev.seq x0 (ByteArray.mk (List.toArray [])))
 else
  some Bool.false
def vj(κ:Nat)(a0:ByteArray):Option (Bool):=
 Option.bind (Ev.Seat.vj.v0 κ a0) fun x0=>
  some x0
def kA(κ:Nat)(a0 a1:Int)(a2:List zD)(a3:ByteArray)(a4:Int)(a5 a6:Bool)(a7:ByteArray)(a8 a9:Int)(a10:List Int):Option Ty6:=
 Option.bind (Ev.Seat.vj κ a3) fun x0=>
  some (a3,x0,a0,a1,a2,a3,a4,a5,a6,a7,a8,a9,a10)
def strings_Join(κ:Nat)(a0:ByteArray):Option (ByteArray):=
 some (ByteArray.mk (List.toArray []))
def zE.v0(κ:Nat)(a0 a1:Int)(a2:List zD)(a3:ByteArray)(a4:Int)(a5 a6:Bool)(a7:ByteArray)(a8 a9:Int)(a10:List Int):Option (Unit):=
 some ()
def zE.v1(κ:Nat)(a0 a1:Int)(a2:List zD)(a3:ByteArray)(a4:Int)(a5 a6:Bool)(a7:ByteArray)(a8 a9:Int)(a10:List Int)(a11:ByteArray):Option Ty2:=
 some (a0,a1,a2,a3,a4,a5,a6,a7,a8,a9,a10,(a11::[]),a11)
def zE.v2(κ:Nat)(a0 a1:Int)(a2:List zD)(a3:ByteArray)(a4:Int)(a5 a6:Bool)(a7:ByteArray)(a8 a9:Int)(a10:List Int)(a11:ByteArray):Option Ty2:=
 some (a0,a1,a2,a3,a4,a5,a6,a7,a8,a9,a10,(a11::[]),a11)
def zE.v3(κ:Nat)(a0 a1:Int)(a2:List zD)(a3:ByteArray)(a4:Int)(a5 a6:Bool)(a7:ByteArray)(a8 a9:Int)(a10:List Int)(a11:ByteArray):Option Ty2:=
 some (a0,a1,a2,a3,a4,a5,a6,a7,a8,a9,a10,(a11::[]),a11)
def zE.v4(κ:Nat)(a0 a1:Int)(a2:List zD)(a3:ByteArray)(a4:Int)(a5 a6:Bool)(a7:ByteArray)(a8 a9:Int)(a10:List Int)(a11 a12:ByteArray):Option (zYl⊕(ByteArray×Bool)):=
 Option.bind (Ev.Seat.qd κ a0 a1 a2 a3 a4 a5 a6 a7 a8 a9 a10) fun x0=>
  bif (!x0.2.1)then
   some (.inr ((ByteArray.mk (List.toArray [])),Bool.false))
  else
   some (.inl (x0.2.2.1,x0.2.2.2.1,x0.2.2.2.2.1,x0.2.2.2.2.2.1,x0.2.2.2.2.2.2.1,x0.2.2.2.2.2.2.2.1,x0.2.2.2.2.2.2.2.2.1,x0.2.2.2.2.2.2.2.2.2.1,x0.2.2.2.2.2.2.2.2.2.2.1,x0.2.2.2.2.2.2.2.2.2.2.2.1,x0.2.2.2.2.2.2.2.2.2.2.2.2,(x0.1::[]),a11,a12))
def zE.v5(κ:Nat)(a0 a1:Int)(a2:List zD)(a3:ByteArray)(a4:Int)(a5 a6:Bool)(a7:ByteArray)(a8 a9:Int)(a10:List Int)(a11 a12:ByteArray):Option (zYl⊕(ByteArray×Bool)):=
 Option.bind (Ev.Seat.qd κ a0 a1 a2 a3 a4 a5 a6 a7 a8 a9 a10) fun x0=>
  bif (!x0.2.1)then
   some (.inr ((ByteArray.mk (List.toArray [])),Bool.false))
  else
   some (.inl (x0.2.2.1,x0.2.2.2.1,x0.2.2.2.2.1,x0.2.2.2.2.2.1,x0.2.2.2.2.2.2.1,x0.2.2.2.2.2.2.2.1,x0.2.2.2.2.2.2.2.2.1,x0.2.2.2.2.2.2.2.2.2.1,x0.2.2.2.2.2.2.2.2.2.2.1,x0.2.2.2.2.2.2.2.2.2.2.2.1,x0.2.2.2.2.2.2.2.2.2.2.2.2,(x0.1::[]),a11,a12))
def zE.v6(κ:Nat)(a0 a1:Int)(a2:List zD)(a3:ByteArray)(a4:Int)(a5 a6:Bool)(a7:ByteArray)(a8 a9:Int)(a10:List Int)(a11 a12 a13 a14 a15:ByteArray):Option (zfV⊕(ByteArray×Bool)):=
 Option.bind (Ev.Seat.qd κ a0 a1 a2 a3 a4 a5 a6 a7 a8 a9 a10) fun x0=>
  bif (!x0.2.1)then
   some (.inr ((ByteArray.mk (List.toArray [])),Bool.false))
  else
   some (.inl (x0.2.2.1,x0.2.2.2.1,x0.2.2.2.2.1,x0.2.2.2.2.2.1,x0.2.2.2.2.2.2.1,x0.2.2.2.2.2.2.2.1,x0.2.2.2.2.2.2.2.2.1,x0.2.2.2.2.2.2.2.2.2.1,x0.2.2.2.2.2.2.2.2.2.2.1,x0.2.2.2.2.2.2.2.2.2.2.2.1,x0.2.2.2.2.2.2.2.2.2.2.2.2,(x0.1::[]),a11,a12,a13,a14,a15))
def zE.v7(κ:Nat)(a0 a1:Int)(a2:List zD)(a3:ByteArray)(a4:Int)(a5 a6:Bool)(a7:ByteArray)(a8 a9:Int)(a10:List Int)(a11:ByteArray):Option (Ty2⊕(ByteArray×Bool)):=
 Option.bind (Ev.Seat.qd κ a0 a1 a2 a3 a4 a5 a6 a7 a8 a9 a10) fun x0=>
  bif (!x0.2.1)then
   some (.inr ((ByteArray.mk (List.toArray [])),Bool.false))
  else
   some (.inl (x0.2.2.1,x0.2.2.2.1,x0.2.2.2.2.1,x0.2.2.2.2.2.1,x0.2.2.2.2.2.2.1,x0.2.2.2.2.2.2.2.1,x0.2.2.2.2.2.2.2.2.1,x0.2.2.2.2.2.2.2.2.2.1,x0.2.2.2.2.2.2.2.2.2.2.1,x0.2.2.2.2.2.2.2.2.2.2.2.1,x0.2.2.2.2.2.2.2.2.2.2.2.2,(x0.1::[]),a11))
def zE.v8(κ:Nat)(a0 a1:Int)(a2:List zD)(a3:ByteArray)(a4:Int)(a5 a6:Bool)(a7:ByteArray)(a8 a9:Int)(a10:List Int)(a11:ByteArray):Option (Ty2⊕(ByteArray×Bool)):=
 Option.bind (Ev.Seat.qd κ a0 a1 a2 a3 a4 a5 a6 a7 a8 a9 a10) fun x0=>
  bif (!x0.2.1)then
   some (.inr ((ByteArray.mk (List.toArray [])),Bool.false))
  else
   some (.inl (x0.2.2.1,x0.2.2.2.1,x0.2.2.2.2.1,x0.2.2.2.2.2.1,x0.2.2.2.2.2.2.1,x0.2.2.2.2.2.2.2.1,x0.2.2.2.2.2.2.2.2.1,x0.2.2.2.2.2.2.2.2.2.1,x0.2.2.2.2.2.2.2.2.2.2.1,x0.2.2.2.2.2.2.2.2.2.2.2.1,x0.2.2.2.2.2.2.2.2.2.2.2.2,(x0.1::[]),a11))
def zE.v9(κ:Nat)(a0 a1:Int)(a2:List zD)(a3:ByteArray)(a4:Int)(a5 a6:Bool)(a7:ByteArray)(a8 a9:Int)(a10:List Int)(a11:ByteArray):Option (Ty2⊕(ByteArray×Bool)):=
 Option.bind (Ev.Seat.qd κ a0 a1 a2 a3 a4 a5 a6 a7 a8 a9 a10) fun x0=>
  bif (!x0.2.1)then
   some (.inr ((ByteArray.mk (List.toArray [])),Bool.false))
  else
   some (.inl (x0.2.2.1,x0.2.2.2.1,x0.2.2.2.2.1,x0.2.2.2.2.2.1,x0.2.2.2.2.2.2.1,x0.2.2.2.2.2.2.2.1,x0.2.2.2.2.2.2.2.2.1,x0.2.2.2.2.2.2.2.2.2.1,x0.2.2.2.2.2.2.2.2.2.2.1,x0.2.2.2.2.2.2.2.2.2.2.2.1,x0.2.2.2.2.2.2.2.2.2.2.2.2,(x0.1::[]),a11))
def zE.v10(κ:Nat)(a0 a1:Int)(a2:List zD)(a3:ByteArray)(a4:Int)(a5 a6:Bool)(a7:ByteArray)(a8 a9:Int)(a10:List Int)(a11:ByteArray):Option (Ty2⊕(ByteArray×Bool)):=
 Option.bind (Ev.Seat.qd κ a0 a1 a2 a3 a4 a5 a6 a7 a8 a9 a10) fun x0=>
  bif (!x0.2.1)then
   some (.inr ((ByteArray.mk (List.toArray [])),Bool.false))
  else
   some (.inl (x0.2.2.1,x0.2.2.2.1,x0.2.2.2.2.1,x0.2.2.2.2.2.1,x0.2.2.2.2.2.2.1,x0.2.2.2.2.2.2.2.1,x0.2.2.2.2.2.2.2.2.1,x0.2.2.2.2.2.2.2.2.2.1,x0.2.2.2.2.2.2.2.2.2.2.1,x0.2.2.2.2.2.2.2.2.2.2.2.1,x0.2.2.2.2.2.2.2.2.2.2.2.2,(x0.1::[]),a11))
def zE.v11(κ:Nat)(a0 a1:Int)(a2:List zD)(a3:ByteArray)(a4:Int)(a5 a6:Bool)(a7:ByteArray)(a8 a9:Int)(a10:List Int)(a11:ByteArray):Option (Ty2⊕(ByteArray×Bool)):=
 Option.bind (Ev.Seat.qd κ a0 a1 a2 a3 a4 a5 a6 a7 a8 a9 a10) fun x0=>
  bif (!x0.2.1)then
   some (.inr ((ByteArray.mk (List.toArray [])),Bool.false))
  else
   some (.inl (x0.2.2.1,x0.2.2.2.1,x0.2.2.2.2.1,x0.2.2.2.2.2.1,x0.2.2.2.2.2.2.1,x0.2.2.2.2.2.2.2.1,x0.2.2.2.2.2.2.2.2.1,x0.2.2.2.2.2.2.2.2.2.1,x0.2.2.2.2.2.2.2.2.2.2.1,x0.2.2.2.2.2.2.2.2.2.2.2.1,x0.2.2.2.2.2.2.2.2.2.2.2.2,(x0.1::[]),a11))
def zE.v12(κ:Nat)(a0 a1:Int)(a2:List zD)(a3:ByteArray)(a4:Int)(a5 a6:Bool)(a7:ByteArray)(a8 a9:Int)(a10:List Int)(a11:List ByteArray)(a12:ByteArray):Option (Ty2⊕(ByteArray×Bool)):=
 Option.bind (Ev.Seat.jZ κ a0 a1 a2 a3 a4 a5 a6 a7 a8 a9 a10) fun x0=>
  bif (!x0.2.1)then
   some (.inr ((ByteArray.mk (List.toArray [])),Bool.false))
  else
   bif (Nat.ble ((List.length a11)+(List.length (x0.1::[]))) (Ev.room (15+1)))then
    some (.inl (x0.2.2.1,x0.2.2.2.1,x0.2.2.2.2.1,x0.2.2.2.2.2.1,x0.2.2.2.2.2.2.1,x0.2.2.2.2.2.2.2.1,x0.2.2.2.2.2.2.2.2.1,x0.2.2.2.2.2.2.2.2.2.1,x0.2.2.2.2.2.2.2.2.2.2.1,x0.2.2.2.2.2.2.2.2.2.2.2.1,x0.2.2.2.2.2.2.2.2.2.2.2.2,(a11++(x0.1::[])),a12))
   else
    none
def zE.v13(κ:Nat)(a0 a1:Int)(a2:List zD)(a3:ByteArray)(a4:Int)(a5 a6:Bool)(a7:ByteArray)(a8 a9:Int)(a10:List Int)(a11:List ByteArray)(a12:ByteArray):Option (Ty2⊕(ByteArray×Bool)):=
 Option.bind (Ev.Seat.vW κ a0 a1 a2 a3 a4 a5 a6 a7 a8 a9 a10) fun x0=>
  bif (!x0.2.1)then
   some (.inr ((ByteArray.mk (List.toArray [])),Bool.false))
  else
   bif (Nat.ble ((List.length a11)+(List.length (x0.1::[]))) (Ev.room (15+1)))then
    some (.inl (x0.2.2.1,x0.2.2.2.1,x0.2.2.2.2.1,x0.2.2.2.2.2.1,x0.2.2.2.2.2.2.1,x0.2.2.2.2.2.2.2.1,x0.2.2.2.2.2.2.2.2.1,x0.2.2.2.2.2.2.2.2.2.1,x0.2.2.2.2.2.2.2.2.2.2.1,x0.2.2.2.2.2.2.2.2.2.2.2.1,x0.2.2.2.2.2.2.2.2.2.2.2.2,(a11++(x0.1::[])),a12))
   else
    none
def zE.v14(κ:Nat)(a0 a1:Int)(a2:List zD)(a3:ByteArray)(a4:Int)(a5 a6:Bool)(a7:ByteArray)(a8 a9:Int)(a10:List Int)(a11:List ByteArray)(a12:ByteArray):Option (Ty2⊕(ByteArray×Bool)):=
 Option.bind (Ev.Seat.jZ κ a0 a1 a2 a3 a4 a5 a6 a7 a8 a9 a10) fun x0=>
  bif (!x0.2.1)then
   some (.inr ((ByteArray.mk (List.toArray [])),Bool.false))
  else
   bif (Nat.ble ((List.length a11)+(List.length (x0.1::[]))) (Ev.room (15+1)))then
    some (.inl (x0.2.2.1,x0.2.2.2.1,x0.2.2.2.2.1,x0.2.2.2.2.2.1,x0.2.2.2.2.2.2.1,x0.2.2.2.2.2.2.2.1,x0.2.2.2.2.2.2.2.2.1,x0.2.2.2.2.2.2.2.2.2.1,x0.2.2.2.2.2.2.2.2.2.2.1,x0.2.2.2.2.2.2.2.2.2.2.2.1,x0.2.2.2.2.2.2.2.2.2.2.2.2,(a11++(x0.1::[])),a12))
   else
    none
def zE.v15(κ:Nat)(a0 a1:Int)(a2:List zD)(a3:ByteArray)(a4:Int)(a5 a6:Bool)(a7:ByteArray)(a8 a9:Int)(a10:List Int)(a11:List ByteArray)(a12 a13:ByteArray):Option zYl:=
 bif (Nat.ble ((List.length a11)+(List.length (a12::[]))) (Ev.room (15+1)))then
  some (a0,a1,a2,a3,a4,a5,a6,a7,a8,a9,a10,(a11++(a12::[])),a12,a13)
 else
  none
def zE.v16(κ:Nat)(a0 a1:Int)(a2:List zD)(a3:ByteArray)(a4:Int)(a5 a6:Bool)(a7:ByteArray)(a8 a9:Int)(a10:List Int)(a11:List ByteArray)(a12 a13:ByteArray):Option zYl:=
 bif (Nat.ble ((List.length a11)+(List.length (a12::[]))) (Ev.room (15+1)))then
  some (a0,a1,a2,a3,a4,a5,a6,a7,a8,a9,a10,(a11++(a12::[])),a12,a13)
 else
  none
def zE.v17(κ:Nat)(a0 a1:Int)(a2:List zD)(a3:ByteArray)(a4:Int)(a5 a6:Bool)(a7:ByteArray)(a8 a9:Int)(a10:List Int)(a11:List ByteArray)(a12 a13 a14 a15 a16:ByteArray):Option zfV:=
 bif (Nat.ble ((List.length a11)+(List.length (a12::[]))) (Ev.room (15+1)))then
  some (a0,a1,a2,a3,a4,a5,a6,a7,a8,a9,a10,(a11++(a12::[])),a12,a13,a14,a15,a16)
 else
  none
def zE.v18(κ:Nat)(a0 a1:Int)(a2:List zD)(a3:ByteArray)(a4:Int)(a5 a6:Bool)(a7:ByteArray)(a8 a9:Int)(a10:List Int)(a11:List ByteArray)(a12:ByteArray):Option Ty2:=
 bif (Nat.ble ((List.length a11)+(List.length (a12::[]))) (Ev.room (15+1)))then
  some (a0,a1,a2,a3,a4,a5,a6,a7,a8,a9,a10,(a11++(a12::[])),a12)
 else
  none
def zE.v19(κ:Nat)(a0 a1:Int)(a2:List zD)(a3:ByteArray)(a4:Int)(a5 a6:Bool)(a7:ByteArray)(a8 a9:Int)(a10:List Int)(a11:List ByteArray)(a12:ByteArray):Option Ty2:=
 bif (Nat.ble ((List.length a11)+(List.length (a12::[]))) (Ev.room (15+1)))then
  some (a0,a1,a2,a3,a4,a5,a6,a7,a8,a9,a10,(a11++(a12::[])),a12)
 else
  none
def zE.v20(κ:Nat)(a0 a1:Int)(a2:List zD)(a3:ByteArray)(a4:Int)(a5 a6:Bool)(a7:ByteArray)(a8 a9:Int)(a10:List Int)(a11:List ByteArray)(a12:ByteArray):Option Ty2:=
 bif (Nat.ble ((List.length a11)+(List.length (a12::[]))) (Ev.room (15+1)))then
  some (a0,a1,a2,a3,a4,a5,a6,a7,a8,a9,a10,(a11++(a12::[])),a12)
 else
  none
def zE.v21(κ:Nat)(a0 a1:Int)(a2:List zD)(a3:ByteArray)(a4:Int)(a5 a6:Bool)(a7:ByteArray)(a8 a9:Int)(a10:List Int)(a11:List ByteArray)(a12:ByteArray):Option Ty2:=
 bif (Nat.ble ((List.length a11)+(List.length (a12::[]))) (Ev.room (15+1)))then
  some (a0,a1,a2,a3,a4,a5,a6,a7,a8,a9,a10,(a11++(a12::[])),a12)
 else
  none
def zE.v22(κ:Nat)(a0 a1:Int)(a2:List zD)(a3:ByteArray)(a4:Int)(a5 a6:Bool)(a7:ByteArray)(a8 a9:Int)(a10:List Int)(a11:List ByteArray)(a12:ByteArray):Option Ty2:=
 bif (Nat.ble ((List.length a11)+(List.length (a12::[]))) (Ev.room (15+1)))then
  some (a0,a1,a2,a3,a4,a5,a6,a7,a8,a9,a10,(a11++(a12::[])),a12)
 else
  none
def zE.v23(κ:Nat)(a0 a1:Int)(a2:List zD)(a3:ByteArray)(a4:Int)(a5 a6:Bool)(a7:ByteArray)(a8 a9:Int)(a10:List Int)(a11:List ByteArray)(a12:ByteArray):Option ((List ByteArray)):=
 some a11
def zE.v24(κ:Nat)(a0 a1:Int)(a2:List zD)(a3:ByteArray)(a4:Int)(a5 a6:Bool)(a7:ByteArray)(a8 a9:Int)(a10:List Int)(a11:List ByteArray)(a12:ByteArray):Option ((List ByteArray)):=
 some a11
def zE.v25(κ:Nat)(a0 a1:Int)(a2:List zD)(a3:ByteArray)(a4:Int)(a5 a6:Bool)(a7:ByteArray)(a8 a9:Int)(a10:List Int)(a11:List ByteArray)(a12:ByteArray):Option (Ty2⊕(ByteArray×Bool)):=
 Option.bind (Ev.Seat.kp κ a0 a1 a2 a3 a4 a5 a6 a7 a8 a9 a10) fun x0=>
  bif (!x0.2.1)then
   some (.inr ((ByteArray.mk (List.toArray [])),Bool.false))
  else
   bif (Nat.ble ((List.length a11)+(List.length (x0.1::[]))) (Ev.room (15+1)))then
    some (.inl (x0.2.2.1,x0.2.2.2.1,x0.2.2.2.2.1,x0.2.2.2.2.2.1,x0.2.2.2.2.2.2.1,x0.2.2.2.2.2.2.2.1,x0.2.2.2.2.2.2.2.2.1,x0.2.2.2.2.2.2.2.2.2.1,x0.2.2.2.2.2.2.2.2.2.2.1,x0.2.2.2.2.2.2.2.2.2.2.2.1,x0.2.2.2.2.2.2.2.2.2.2.2.2,(a11++(x0.1::[])),a12))
   else
    none
def zE.v26(κ:Nat)(a0 a1:Int)(a2:List zD)(a3:ByteArray)(a4:Int)(a5 a6:Bool)(a7:ByteArray)(a8 a9:Int)(a10:List Int)(a11:List ByteArray)(a12 a13:ByteArray):Option zYl:=
 bif (Nat.ble ((List.length a11)+(List.length (a13::[]))) (Ev.room (15+1)))then
  some (a0,a1,a2,a3,a4,a5,a6,a7,a8,a9,a10,(a11++(a13::[])),a12,a13)
 else
  none
def zE.v27(κ:Nat)(a0 a1:Int)(a2:List zD)(a3:ByteArray)(a4:Int)(a5 a6:Bool)(a7:ByteArray)(a8 a9:Int)(a10:List Int)(a11:List ByteArray)(a12 a13:ByteArray):Option zYl:=
 bif (Nat.ble ((List.length a11)+(List.length (a13::[]))) (Ev.room (15+1)))then
  some (a0,a1,a2,a3,a4,a5,a6,a7,a8,a9,a10,(a11++(a13::[])),a12,a13)
 else
  none
def zE.v28(κ:Nat)(a0 a1:Int)(a2:List zD)(a3:ByteArray)(a4:Int)(a5 a6:Bool)(a7:ByteArray)(a8 a9:Int)(a10:List Int)(a11:List ByteArray)(a12 a13 a14 a15 a16:ByteArray):Option (zfV⊕(ByteArray×Bool)):=
 Option.bind (Ev.Seat.gI κ a13 a14 a0 a1 a2 a3 a4 a5 a6 a7 a8 a9 a10) fun x0=>
  bif (!x0.2.1)then
   some (.inr ((ByteArray.mk (List.toArray [])),Bool.false))
  else
   bif (Nat.ble ((List.length a11)+(List.length (x0.1::[]))) (Ev.room (15+1)))then
    some (.inl (x0.2.2.1,x0.2.2.2.1,x0.2.2.2.2.1,x0.2.2.2.2.2.1,x0.2.2.2.2.2.2.1,x0.2.2.2.2.2.2.2.1,x0.2.2.2.2.2.2.2.2.1,x0.2.2.2.2.2.2.2.2.2.1,x0.2.2.2.2.2.2.2.2.2.2.1,x0.2.2.2.2.2.2.2.2.2.2.2.1,x0.2.2.2.2.2.2.2.2.2.2.2.2,(a11++(x0.1::[])),a12,a13,a14,a15,a16))
   else
    none
def zE.v29(κ:Nat)(a0 a1:Int)(a2:List zD)(a3:ByteArray)(a4:Int)(a5 a6:Bool)(a7:ByteArray)(a8 a9:Int)(a10:List Int)(a11:List ByteArray)(a12:ByteArray):Option (Ty2⊕(ByteArray×Bool)):=
 Option.bind (Ev.Seat.vW κ a0 a1 a2 a3 a4 a5 a6 a7 a8 a9 a10) fun x0=>
  bif (!x0.2.1)then
   some (.inr ((ByteArray.mk (List.toArray [])),Bool.false))
  else
   bif (Nat.ble ((List.length a11)+(List.length (x0.1::[]))) (Ev.room (15+1)))then
    some (.inl (x0.2.2.1,x0.2.2.2.1,x0.2.2.2.2.1,x0.2.2.2.2.2.1,x0.2.2.2.2.2.2.1,x0.2.2.2.2.2.2.2.1,x0.2.2.2.2.2.2.2.2.1,x0.2.2.2.2.2.2.2.2.2.1,x0.2.2.2.2.2.2.2.2.2.2.1,x0.2.2.2.2.2.2.2.2.2.2.2.1,x0.2.2.2.2.2.2.2.2.2.2.2.2,(a11++(x0.1::[])),a12))
   else
    none
def zE.v30(κ:Nat)(a0 a1:Int)(a2:List zD)(a3:ByteArray)(a4:Int)(a5 a6:Bool)(a7:ByteArray)(a8 a9:Int)(a10:List Int)(a11:List ByteArray)(a12:ByteArray):Option (Ty2⊕(ByteArray×Bool)):=
 Option.bind (Ev.Seat.gA κ a0 a1 a2 a3 a4 a5 a6 a7 a8 a9 a10) fun x0=>
  bif (!x0.2.1)then
   some (.inr ((ByteArray.mk (List.toArray [])),Bool.false))
  else
   bif (decide (x0.2.2.2.2.2.2.1>(0:Int)))then
    bif (Nat.ble ((List.length a11)+(List.length (x0.1::[]))) (Ev.room (15+1)))then
     some (.inl (x0.2.2.1,x0.2.2.2.1,x0.2.2.2.2.1,x0.2.2.2.2.2.1,x0.2.2.2.2.2.2.1,x0.2.2.2.2.2.2.2.1,x0.2.2.2.2.2.2.2.2.1,x0.2.2.2.2.2.2.2.2.2.1,x0.2.2.2.2.2.2.2.2.2.2.1,x0.2.2.2.2.2.2.2.2.2.2.2.1,x0.2.2.2.2.2.2.2.2.2.2.2.2,(a11++(x0.1::[])),a12))
    else
     none
   else
    some (.inl (x0.2.2.1,x0.2.2.2.1,x0.2.2.2.2.1,x0.2.2.2.2.2.1,x0.2.2.2.2.2.2.1,x0.2.2.2.2.2.2.2.1,x0.2.2.2.2.2.2.2.2.1,x0.2.2.2.2.2.2.2.2.2.1,x0.2.2.2.2.2.2.2.2.2.2.1,x0.2.2.2.2.2.2.2.2.2.2.2.1,x0.2.2.2.2.2.2.2.2.2.2.2.2,a11,a12))
def zE.v31(κ:Nat)(a0 a1:Int)(a2:List zD)(a3:ByteArray)(a4:Int)(a5 a6:Bool)(a7:ByteArray)(a8 a9:Int)(a10:List Int)(a11:List ByteArray)(a12:ByteArray):Option (Ty2⊕(ByteArray×Bool)):=
 Option.bind (Ev.Seat.jT κ a0 a1 a2 a3 a4 a5 a6 a7 a8 a9 a10) fun x0=>
  bif (!x0.2.1)then
   some (.inr ((ByteArray.mk (List.toArray [])),Bool.false))
  else
   bif (Nat.ble ((List.length a11)+(List.length (x0.1::[]))) (Ev.room (15+1)))then
    some (.inl (x0.2.2.1,x0.2.2.2.1,x0.2.2.2.2.1,x0.2.2.2.2.2.1,x0.2.2.2.2.2.2.1,x0.2.2.2.2.2.2.2.1,x0.2.2.2.2.2.2.2.2.1,x0.2.2.2.2.2.2.2.2.2.1,x0.2.2.2.2.2.2.2.2.2.2.1,x0.2.2.2.2.2.2.2.2.2.2.2.1,x0.2.2.2.2.2.2.2.2.2.2.2.2,(a11++(x0.1::[])),a12))
   else
    none
def zE.v32(κ:Nat)(a0 a1:Int)(a2:List zD)(a3:ByteArray)(a4:Int)(a5 a6:Bool)(a7:ByteArray)(a8 a9:Int)(a10:List Int)(a11:List ByteArray)(a12:ByteArray):Option (Ty2⊕(ByteArray×Bool)):=
 Option.bind (Ev.Seat.jT κ a0 a1 a2 a3 a4 a5 a6 a7 a8 a9 a10) fun x0=>
  bif (!x0.2.1)then
   some (.inr ((ByteArray.mk (List.toArray [])),Bool.false))
  else
   bif (Nat.ble ((List.length a11)+(List.length (x0.1::[]))) (Ev.room (15+1)))then
    some (.inl (x0.2.2.1,x0.2.2.2.1,x0.2.2.2.2.1,x0.2.2.2.2.2.1,x0.2.2.2.2.2.2.1,x0.2.2.2.2.2.2.2.1,x0.2.2.2.2.2.2.2.2.1,x0.2.2.2.2.2.2.2.2.2.1,x0.2.2.2.2.2.2.2.2.2.2.1,x0.2.2.2.2.2.2.2.2.2.2.2.1,x0.2.2.2.2.2.2.2.2.2.2.2.2,(a11++(x0.1::[])),a12))
   else
    none
def zE.v33(κ:Nat)(a0 a1:Int)(a2:List zD)(a3:ByteArray)(a4:Int)(a5 a6:Bool)(a7:ByteArray)(a8 a9:Int)(a10:List Int)(a11:List ByteArray)(a12:ByteArray):Option ((List ByteArray)):=
 some a11
def zE.v34(κ:Nat)(a0 a1:Int)(a2:List zD)(a3:ByteArray)(a4:Int)(a5 a6:Bool)(a7:ByteArray)(a8 a9:Int)(a10:List Int)(a11:List ByteArray)(a12:ByteArray):Option (Ty2⊕(ByteArray×Bool)):=
 Option.bind (Ev.Seat.ku κ a0 a1 a2 a3 a4 a5 a6 a7 a8 a9 a10) fun x0=>
  bif (!x0.2.1)then
   some (.inr ((ByteArray.mk (List.toArray [])),Bool.false))
  else
   bif (Nat.ble ((List.length a11)+(List.length (x0.1::[]))) (Ev.room (15+1)))then
    some (.inl (x0.2.2.1,x0.2.2.2.1,x0.2.2.2.2.1,x0.2.2.2.2.2.1,x0.2.2.2.2.2.2.1,x0.2.2.2.2.2.2.2.1,x0.2.2.2.2.2.2.2.2.1,x0.2.2.2.2.2.2.2.2.2.1,x0.2.2.2.2.2.2.2.2.2.2.1,x0.2.2.2.2.2.2.2.2.2.2.2.1,x0.2.2.2.2.2.2.2.2.2.2.2.2,(a11++(x0.1::[])),a12))
   else
    none
def zE.v35(κ:Nat)(a0 a1:Int)(a2:List zD)(a3:ByteArray)(a4:Int)(a5 a6:Bool)(a7:ByteArray)(a8 a9:Int)(a10:List Int)(a11:List ByteArray)(a12 a13:ByteArray):Option (zYl⊕(ByteArray×Bool)):=
 Option.bind (Ev.Seat.js κ a0 a1 a2 a3 a4 a5 a6 a7 a8 a9 a10) fun x0=>
  bif (!x0.2.1)then
   some (.inr ((ByteArray.mk (List.toArray [])),Bool.false))
  else
   bif (Nat.ble ((List.length a11)+(List.length (x0.1::[]))) (Ev.room (15+1)))then
    some (.inl (x0.2.2.1,x0.2.2.2.1,x0.2.2.2.2.1,x0.2.2.2.2.2.1,x0.2.2.2.2.2.2.1,x0.2.2.2.2.2.2.2.1,x0.2.2.2.2.2.2.2.2.1,x0.2.2.2.2.2.2.2.2.2.1,x0.2.2.2.2.2.2.2.2.2.2.1,x0.2.2.2.2.2.2.2.2.2.2.2.1,x0.2.2.2.2.2.2.2.2.2.2.2.2,(a11++(x0.1::[])),a12,a13))
   else
    none
def zE.v36(κ:Nat)(a0 a1:Int)(a2:List zD)(a3:ByteArray)(a4:Int)(a5 a6:Bool)(a7:ByteArray)(a8 a9:Int)(a10:List Int)(a11:List ByteArray)(a12 a13:ByteArray):Option zYl:=
 bif (Nat.ble ((List.length a11)+(List.length ((ByteArray.mk (List.toArray (List.map (fun x=>(UInt8.ofNat (Int.toNat x))) a10)))::[]))) (Ev.room (15+1)))then
  some (a0,a1,a2,a3,a4,a5,a6,a7,a8,a9,a10,(a11++((ByteArray.mk (List.toArray (List.map (fun x=>(UInt8.ofNat (Int.toNat x))) a10)))::[])),a12,a13)
 else
  none
def zE.v37(κ:Nat)(a0 a1:Int)(a2:List zD)(a3:ByteArray)(a4:Int)(a5 a6:Bool)(a7:ByteArray)(a8 a9:Int)(a10:List Int)(a11:List ByteArray)(a12 a13 a14 a15 a16:ByteArray):Option (zfV⊕(ByteArray×Bool)):=
 Option.bind (Ev.Seat.jv κ a15 a16 a0 a1 a2 a3 a4 a5 a6 a7 a8 a9 a10) fun x0=>
  bif (!x0.2.1)then
   some (.inr ((ByteArray.mk (List.toArray [])),Bool.false))
  else
   bif (Nat.ble ((List.length a11)+(List.length (x0.1::[]))) (Ev.room (15+1)))then
    some (.inl (x0.2.2.1,x0.2.2.2.1,x0.2.2.2.2.1,x0.2.2.2.2.2.1,x0.2.2.2.2.2.2.1,x0.2.2.2.2.2.2.2.1,x0.2.2.2.2.2.2.2.2.1,x0.2.2.2.2.2.2.2.2.2.1,x0.2.2.2.2.2.2.2.2.2.2.1,x0.2.2.2.2.2.2.2.2.2.2.2.1,x0.2.2.2.2.2.2.2.2.2.2.2.2,(a11++(x0.1::[])),a12,a13,a14,a15,a16))
   else
    none
def zE.v38(κ:Nat)(a0 a1:Int)(a2:List zD)(a3:ByteArray)(a4:Int)(a5 a6:Bool)(a7:ByteArray)(a8 a9:Int)(a10:List Int)(a11:List ByteArray)(a12:ByteArray):Option ((List ByteArray)):=
 some a11
def zE.v39(κ:Nat)(a0 a1:Int)(a2:List zD)(a3:ByteArray)(a4:Int)(a5 a6:Bool)(a7:ByteArray)(a8 a9:Int)(a10:List Int)(a11:List ByteArray)(a12:ByteArray):Option ((List ByteArray)):=
 some a11
def zE.v40(κ:Nat)(a0 a1:Int)(a2:List zD)(a3:ByteArray)(a4:Int)(a5 a6:Bool)(a7:ByteArray)(a8 a9:Int)(a10:List Int)(a11:List ByteArray)(a12:ByteArray):Option ((List ByteArray)):=
 some a11
def zE.v41(κ:Nat)(a0 a1:Int)(a2:List zD)(a3:ByteArray)(a4:Int)(a5 a6:Bool)(a7:ByteArray)(a8 a9:Int)(a10:List Int)(a11:List ByteArray)(a12:ByteArray):Option (Ty2⊕(ByteArray×Bool)):=
 Option.bind (Ev.Seat.kA κ a0 a1 a2 a3 a4 a5 a6 a7 a8 a9 a10) fun x0=>
  bif (!x0.2.1)then
   some (.inr ((ByteArray.mk (List.toArray [])),Bool.false))
  else
   bif (Nat.ble ((List.length a11)+(List.length (x0.1::[]))) (Ev.room (15+1)))then
    some (.inl (x0.2.2.1,x0.2.2.2.1,x0.2.2.2.2.1,x0.2.2.2.2.2.1,x0.2.2.2.2.2.2.1,x0.2.2.2.2.2.2.2.1,x0.2.2.2.2.2.2.2.2.1,x0.2.2.2.2.2.2.2.2.2.1,x0.2.2.2.2.2.2.2.2.2.2.1,x0.2.2.2.2.2.2.2.2.2.2.2.1,x0.2.2.2.2.2.2.2.2.2.2.2.2,(a11++(x0.1::[])),a12))
   else
    none
def zE.v42(κ:Nat)(a0 a1:Int)(a2:List zD)(a3:ByteArray)(a4:Int)(a5 a6:Bool)(a7:ByteArray)(a8 a9:Int)(a10:List Int)(a11:List ByteArray)(a12:ByteArray):Option ((List ByteArray)):=
 some a11
def zE.v43(κ:Nat)(a0 a1:Int)(a2:List zD)(a3:ByteArray)(a4:Int)(a5 a6:Bool)(a7:ByteArray)(a8 a9:Int)(a10:List Int)(a11:List ByteArray)(a12 a13:ByteArray):Option ((List ByteArray)):=
 some a11
def zE.v44(κ:Nat)(a0 a1:Int)(a2:List zD)(a3:ByteArray)(a4:Int)(a5 a6:Bool)(a7:ByteArray)(a8 a9:Int)(a10:List Int)(a11:List ByteArray)(a12 a13:ByteArray):Option ((List ByteArray)):=
 some a11
def zE.v45(κ:Nat)(a0 a1:Int)(a2:List zD)(a3:ByteArray)(a4:Int)(a5 a6:Bool)(a7:ByteArray)(a8 a9:Int)(a10:List Int)(a11:List ByteArray)(a12 a13 a14 a15 a16:ByteArray):Option (zfV⊕(ByteArray×Bool)):=
 Option.bind (Ev.Seat.vW κ a0 a1 a2 a3 a4 a5 a6 a7 a8 a9 a10) fun x0=>
  bif (!x0.2.1)then
   some (.inr ((ByteArray.mk (List.toArray [])),Bool.false))
  else
   bif (Nat.ble ((List.length a11)+(List.length (x0.1::[]))) (Ev.room (15+1)))then
    some (.inl (x0.2.2.1,x0.2.2.2.1,x0.2.2.2.2.1,x0.2.2.2.2.2.1,x0.2.2.2.2.2.2.1,x0.2.2.2.2.2.2.2.1,x0.2.2.2.2.2.2.2.2.1,x0.2.2.2.2.2.2.2.2.2.1,x0.2.2.2.2.2.2.2.2.2.2.1,x0.2.2.2.2.2.2.2.2.2.2.2.1,x0.2.2.2.2.2.2.2.2.2.2.2.2,(a11++(x0.1::[])),a12,a13,a14,a15,a16))
   else
    none
def zE.v46(κ:Nat)(a0 a1:Int)(a2:List zD)(a3:ByteArray)(a4:Int)(a5 a6:Bool)(a7:ByteArray)(a8 a9:Int)(a10:List Int)(a11:List ByteArray)(a12:ByteArray):Option ((List ByteArray)):=
 some a11
def zE.v47(κ:Nat)(a0 a1:Int)(a2:List zD)(a3:ByteArray)(a4:Int)(a5 a6:Bool)(a7:ByteArray)(a8 a9:Int)(a10:List Int)(a11:List ByteArray)(a12 a13 a14 a15 a16:ByteArray):Option ((List ByteArray)):=
 some a11
def zE(κ:Nat)(a0 a1:Int)(a2:List zD)(a3:ByteArray)(a4:Int)(a5 a6:Bool)(a7:ByteArray)(a8 a9:Int)(a10:List Int):Option (ByteArray×Bool):=
 Option.bind (Ev.Seat.zZ κ a0) fun x0=>
  match x0 with
  | .inl x1=>
   some ((ByteArray.mk (List.toArray [])),(decide ((0:Int)>(0:Int))))
  | .inr x2=>
   match x2 with
   | .inl x3=>
    Option.bind (Ev.Seat.zE.v12 κ a0 a1 a2 a3 a4 a5 a6 a7 a8 a9 a10 (x3::[]) x3) fun x4=>
     match x4 with
     | .inl x5=>
      Option.bind (Ev.Seat.vK κ x5.2.2.2.2.2.2.2.2.2.2.2.1 (ByteArray.mk (List.toArray ((32:UInt8)::[])))) fun x6=>
       some (x6,(decide ((((List.length x5.2.2.2.2.2.2.2.2.2.2.2.1):Nat):Int)>(0:Int))))
     | .inr x7=>
      some (x7.1,x7.2)
   | .inr x8=>
    match x8 with
    | .inl x9=>
     Option.bind (Ev.Seat.zE.v13 κ a0 a1 a2 a3 a4 a5 a6 a7 a8 a9 a10 (x9::[]) x9) fun x10=>
      match x10 with
      | .inl x11=>
       Option.bind (Ev.Seat.vK κ x11.2.2.2.2.2.2.2.2.2.2.2.1 (ByteArray.mk (List.toArray ((32:UInt8)::[])))) fun x12=>
        some (x12,(decide ((((List.length x11.2.2.2.2.2.2.2.2.2.2.2.1):Nat):Int)>(0:Int))))
      | .inr x13=>
       some (x13.1,x13.2)
    | .inr x14=>
     match x14 with
     | .inl x15=>
      Option.bind (Ev.Seat.zE.v14 κ a0 a1 a2 a3 a4 a5 a6 a7 a8 a9 a10 (x15::[]) x15) fun x16=>
       match x16 with
       | .inl x17=>
        Option.bind (vh (Ev.Seat.zE.v25 κ) x17) fun x18=>
         match x18 with
         | .inl x19=>
          Option.bind (vh (Ev.Seat.zE.v34 κ) x19) fun x20=>
           match x20 with
           | .inl x21=>
            Option.bind (Ev.Seat.vK κ x21.2.2.2.2.2.2.2.2.2.2.2.1 (ByteArray.mk (List.toArray ((32:UInt8)::[])))) fun x22=>
             some (x22,(decide ((((List.length x21.2.2.2.2.2.2.2.2.2.2.2.1):Nat):Int)>(0:Int))))
           | .inr x23=>
            some (x23.1,x23.2)
         | .inr x24=>
          some (x24.1,x24.2)
       | .inr x25=>
        some (x25.1,x25.2)
     | .inr x26=>
      match x26 with
      | .inl x27=>
       Option.bind (Ev.Seat.zE.v4 κ a0 a1 a2 a3 a4 a5 a6 a7 a8 a9 a10 x27.1 x27.2) fun x28=>
        match x28 with
        | .inl x29=>
         Option.bind (zQl (Ev.Seat.zE.v15 κ) x29) fun x30=>
          Option.bind (zQl (Ev.Seat.zE.v26 κ) x30) fun x31=>
           Option.bind (zQl (Ev.Seat.zE.v35 κ) x31) fun x32=>
            match x32 with
            | .inl x33=>
             Option.bind (Ev.Seat.vK κ x33.2.2.2.2.2.2.2.2.2.2.2.1 (ByteArray.mk (List.toArray ((32:UInt8)::[])))) fun x34=>
              some (x34,(decide ((((List.length x33.2.2.2.2.2.2.2.2.2.2.2.1):Nat):Int)>(0:Int))))
            | .inr x35=>
             some (x35.1,x35.2)
        | .inr x36=>
         some (x36.1,x36.2)
      | .inr x37=>
       match x37 with
       | .inl x38=>
        Option.bind (Ev.Seat.zE.v5 κ a0 a1 a2 a3 a4 a5 a6 a7 a8 a9 a10 x38.1 x38.2) fun x39=>
         match x39 with
         | .inl x40=>
          Option.bind (zQl (Ev.Seat.zE.v16 κ) x40) fun x41=>
           Option.bind (zQl (Ev.Seat.zE.v27 κ) x41) fun x42=>
            Option.bind (zQl (Ev.Seat.zE.v36 κ) x42) fun x43=>
             Option.bind (Ev.Seat.vK κ x43.2.2.2.2.2.2.2.2.2.2.2.1 (ByteArray.mk (List.toArray ((32:UInt8)::[])))) fun x44=>
              some (x44,(decide ((((List.length x43.2.2.2.2.2.2.2.2.2.2.2.1):Nat):Int)>(0:Int))))
         | .inr x45=>
          some (x45.1,x45.2)
       | .inr x46=>
        match x46 with
        | .inl x47=>
         Option.bind (Ev.Seat.zE.v6 κ a0 a1 a2 a3 a4 a5 a6 a7 a8 a9 a10 x47.1 x47.2.1 x47.2.2.1 x47.2.2.2.1 x47.2.2.2.2) fun x48=>
          match x48 with
          | .inl x49=>
           Option.bind (zXm (Ev.Seat.zE.v17 κ) x49) fun x50=>
            Option.bind (zXm (Ev.Seat.zE.v28 κ) x50) fun x51=>
             match x51 with
             | .inl x52=>
              Option.bind (zXm (Ev.Seat.zE.v37 κ) x52) fun x53=>
               match x53 with
               | .inl x54=>
                Option.bind (zXm (Ev.Seat.zE.v45 κ) x54) fun x55=>
                 match x55 with
                 | .inl x56=>
                  Option.bind (Ev.Seat.vK κ x56.2.2.2.2.2.2.2.2.2.2.2.1 (ByteArray.mk (List.toArray ((32:UInt8)::[])))) fun x57=>
                   some (x57,(decide ((((List.length x56.2.2.2.2.2.2.2.2.2.2.2.1):Nat):Int)>(0:Int))))
                 | .inr x58=>
                  some (x58.1,x58.2)
               | .inr x59=>
                some (x59.1,x59.2)
             | .inr x60=>
              some (x60.1,x60.2)
          | .inr x61=>
           some (x61.1,x61.2)
        | .inr x62=>
         match x62 with
         | .inl x63=>
          Option.bind (Ev.Seat.zE.v7 κ a0 a1 a2 a3 a4 a5 a6 a7 a8 a9 a10 x63) fun x64=>
           match x64 with
           | .inl x65=>
            Option.bind (vh (Ev.Seat.zE.v18 κ) x65) fun x66=>
             Option.bind (vh (Ev.Seat.zE.v29 κ) x66) fun x67=>
              match x67 with
              | .inl x68=>
               Option.bind (Ev.Seat.vK κ x68.2.2.2.2.2.2.2.2.2.2.2.1 (ByteArray.mk (List.toArray ((32:UInt8)::[])))) fun x69=>
                some (x69,(decide ((((List.length x68.2.2.2.2.2.2.2.2.2.2.2.1):Nat):Int)>(0:Int))))
              | .inr x70=>
               some (x70.1,x70.2)
           | .inr x71=>
            some (x71.1,x71.2)
         | .inr x72=>
          match x72 with
          | .inl x73=>
           Option.bind (Ev.Seat.zE.v8 κ a0 a1 a2 a3 a4 a5 a6 a7 a8 a9 a10 x73) fun x74=>
            match x74 with
            | .inl x75=>
             Option.bind (vh (Ev.Seat.zE.v19 κ) x75) fun x76=>
              Option.bind (vh (Ev.Seat.zE.v30 κ) x76) fun x77=>
               match x77 with
               | .inl x78=>
                Option.bind (Ev.Seat.vK κ x78.2.2.2.2.2.2.2.2.2.2.2.1 (ByteArray.mk (List.toArray ((32:UInt8)::[])))) fun x79=>
                 some (x79,(decide ((((List.length x78.2.2.2.2.2.2.2.2.2.2.2.1):Nat):Int)>(0:Int))))
               | .inr x80=>
                some (x80.1,x80.2)
            | .inr x81=>
             some (x81.1,x81.2)
          | .inr x82=>
           match x82 with
           | .inl x83=>
            Option.bind (Ev.Seat.zE.v9 κ a0 a1 a2 a3 a4 a5 a6 a7 a8 a9 a10 x83) fun x84=>
             match x84 with
             | .inl x85=>
              Option.bind (vh (Ev.Seat.zE.v20 κ) x85) fun x86=>
               Option.bind (vh (Ev.Seat.zE.v31 κ) x86) fun x87=>
                match x87 with
                | .inl x88=>
                 Option.bind (Ev.Seat.vK κ x88.2.2.2.2.2.2.2.2.2.2.2.1 (ByteArray.mk (List.toArray ((32:UInt8)::[])))) fun x89=>
                  some (x89,(decide ((((List.length x88.2.2.2.2.2.2.2.2.2.2.2.1):Nat):Int)>(0:Int))))
                | .inr x90=>
                 some (x90.1,x90.2)
             | .inr x91=>
              some (x91.1,x91.2)
           | .inr x92=>
            match x92 with
            | .inl x93=>
             Option.bind (Ev.Seat.zE.v10 κ a0 a1 a2 a3 a4 a5 a6 a7 a8 a9 a10 x93) fun x94=>
              match x94 with
              | .inl x95=>
               Option.bind (vh (Ev.Seat.zE.v21 κ) x95) fun x96=>
                Option.bind (vh (Ev.Seat.zE.v32 κ) x96) fun x97=>
                 match x97 with
                 | .inl x98=>
                  Option.bind (vh (Ev.Seat.zE.v41 κ) x98) fun x99=>
                   match x99 with
                   | .inl x100=>
                    Option.bind (Ev.Seat.vK κ x100.2.2.2.2.2.2.2.2.2.2.2.1 (ByteArray.mk (List.toArray ((32:UInt8)::[])))) fun x101=>
                     some (x101,(decide ((((List.length x100.2.2.2.2.2.2.2.2.2.2.2.1):Nat):Int)>(0:Int))))
                   | .inr x102=>
                    some (x102.1,x102.2)
                 | .inr x103=>
                  some (x103.1,x103.2)
              | .inr x104=>
               some (x104.1,x104.2)
            | .inr x105=>
             Option.bind (Ev.Seat.zE.v11 κ a0 a1 a2 a3 a4 a5 a6 a7 a8 a9 a10 x105) fun x106=>
              match x106 with
              | .inl x107=>
               Option.bind (vh (Ev.Seat.zE.v22 κ) x107) fun x108=>
                Option.bind (Ev.Seat.vK κ x108.2.2.2.2.2.2.2.2.2.2.2.1 (ByteArray.mk (List.toArray ((32:UInt8)::[])))) fun x109=>
                 some (x109,(decide ((((List.length x108.2.2.2.2.2.2.2.2.2.2.2.1):Nat):Int)>(0:Int))))
              | .inr x110=>
               some (x110.1,x110.2)
def wL(κ:Nat)(a0 a1:ByteArray):Option (ByteArray×ByteArray×Bool):=
 Option.bind (Ev.Seat.zLy κ a0 a1) fun x0=>
  bif (decide (x0≥(0:Int)))then
   bif ((((decide ((0:Int)≤x0))&&(decide (x0≤(((ByteArray.size a0):Nat):Int))))&&(decide ((0:Int)≤(0:Int))))&&(decide ((0:Int)≤x0)))then
    bif (((decide ((((ByteArray.size a0):Nat):Int)≤(((ByteArray.size a0):Nat):Int)))&&(decide ((0:Int)≤(IntKind.wrap IntKind.i64 (x0+(((ByteArray.size a1):Nat):Int))))))&&(decide ((IntKind.wrap IntKind.i64 (x0+(((ByteArray.size a1):Nat):Int)))≤(((ByteArray.size a0):Nat):Int))))then
     some ((ByteArray.extract a0 (Int.toNat (0:Int)) (Int.toNat x0)),(ByteArray.extract a0 (Int.toNat (IntKind.wrap IntKind.i64 (x0+(((ByteArray.size a1):Nat):Int)))) (Int.toNat (((ByteArray.size a0):Nat):Int))),Bool.true)
    else
     none
   else
    none
  else
   some (a0,(ByteArray.mk (List.toArray [])),Bool.false)
def strings_Cut(κ:Nat)(a0 a1:ByteArray):Option (ByteArray×ByteArray×Bool):=
 Option.bind (Ev.Seat.wL κ a0 a1) fun x0=>
  some (x0.1,x0.2.1,x0.2.2)
def zTS(κ:Nat)(a0 a1:ByteArray)(a2 a3:Int)(a4:List zD)(a5:ByteArray)(a6:Int)(a7 a8:Bool)(a9:ByteArray)(a10 a11:Int)(a12:List Int):Option Ty9:=
 some ((Ev.seq a1 a0),a2,a3,a4,a5,a6,a7,a8,a9,a10,a11,a12)
def qg(κ:Nat)(a0:ByteArray)(a1 a2:Int)(a3:List zD)(a4:ByteArray)(a5:Int)(a6 a7:Bool)(a8:ByteArray)(a9 a10:Int)(a11:List Int):Option Ty9:=
 Option.bind (Ev.Seat.jC κ a0) fun x0=>
  some (x0.2,a1,(IntKind.wrap IntKind.i64 (bif Bool.false then(if((10:Int)>x0.1)then(10:Int)else x0.1)else(if((10:Int)<x0.1)then(10:Int)else x0.1))),a3,a4,a5,a6,a7,a8,a9,a10,a11)
def zDp(κ:Nat)(a0:ByteArray)(a1 a2:Int)(a3:List zD)(a4:ByteArray)(a5:Int)(a6 a7:Bool)(a8:ByteArray)(a9 a10:Int)(a11:List Int):Option Ty9:=
 some (Bool.true,a1,a2,a3,a4,a5,a6,a7,a0,a9,a10,a11)
def vY(κ:Nat)(a0:ByteArray)(a1 a2:Int)(a3:List zD)(a4:ByteArray)(a5:Int)(a6 a7:Bool)(a8:ByteArray)(a9 a10:Int)(a11:List Int):Option Ty9:=
 Option.bind (Ev.Seat.jC κ a0) fun x0=>
  some (x0.2,a1,a2,a3,a4,x0.1,a6,a7,a8,a9,a10,a11)
def gP(κ:Nat)(a0:ByteArray)(a1 a2:Int)(a3:List zD)(a4:ByteArray)(a5:Int)(a6 a7:Bool)(a8:ByteArray)(a9 a10:Int)(a11:List Int):Option Ty9:=
 Option.bind (Ev.Seat.jC κ a0) fun x0=>
  some (x0.2,a1,a2,a3,a4,a5,a6,a7,a8,x0.1,a10,a11)
def ko(κ:Nat)(a0 a1 a2:ByteArray)(a3 a4:Int)(a5:List zD)(a6:ByteArray)(a7:Int)(a8 a9:Bool)(a10:ByteArray)(a11 a12:Int)(a13:List Int):Option Ty9:=
 bif (Ev.seq a2 a1)then
  some (Bool.true,a3,a4,a5,a6,a7,(Ev.seq a2 a1),a9,a10,a11,a12,a13)
 else
  some ((Ev.seq a2 a0),a3,a4,a5,a6,a7,(Ev.seq a2 a1),a9,a10,a11,a12,a13)
def gH(κ:Nat)(a0:ByteArray)(a1 a2:Int)(a3:List zD)(a4:ByteArray)(a5:Int)(a6 a7:Bool)(a8:ByteArray)(a9 a10:Int)(a11:List Int):Option Ty9:=
 Option.bind (Ev.Seat.jC κ a0) fun x0=>
  bif x0.2 then
   some ((decide (x0.1>(0:Int))),a1,a2,a3,a4,x0.1,a6,a7,a8,a9,a10,a11)
  else
   some (Bool.false,a1,a2,a3,a4,x0.1,a6,a7,a8,a9,a10,a11)
def jY(κ:Nat)(a0:ByteArray)(a1 a2:Int)(a3:List zD)(a4:ByteArray)(a5:Int)(a6 a7:Bool)(a8:ByteArray)(a9 a10:Int)(a11:List Int):Option (Bool×Int×Int×ByteArray×Int×Bool×Bool×ByteArray×Int×Int×(List Int)×(List zD)):=
 Option.bind (Ev.Seat.yF κ a0) fun x0=>
  some ((x0.1==(0:Int)),a1,a2,a4,a5,a6,a7,a8,a9,a10,a11,x0.2.2)
def kz(κ:Nat)(a0:ByteArray)(a1 a2:Int)(a3:List zD)(a4:ByteArray)(a5:Int)(a6 a7:Bool)(a8:ByteArray)(a9 a10:Int)(a11:List Int):Option Ty9:=
 Option.bind (Ev.Seat.jC κ a0) fun x0=>
  some (x0.2,a1,a2,a3,a4,a5,a6,a7,a8,a9,x0.1,a11)
def yX.v5(κ:Nat)(a0:ByteArray)(a1 a2 a3:Int)(a4:List Int):Option (ByteArray×Int×Int×Int×Bool×(List Int)):=
 bif (decide (a2<(0:Int)))then
  some (a0,a1,a2,a3,Bool.true,a4)
 else
  some (a0,a1,a2,a3,(decide (a3<(0:Int))),a4)
def yX.w4(κ:Nat)(rec:(ByteArray×Int×(List Int))→Option (((List Int))⊕(Bool)))(a0:ByteArray)(a1:Int)(a2:List Int):Option (((List Int))⊕(Bool)):=
 bif (decide (a1<(((ByteArray.size a0):Nat):Int)))then
  bif (decide ((0:Int)≤a1))then
   Option.bind ((Array.toList (ByteArray.data a0))[(Int.toNat a1)]?) fun x0=>
    bif (decide ((0:Int)≤(IntKind.wrap IntKind.i64 (a1+(1:Int)))))then
     Option.bind ((Array.toList (ByteArray.data a0))[(Int.toNat (IntKind.wrap IntKind.i64 (a1+(1:Int))))]?) fun x1=>
      Option.bind (Ev.Seat.yX.v5 κ a0 a1 (Go.Lib.indexByte (Array.toList (ByteArray.data (ByteArray.mk (List.toArray ((48:UInt8)::((49:UInt8)::((50:UInt8)::((51:UInt8)::((52:UInt8)::((53:UInt8)::((54:UInt8)::((55:UInt8)::((56:UInt8)::((57:UInt8)::((97:UInt8)::((98:UInt8)::((99:UInt8)::((100:UInt8)::((101:UInt8)::((102:UInt8)::[])))))))))))))))))))) (Nat.toUInt8 (Int.toNat (((UInt8.toNat x0):Nat):Int)))) (Go.Lib.indexByte (Array.toList (ByteArray.data (ByteArray.mk (List.toArray ((48:UInt8)::((49:UInt8)::((50:UInt8)::((51:UInt8)::((52:UInt8)::((53:UInt8)::((54:UInt8)::((55:UInt8)::((56:UInt8)::((57:UInt8)::((97:UInt8)::((98:UInt8)::((99:UInt8)::((100:UInt8)::((101:UInt8)::((102:UInt8)::[])))))))))))))))))))) (Nat.toUInt8 (Int.toNat (((UInt8.toNat x1):Nat):Int)))) a2) fun x2=>
       bif x2.2.2.2.2.1 then
        some (.inr Bool.false)
       else
        bif (Nat.ble ((List.length x2.2.2.2.2.2)+(List.length ((IntKind.wrap IntKind.u8 (IntKind.wrap IntKind.i64 (((BitVec.toNat (HOr.hOr (BitVec.ofInt (IntKind.bits IntKind.i64) (IntKind.wrap IntKind.i64 (x2.2.2.1*((2:Int)^(Min.min (Int.toNat (4:Int)) (IntKind.bits IntKind.i64)))))) (BitVec.ofInt (IntKind.bits IntKind.i64) x2.2.2.2.1))):Nat):Int)))::[]))) (Ev.room (0+1)))then
         rec (x2.1,(IntKind.wrap IntKind.i64 (x2.2.1+(2:Int))),(x2.2.2.2.2.2++((IntKind.wrap IntKind.u8 (IntKind.wrap IntKind.i64 (((BitVec.toNat (HOr.hOr (BitVec.ofInt (IntKind.bits IntKind.i64) (IntKind.wrap IntKind.i64 (x2.2.2.1*((2:Int)^(Min.min (Int.toNat (4:Int)) (IntKind.bits IntKind.i64)))))) (BitVec.ofInt (IntKind.bits IntKind.i64) x2.2.2.2.1))):Nat):Int)))::[])))
        else
         none
    else
     none
  else
   none
 else
  some (.inl a2)
def yX.l4(κ:Nat):Nat→(ByteArray×Int×(List Int))→Option (((List Int))⊕(Bool))
 |0,_ =>none
 |k+1,(a0,a1,a2)=>yX.w4 κ (yX.l4 κ k) a0 a1 a2
def yX(κ:Nat)(a0:ByteArray):Option (Bool×(List Int)):=
 bif (decide ((Int.tmod (((ByteArray.size a0):Nat):Int) (2:Int))>(0:Int)))then
  some (Bool.false,[])
 else
  Option.bind (Ev.Seat.yX.l4 κ κ (a0,(0:Int),[])) fun x0=>
   match x0 with
   | .inl x1=>
    some (Bool.true,x1)
   | .inr x2=>
    some (x2,[])
def jt(κ:Nat)(a0:ByteArray)(a1 a2:Int)(a3:List zD)(a4:ByteArray)(a5:Int)(a6 a7:Bool)(a8:ByteArray)(a9 a10:Int)(a11:List Int):Option Ty9:=
 Option.bind (Ev.Seat.yX κ a0) fun x0=>
  some (x0.1,a1,a2,a3,a4,a5,a6,a7,a8,a9,a10,x0.2)
def j3(κ:Nat)(a0:ByteArray)(a1 a2:Int)(a3:List zD)(a4:ByteArray)(a5:Int)(a6 a7:Bool)(a8:ByteArray)(a9 a10:Int)(a11:List Int):Option Ty9:=
 bif (Nat.ble (ByteArray.size a0) Ev.qL)then
  some (Bool.true,a1,a2,a3,a4,a5,a6,a7,a8,a9,a10,(List.map (fun b=>(((UInt8.toNat b):Nat):Int)) (Array.toList (ByteArray.data a0))))
 else
  none
def kF(κ:Nat)(a0 a1 a2:ByteArray)(a3 a4:Int)(a5:List zD)(a6:ByteArray)(a7:Int)(a8 a9:Bool)(a10:ByteArray)(a11 a12:Int)(a13:List Int):Option Ty9:=
 bif (Ev.seq a2 a1)then
  some (Bool.true,a3,a4,a5,a6,a7,a8,(Ev.seq a2 a1),a10,a11,a12,a13)
 else
  some ((Ev.seq a2 a0),a3,a4,a5,a6,a7,a8,(Ev.seq a2 a1),a10,a11,a12,a13)
def zCD(κ:Nat)(a0:ByteArray)(a1 a2:Int)(a3:List zD)(a4:ByteArray)(a5:Int)(a6 a7:Bool)(a8:ByteArray)(a9 a10:Int)(a11:List Int):Option Ty9:=
 some (Bool.true,a1,a2,a3,a0,a5,a6,a7,a8,a9,a10,a11)
def zA.v0(κ:Nat)(a0:Int)(a1:ByteArray)(a2 a3:Int)(a4:List zD)(a5:ByteArray)(a6:Int)(a7 a8:Bool)(a9:ByteArray)(a10 a11:Int)(a12:List Int)(a13 a14:Int)(a15:List zD)(a16:ByteArray)(a17:Int)(a18 a19:Bool)(a20:ByteArray)(a21 a22:Int)(a23:List Int):Option Ty1:=
 some (a2,a3,a4,a5,a6,a7,a8,a9,a10,a11,a12,a13,a14,a15,a16,a17,a18,a19,a20,a21,a22,a23)
def zA.v1(κ:Nat)(a0:Int)(a1:ByteArray)(a2 a3:Int)(a4:List zD)(a5:ByteArray)(a6:Int)(a7 a8:Bool)(a9:ByteArray)(a10 a11:Int)(a12:List Int)(a13 a14:Int)(a15:List zD)(a16:ByteArray)(a17:Int)(a18 a19:Bool)(a20:ByteArray)(a21 a22:Int)(a23:List Int)(a24:ByteArray):Option (Ty0⊕(Ty3⊕Ty1)):=
 Option.bind (Ev.Seat.strings_Cut κ a1 (ByteArray.mk (List.toArray ((32:UInt8)::[])))) fun x0=>
  bif (!(Ev.seq x0.1 a24))then
   some (.inr (.inl (Bool.false,(0:Int),(0:Int),(ByteArray.mk (List.toArray [])),(0:Int),Bool.false,Bool.false,(ByteArray.mk (List.toArray [])),(0:Int),(0:Int))))
  else
   bif (!x0.2.2)then
    bif (a0==(9:Int))then
     some (.inr (.inr (a2,a3,a4,a5,a6,a7,a8,a9,a10,a11,a12,a13,a14,a15,a16,a17,a18,a19,a20,a21,a22,a23)))
    else
     bif (!x0.2.2)then
      some (.inr (.inl (Bool.false,(0:Int),(0:Int),(ByteArray.mk (List.toArray [])),(0:Int),Bool.false,Bool.false,(ByteArray.mk (List.toArray [])),(0:Int),(0:Int))))
     else
      some (.inl (a0,x0.2.1,a2,a3,a4,a5,a6,a7,a8,a9,a10,a11,a12,a13,a14,a15,a16,a17,a18,a19,a20,a21,a22,a23,a24))
   else
    bif (!x0.2.2)then
     some (.inr (.inl (Bool.false,(0:Int),(0:Int),(ByteArray.mk (List.toArray [])),(0:Int),Bool.false,Bool.false,(ByteArray.mk (List.toArray [])),(0:Int),(0:Int))))
    else
     some (.inl (a0,x0.2.1,a2,a3,a4,a5,a6,a7,a8,a9,a10,a11,a12,a13,a14,a15,a16,a17,a18,a19,a20,a21,a22,a23,a24))
def zA.v2(κ:Nat)(a0:Int)(a1:ByteArray)(a2 a3:Int)(a4:List zD)(a5:ByteArray)(a6:Int)(a7 a8:Bool)(a9:ByteArray)(a10 a11:Int)(a12:List Int)(a13 a14:Int)(a15:List zD)(a16:ByteArray)(a17:Int)(a18 a19:Bool)(a20:ByteArray)(a21 a22:Int)(a23:List Int)(a24:ByteArray):Option (Ty0⊕(Ty3⊕Ty1)):=
 Option.bind (Ev.Seat.strings_Cut κ a1 (ByteArray.mk (List.toArray ((32:UInt8)::[])))) fun x0=>
  bif (!(Ev.seq x0.1 a24))then
   some (.inr (.inl (Bool.false,(0:Int),(0:Int),(ByteArray.mk (List.toArray [])),(0:Int),Bool.false,Bool.false,(ByteArray.mk (List.toArray [])),(0:Int),(0:Int))))
  else
   bif (!x0.2.2)then
    bif (a0==(9:Int))then
     some (.inr (.inr (a2,a3,a4,a5,a6,a7,a8,a9,a10,a11,a12,a13,a14,a15,a16,a17,a18,a19,a20,a21,a22,a23)))
    else
     bif (!x0.2.2)then
      some (.inr (.inl (Bool.false,(0:Int),(0:Int),(ByteArray.mk (List.toArray [])),(0:Int),Bool.false,Bool.false,(ByteArray.mk (List.toArray [])),(0:Int),(0:Int))))
     else
      some (.inl (a0,x0.2.1,a2,a3,a4,a5,a6,a7,a8,a9,a10,a11,a12,a13,a14,a15,a16,a17,a18,a19,a20,a21,a22,a23,a24))
   else
    bif (!x0.2.2)then
     some (.inr (.inl (Bool.false,(0:Int),(0:Int),(ByteArray.mk (List.toArray [])),(0:Int),Bool.false,Bool.false,(ByteArray.mk (List.toArray [])),(0:Int),(0:Int))))
    else
     some (.inl (a0,x0.2.1,a2,a3,a4,a5,a6,a7,a8,a9,a10,a11,a12,a13,a14,a15,a16,a17,a18,a19,a20,a21,a22,a23,a24))
def zA.v3(κ:Nat)(a0:Int)(a1:ByteArray)(a2 a3:Int)(a4:List zD)(a5:ByteArray)(a6:Int)(a7 a8:Bool)(a9:ByteArray)(a10 a11:Int)(a12:List Int)(a13 a14:Int)(a15:List zD)(a16:ByteArray)(a17:Int)(a18 a19:Bool)(a20:ByteArray)(a21 a22:Int)(a23:List Int)(a24:ByteArray):Option (Ty0⊕Ty3):=
 Option.bind (Ev.Seat.strings_Cut κ a1 (ByteArray.mk (List.toArray ((32:UInt8)::[])))) fun x0=>
  bif (!(Ev.seq x0.1 a24))then
   some (.inr (Bool.false,(0:Int),(0:Int),(ByteArray.mk (List.toArray [])),(0:Int),Bool.false,Bool.false,(ByteArray.mk (List.toArray [])),(0:Int),(0:Int)))
  else
   bif (!x0.2.2)then
    bif (!x0.2.2)then
     some (.inr (Bool.false,(0:Int),(0:Int),(ByteArray.mk (List.toArray [])),(0:Int),Bool.false,Bool.false,(ByteArray.mk (List.toArray [])),(0:Int),(0:Int)))
    else
     some (.inl (a0,x0.2.1,a2,a3,a4,a5,a6,a7,a8,a9,a10,a11,a12,a13,a14,a15,a16,a17,a18,a19,a20,a21,a22,a23,a24))
   else
    bif (!x0.2.2)then
     some (.inr (Bool.false,(0:Int),(0:Int),(ByteArray.mk (List.toArray [])),(0:Int),Bool.false,Bool.false,(ByteArray.mk (List.toArray [])),(0:Int),(0:Int)))
    else
     some (.inl (a0,x0.2.1,a2,a3,a4,a5,a6,a7,a8,a9,a10,a11,a12,a13,a14,a15,a16,a17,a18,a19,a20,a21,a22,a23,a24))
def zA.v4(κ:Nat)(a0:Int)(a1:ByteArray)(a2 a3:Int)(a4:List zD)(a5:ByteArray)(a6:Int)(a7 a8:Bool)(a9:ByteArray)(a10 a11:Int)(a12:List Int)(a13 a14:Int)(a15:List zD)(a16:ByteArray)(a17:Int)(a18 a19:Bool)(a20:ByteArray)(a21 a22:Int)(a23:List Int)(a24 a25:ByteArray):Option (Ty4⊕Ty3):=
 Option.bind (Ev.Seat.strings_Cut κ a1 (ByteArray.mk (List.toArray ((32:UInt8)::[])))) fun x0=>
  Option.bind (Ev.Seat.qg κ x0.1 a13 a14 a15 a16 a17 a18 a19 a20 a21 a22 a23) fun x1=>
   bif (!x1.1)then
    some (.inr (Bool.false,(0:Int),(0:Int),(ByteArray.mk (List.toArray [])),(0:Int),Bool.false,Bool.false,(ByteArray.mk (List.toArray [])),(0:Int),(0:Int)))
   else
    bif (!x0.2.2)then
     bif (!x0.2.2)then
      some (.inr (Bool.false,(0:Int),(0:Int),(ByteArray.mk (List.toArray [])),(0:Int),Bool.false,Bool.false,(ByteArray.mk (List.toArray [])),(0:Int),(0:Int)))
     else
      some (.inl (a0,x0.2.1,a2,a3,a4,a5,a6,a7,a8,a9,a10,a11,a12,x1.2.1,x1.2.2.1,x1.2.2.2.1,x1.2.2.2.2.1,x1.2.2.2.2.2.1,x1.2.2.2.2.2.2.1,x1.2.2.2.2.2.2.2.1,x1.2.2.2.2.2.2.2.2.1,x1.2.2.2.2.2.2.2.2.2.1,x1.2.2.2.2.2.2.2.2.2.2.1,x1.2.2.2.2.2.2.2.2.2.2.2,a24,a25))
    else
     bif (!x0.2.2)then
      some (.inr (Bool.false,(0:Int),(0:Int),(ByteArray.mk (List.toArray [])),(0:Int),Bool.false,Bool.false,(ByteArray.mk (List.toArray [])),(0:Int),(0:Int)))
     else
      some (.inl (a0,x0.2.1,a2,a3,a4,a5,a6,a7,a8,a9,a10,a11,a12,x1.2.1,x1.2.2.1,x1.2.2.2.1,x1.2.2.2.2.1,x1.2.2.2.2.2.1,x1.2.2.2.2.2.2.1,x1.2.2.2.2.2.2.2.1,x1.2.2.2.2.2.2.2.2.1,x1.2.2.2.2.2.2.2.2.2.1,x1.2.2.2.2.2.2.2.2.2.2.1,x1.2.2.2.2.2.2.2.2.2.2.2,a24,a25))
def zA.v5(κ:Nat)(a0:Int)(a1:ByteArray)(a2 a3:Int)(a4:List zD)(a5:ByteArray)(a6:Int)(a7 a8:Bool)(a9:ByteArray)(a10 a11:Int)(a12:List Int)(a13 a14:Int)(a15:List zD)(a16:ByteArray)(a17:Int)(a18 a19:Bool)(a20:ByteArray)(a21 a22:Int)(a23:List Int)(a24 a25:ByteArray):Option (Ty4⊕Ty3):=
 Option.bind (Ev.Seat.strings_Cut κ a1 (ByteArray.mk (List.toArray ((32:UInt8)::[])))) fun x0=>
  Option.bind (Ev.Seat.qg κ x0.1 a13 a14 a15 a16 a17 a18 a19 a20 a21 a22 a23) fun x1=>
   bif (!x1.1)then
    some (.inr (Bool.false,(0:Int),(0:Int),(ByteArray.mk (List.toArray [])),(0:Int),Bool.false,Bool.false,(ByteArray.mk (List.toArray [])),(0:Int),(0:Int)))
   else
    bif (!x0.2.2)then
     bif (!x0.2.2)then
      some (.inr (Bool.false,(0:Int),(0:Int),(ByteArray.mk (List.toArray [])),(0:Int),Bool.false,Bool.false,(ByteArray.mk (List.toArray [])),(0:Int),(0:Int)))
     else
      some (.inl (a0,x0.2.1,a2,a3,a4,a5,a6,a7,a8,a9,a10,a11,a12,x1.2.1,x1.2.2.1,x1.2.2.2.1,x1.2.2.2.2.1,x1.2.2.2.2.2.1,x1.2.2.2.2.2.2.1,x1.2.2.2.2.2.2.2.1,x1.2.2.2.2.2.2.2.2.1,x1.2.2.2.2.2.2.2.2.2.1,x1.2.2.2.2.2.2.2.2.2.2.1,x1.2.2.2.2.2.2.2.2.2.2.2,a24,a25))
    else
     bif (!x0.2.2)then
      some (.inr (Bool.false,(0:Int),(0:Int),(ByteArray.mk (List.toArray [])),(0:Int),Bool.false,Bool.false,(ByteArray.mk (List.toArray [])),(0:Int),(0:Int)))
     else
      some (.inl (a0,x0.2.1,a2,a3,a4,a5,a6,a7,a8,a9,a10,a11,a12,x1.2.1,x1.2.2.1,x1.2.2.2.1,x1.2.2.2.2.1,x1.2.2.2.2.2.1,x1.2.2.2.2.2.2.1,x1.2.2.2.2.2.2.2.1,x1.2.2.2.2.2.2.2.2.1,x1.2.2.2.2.2.2.2.2.2.1,x1.2.2.2.2.2.2.2.2.2.2.1,x1.2.2.2.2.2.2.2.2.2.2.2,a24,a25))
def zA.v6(κ:Nat)(a0:Int)(a1:ByteArray)(a2 a3:Int)(a4:List zD)(a5:ByteArray)(a6:Int)(a7 a8:Bool)(a9:ByteArray)(a10 a11:Int)(a12:List Int)(a13 a14:Int)(a15:List zD)(a16:ByteArray)(a17:Int)(a18 a19:Bool)(a20:ByteArray)(a21 a22:Int)(a23:List Int)(a24 a25 a26 a27 a28:ByteArray):Option (Ty8⊕Ty3):=
 Option.bind (Ev.Seat.strings_Cut κ a1 (ByteArray.mk (List.toArray ((32:UInt8)::[])))) fun x0=>
  Option.bind (Ev.Seat.qg κ x0.1 a13 a14 a15 a16 a17 a18 a19 a20 a21 a22 a23) fun x1=>
   bif (!x1.1)then
    some (.inr (Bool.false,(0:Int),(0:Int),(ByteArray.mk (List.toArray [])),(0:Int),Bool.false,Bool.false,(ByteArray.mk (List.toArray [])),(0:Int),(0:Int)))
   else
    bif (!x0.2.2)then
     bif (!x0.2.2)then
      some (.inr (Bool.false,(0:Int),(0:Int),(ByteArray.mk (List.toArray [])),(0:Int),Bool.false,Bool.false,(ByteArray.mk (List.toArray [])),(0:Int),(0:Int)))
     else
      some (.inl (a0,x0.2.1,a2,a3,a4,a5,a6,a7,a8,a9,a10,a11,a12,x1.2.1,x1.2.2.1,x1.2.2.2.1,x1.2.2.2.2.1,x1.2.2.2.2.2.1,x1.2.2.2.2.2.2.1,x1.2.2.2.2.2.2.2.1,x1.2.2.2.2.2.2.2.2.1,x1.2.2.2.2.2.2.2.2.2.1,x1.2.2.2.2.2.2.2.2.2.2.1,x1.2.2.2.2.2.2.2.2.2.2.2,a24,a25,a26,a27,a28))
    else
     bif (!x0.2.2)then
      some (.inr (Bool.false,(0:Int),(0:Int),(ByteArray.mk (List.toArray [])),(0:Int),Bool.false,Bool.false,(ByteArray.mk (List.toArray [])),(0:Int),(0:Int)))
     else
      some (.inl (a0,x0.2.1,a2,a3,a4,a5,a6,a7,a8,a9,a10,a11,a12,x1.2.1,x1.2.2.1,x1.2.2.2.1,x1.2.2.2.2.1,x1.2.2.2.2.2.1,x1.2.2.2.2.2.2.1,x1.2.2.2.2.2.2.2.1,x1.2.2.2.2.2.2.2.2.1,x1.2.2.2.2.2.2.2.2.2.1,x1.2.2.2.2.2.2.2.2.2.2.1,x1.2.2.2.2.2.2.2.2.2.2.2,a24,a25,a26,a27,a28))
def zA.v7(κ:Nat)(a0:Int)(a1:ByteArray)(a2 a3:Int)(a4:List zD)(a5:ByteArray)(a6:Int)(a7 a8:Bool)(a9:ByteArray)(a10 a11:Int)(a12:List Int)(a13 a14:Int)(a15:List zD)(a16:ByteArray)(a17:Int)(a18 a19:Bool)(a20:ByteArray)(a21 a22:Int)(a23:List Int)(a24:ByteArray):Option (Ty0⊕Ty3):=
 Option.bind (Ev.Seat.strings_Cut κ a1 (ByteArray.mk (List.toArray ((32:UInt8)::[])))) fun x0=>
  Option.bind (Ev.Seat.qg κ x0.1 a13 a14 a15 a16 a17 a18 a19 a20 a21 a22 a23) fun x1=>
   bif (!x1.1)then
    some (.inr (Bool.false,(0:Int),(0:Int),(ByteArray.mk (List.toArray [])),(0:Int),Bool.false,Bool.false,(ByteArray.mk (List.toArray [])),(0:Int),(0:Int)))
   else
    bif (!x0.2.2)then
     bif (!x0.2.2)then
      some (.inr (Bool.false,(0:Int),(0:Int),(ByteArray.mk (List.toArray [])),(0:Int),Bool.false,Bool.false,(ByteArray.mk (List.toArray [])),(0:Int),(0:Int)))
     else
      some (.inl (a0,x0.2.1,a2,a3,a4,a5,a6,a7,a8,a9,a10,a11,a12,x1.2.1,x1.2.2.1,x1.2.2.2.1,x1.2.2.2.2.1,x1.2.2.2.2.2.1,x1.2.2.2.2.2.2.1,x1.2.2.2.2.2.2.2.1,x1.2.2.2.2.2.2.2.2.1,x1.2.2.2.2.2.2.2.2.2.1,x1.2.2.2.2.2.2.2.2.2.2.1,x1.2.2.2.2.2.2.2.2.2.2.2,a24))
    else
     bif (!x0.2.2)then
      some (.inr (Bool.false,(0:Int),(0:Int),(ByteArray.mk (List.toArray [])),(0:Int),Bool.false,Bool.false,(ByteArray.mk (List.toArray [])),(0:Int),(0:Int)))
     else
      some (.inl (a0,x0.2.1,a2,a3,a4,a5,a6,a7,a8,a9,a10,a11,a12,x1.2.1,x1.2.2.1,x1.2.2.2.1,x1.2.2.2.2.1,x1.2.2.2.2.2.1,x1.2.2.2.2.2.2.1,x1.2.2.2.2.2.2.2.1,x1.2.2.2.2.2.2.2.2.1,x1.2.2.2.2.2.2.2.2.2.1,x1.2.2.2.2.2.2.2.2.2.2.1,x1.2.2.2.2.2.2.2.2.2.2.2,a24))
def zA.v8(κ:Nat)(a0:Int)(a1:ByteArray)(a2 a3:Int)(a4:List zD)(a5:ByteArray)(a6:Int)(a7 a8:Bool)(a9:ByteArray)(a10 a11:Int)(a12:List Int)(a13 a14:Int)(a15:List zD)(a16:ByteArray)(a17:Int)(a18 a19:Bool)(a20:ByteArray)(a21 a22:Int)(a23:List Int)(a24:ByteArray):Option (Ty0⊕Ty3):=
 Option.bind (Ev.Seat.strings_Cut κ a1 (ByteArray.mk (List.toArray ((32:UInt8)::[])))) fun x0=>
  Option.bind (Ev.Seat.qg κ x0.1 a13 a14 a15 a16 a17 a18 a19 a20 a21 a22 a23) fun x1=>
   bif (!x1.1)then
    some (.inr (Bool.false,(0:Int),(0:Int),(ByteArray.mk (List.toArray [])),(0:Int),Bool.false,Bool.false,(ByteArray.mk (List.toArray [])),(0:Int),(0:Int)))
   else
    bif (!x0.2.2)then
     bif (!x0.2.2)then
      some (.inr (Bool.false,(0:Int),(0:Int),(ByteArray.mk (List.toArray [])),(0:Int),Bool.false,Bool.false,(ByteArray.mk (List.toArray [])),(0:Int),(0:Int)))
     else
      some (.inl (a0,x0.2.1,a2,a3,a4,a5,a6,a7,a8,a9,a10,a11,a12,x1.2.1,x1.2.2.1,x1.2.2.2.1,x1.2.2.2.2.1,x1.2.2.2.2.2.1,x1.2.2.2.2.2.2.1,x1.2.2.2.2.2.2.2.1,x1.2.2.2.2.2.2.2.2.1,x1.2.2.2.2.2.2.2.2.2.1,x1.2.2.2.2.2.2.2.2.2.2.1,x1.2.2.2.2.2.2.2.2.2.2.2,a24))
    else
     bif (!x0.2.2)then
      some (.inr (Bool.false,(0:Int),(0:Int),(ByteArray.mk (List.toArray [])),(0:Int),Bool.false,Bool.false,(ByteArray.mk (List.toArray [])),(0:Int),(0:Int)))
     else
      some (.inl (a0,x0.2.1,a2,a3,a4,a5,a6,a7,a8,a9,a10,a11,a12,x1.2.1,x1.2.2.1,x1.2.2.2.1,x1.2.2.2.2.1,x1.2.2.2.2.2.1,x1.2.2.2.2.2.2.1,x1.2.2.2.2.2.2.2.1,x1.2.2.2.2.2.2.2.2.1,x1.2.2.2.2.2.2.2.2.2.1,x1.2.2.2.2.2.2.2.2.2.2.1,x1.2.2.2.2.2.2.2.2.2.2.2,a24))
def zA.v9(κ:Nat)(a0:Int)(a1:ByteArray)(a2 a3:Int)(a4:List zD)(a5:ByteArray)(a6:Int)(a7 a8:Bool)(a9:ByteArray)(a10 a11:Int)(a12:List Int)(a13 a14:Int)(a15:List zD)(a16:ByteArray)(a17:Int)(a18 a19:Bool)(a20:ByteArray)(a21 a22:Int)(a23:List Int)(a24:ByteArray):Option (Ty0⊕Ty3):=
 Option.bind (Ev.Seat.strings_Cut κ a1 (ByteArray.mk (List.toArray ((32:UInt8)::[])))) fun x0=>
  Option.bind (Ev.Seat.qg κ x0.1 a13 a14 a15 a16 a17 a18 a19 a20 a21 a22 a23) fun x1=>
   bif (!x1.1)then
    some (.inr (Bool.false,(0:Int),(0:Int),(ByteArray.mk (List.toArray [])),(0:Int),Bool.false,Bool.false,(ByteArray.mk (List.toArray [])),(0:Int),(0:Int)))
   else
    bif (!x0.2.2)then
     bif (!x0.2.2)then
      some (.inr (Bool.false,(0:Int),(0:Int),(ByteArray.mk (List.toArray [])),(0:Int),Bool.false,Bool.false,(ByteArray.mk (List.toArray [])),(0:Int),(0:Int)))
     else
      some (.inl (a0,x0.2.1,a2,a3,a4,a5,a6,a7,a8,a9,a10,a11,a12,x1.2.1,x1.2.2.1,x1.2.2.2.1,x1.2.2.2.2.1,x1.2.2.2.2.2.1,x1.2.2.2.2.2.2.1,x1.2.2.2.2.2.2.2.1,x1.2.2.2.2.2.2.2.2.1,x1.2.2.2.2.2.2.2.2.2.1,x1.2.2.2.2.2.2.2.2.2.2.1,x1.2.2.2.2.2.2.2.2.2.2.2,a24))
    else
     bif (!x0.2.2)then
      some (.inr (Bool.false,(0:Int),(0:Int),(ByteArray.mk (List.toArray [])),(0:Int),Bool.false,Bool.false,(ByteArray.mk (List.toArray [])),(0:Int),(0:Int)))
     else
      some (.inl (a0,x0.2.1,a2,a3,a4,a5,a6,a7,a8,a9,a10,a11,a12,x1.2.1,x1.2.2.1,x1.2.2.2.1,x1.2.2.2.2.1,x1.2.2.2.2.2.1,x1.2.2.2.2.2.2.1,x1.2.2.2.2.2.2.2.1,x1.2.2.2.2.2.2.2.2.1,x1.2.2.2.2.2.2.2.2.2.1,x1.2.2.2.2.2.2.2.2.2.2.1,x1.2.2.2.2.2.2.2.2.2.2.2,a24))
def zA.v10(κ:Nat)(a0:Int)(a1:ByteArray)(a2 a3:Int)(a4:List zD)(a5:ByteArray)(a6:Int)(a7 a8:Bool)(a9:ByteArray)(a10 a11:Int)(a12:List Int)(a13 a14:Int)(a15:List zD)(a16:ByteArray)(a17:Int)(a18 a19:Bool)(a20:ByteArray)(a21 a22:Int)(a23:List Int)(a24:ByteArray):Option (Ty0⊕Ty3):=
 Option.bind (Ev.Seat.strings_Cut κ a1 (ByteArray.mk (List.toArray ((32:UInt8)::[])))) fun x0=>
  Option.bind (Ev.Seat.qg κ x0.1 a13 a14 a15 a16 a17 a18 a19 a20 a21 a22 a23) fun x1=>
   bif (!x1.1)then
    some (.inr (Bool.false,(0:Int),(0:Int),(ByteArray.mk (List.toArray [])),(0:Int),Bool.false,Bool.false,(ByteArray.mk (List.toArray [])),(0:Int),(0:Int)))
   else
    bif (!x0.2.2)then
     bif (!x0.2.2)then
      some (.inr (Bool.false,(0:Int),(0:Int),(ByteArray.mk (List.toArray [])),(0:Int),Bool.false,Bool.false,(ByteArray.mk (List.toArray [])),(0:Int),(0:Int)))
     else
      some (.inl (a0,x0.2.1,a2,a3,a4,a5,a6,a7,a8,a9,a10,a11,a12,x1.2.1,x1.2.2.1,x1.2.2.2.1,x1.2.2.2.2.1,x1.2.2.2.2.2.1,x1.2.2.2.2.2.2.1,x1.2.2.2.2.2.2.2.1,x1.2.2.2.2.2.2.2.2.1,x1.2.2.2.2.2.2.2.2.2.1,x1.2.2.2.2.2.2.2.2.2.2.1,x1.2.2.2.2.2.2.2.2.2.2.2,a24))
    else
     bif (!x0.2.2)then
      some (.inr (Bool.false,(0:Int),(0:Int),(ByteArray.mk (List.toArray [])),(0:Int),Bool.false,Bool.false,(ByteArray.mk (List.toArray [])),(0:Int),(0:Int)))
     else
      some (.inl (a0,x0.2.1,a2,a3,a4,a5,a6,a7,a8,a9,a10,a11,a12,x1.2.1,x1.2.2.1,x1.2.2.2.1,x1.2.2.2.2.1,x1.2.2.2.2.2.1,x1.2.2.2.2.2.2.1,x1.2.2.2.2.2.2.2.1,x1.2.2.2.2.2.2.2.2.1,x1.2.2.2.2.2.2.2.2.2.1,x1.2.2.2.2.2.2.2.2.2.2.1,x1.2.2.2.2.2.2.2.2.2.2.2,a24))
def zA.v11(κ:Nat)(a0:Int)(a1:ByteArray)(a2 a3:Int)(a4:List zD)(a5:ByteArray)(a6:Int)(a7 a8:Bool)(a9:ByteArray)(a10 a11:Int)(a12:List Int)(a13 a14:Int)(a15:List zD)(a16:ByteArray)(a17:Int)(a18 a19:Bool)(a20:ByteArray)(a21 a22:Int)(a23:List Int)(a24:ByteArray):Option (Ty0⊕Ty3):=
 Option.bind (Ev.Seat.strings_Cut κ a1 (ByteArray.mk (List.toArray ((32:UInt8)::[])))) fun x0=>
  Option.bind (Ev.Seat.qg κ x0.1 a13 a14 a15 a16 a17 a18 a19 a20 a21 a22 a23) fun x1=>
   bif (!x1.1)then
    some (.inr (Bool.false,(0:Int),(0:Int),(ByteArray.mk (List.toArray [])),(0:Int),Bool.false,Bool.false,(ByteArray.mk (List.toArray [])),(0:Int),(0:Int)))
   else
    bif (!x0.2.2)then
     bif (!x0.2.2)then
      some (.inr (Bool.false,(0:Int),(0:Int),(ByteArray.mk (List.toArray [])),(0:Int),Bool.false,Bool.false,(ByteArray.mk (List.toArray [])),(0:Int),(0:Int)))
     else
      some (.inl (a0,x0.2.1,a2,a3,a4,a5,a6,a7,a8,a9,a10,a11,a12,x1.2.1,x1.2.2.1,x1.2.2.2.1,x1.2.2.2.2.1,x1.2.2.2.2.2.1,x1.2.2.2.2.2.2.1,x1.2.2.2.2.2.2.2.1,x1.2.2.2.2.2.2.2.2.1,x1.2.2.2.2.2.2.2.2.2.1,x1.2.2.2.2.2.2.2.2.2.2.1,x1.2.2.2.2.2.2.2.2.2.2.2,a24))
    else
     bif (!x0.2.2)then
      some (.inr (Bool.false,(0:Int),(0:Int),(ByteArray.mk (List.toArray [])),(0:Int),Bool.false,Bool.false,(ByteArray.mk (List.toArray [])),(0:Int),(0:Int)))
     else
      some (.inl (a0,x0.2.1,a2,a3,a4,a5,a6,a7,a8,a9,a10,a11,a12,x1.2.1,x1.2.2.1,x1.2.2.2.1,x1.2.2.2.2.1,x1.2.2.2.2.2.1,x1.2.2.2.2.2.2.1,x1.2.2.2.2.2.2.2.1,x1.2.2.2.2.2.2.2.2.1,x1.2.2.2.2.2.2.2.2.2.1,x1.2.2.2.2.2.2.2.2.2.2.1,x1.2.2.2.2.2.2.2.2.2.2.2,a24))
def zA.v12(κ:Nat)(a0:Int)(a1:ByteArray)(a2 a3:Int)(a4:List zD)(a5:ByteArray)(a6:Int)(a7 a8:Bool)(a9:ByteArray)(a10 a11:Int)(a12:List Int)(a13 a14:Int)(a15:List zD)(a16:ByteArray)(a17:Int)(a18 a19:Bool)(a20:ByteArray)(a21 a22:Int)(a23:List Int)(a24:ByteArray):Option Ty0:=
 Option.bind (Ev.Seat.strings_Cut κ a1 (ByteArray.mk (List.toArray ((32:UInt8)::[])))) fun x0=>
  some (a0,(ByteArray.mk (List.toArray [])),a2,a3,a4,a5,a6,a7,a8,a9,a10,a11,a12,a13,a14,a15,a16,a17,a18,a19,a1,a21,a22,a23,a24)
def zA.v13(κ:Nat)(a0:Int)(a1:ByteArray)(a2 a3:Int)(a4:List zD)(a5:ByteArray)(a6:Int)(a7 a8:Bool)(a9:ByteArray)(a10 a11:Int)(a12:List Int)(a13 a14:Int)(a15:List zD)(a16:ByteArray)(a17:Int)(a18 a19:Bool)(a20:ByteArray)(a21 a22:Int)(a23:List Int)(a24:ByteArray):Option (Ty0⊕Ty3):=
 Option.bind (Ev.Seat.strings_Cut κ a1 (ByteArray.mk (List.toArray ((32:UInt8)::[])))) fun x0=>
  Option.bind (Ev.Seat.vY κ a1 a13 a14 a15 a16 a17 a18 a19 a20 a21 a22 a23) fun x1=>
   bif (!x1.1)then
    some (.inr (Bool.false,(0:Int),(0:Int),(ByteArray.mk (List.toArray [])),(0:Int),Bool.false,Bool.false,(ByteArray.mk (List.toArray [])),(0:Int),(0:Int)))
   else
    some (.inl (a0,(ByteArray.mk (List.toArray [])),a2,a3,a4,a5,a6,a7,a8,a9,a10,a11,a12,x1.2.1,x1.2.2.1,x1.2.2.2.1,x1.2.2.2.2.1,x1.2.2.2.2.2.1,x1.2.2.2.2.2.2.1,x1.2.2.2.2.2.2.2.1,x1.2.2.2.2.2.2.2.2.1,x1.2.2.2.2.2.2.2.2.2.1,x1.2.2.2.2.2.2.2.2.2.2.1,x1.2.2.2.2.2.2.2.2.2.2.2,a24))
def zA.v14(κ:Nat)(a0:Int)(a1:ByteArray)(a2 a3:Int)(a4:List zD)(a5:ByteArray)(a6:Int)(a7 a8:Bool)(a9:ByteArray)(a10 a11:Int)(a12:List Int)(a13 a14:Int)(a15:List zD)(a16:ByteArray)(a17:Int)(a18 a19:Bool)(a20:ByteArray)(a21 a22:Int)(a23:List Int)(a24:ByteArray):Option (Ty0⊕Ty3):=
 Option.bind (Ev.Seat.strings_Cut κ a1 (ByteArray.mk (List.toArray ((32:UInt8)::[])))) fun x0=>
  bif (!x0.2.2)then
   bif (!x0.2.2)then
    some (.inr (Bool.false,(0:Int),(0:Int),(ByteArray.mk (List.toArray [])),(0:Int),Bool.false,Bool.false,(ByteArray.mk (List.toArray [])),(0:Int),(0:Int)))
   else
    some (.inl (a0,x0.2.1,a2,a3,a4,a5,a6,a7,a8,a9,a10,a11,a12,a13,a14,a15,a16,a17,a18,a19,x0.1,a21,a22,a23,a24))
  else
   bif (!x0.2.2)then
    some (.inr (Bool.false,(0:Int),(0:Int),(ByteArray.mk (List.toArray [])),(0:Int),Bool.false,Bool.false,(ByteArray.mk (List.toArray [])),(0:Int),(0:Int)))
   else
    some (.inl (a0,x0.2.1,a2,a3,a4,a5,a6,a7,a8,a9,a10,a11,a12,a13,a14,a15,a16,a17,a18,a19,x0.1,a21,a22,a23,a24))
def zA.v15(κ:Nat)(a0:Int)(a1:ByteArray)(a2 a3:Int)(a4:List zD)(a5:ByteArray)(a6:Int)(a7 a8:Bool)(a9:ByteArray)(a10 a11:Int)(a12:List Int)(a13 a14:Int)(a15:List zD)(a16:ByteArray)(a17:Int)(a18 a19:Bool)(a20:ByteArray)(a21 a22:Int)(a23:List Int)(a24 a25:ByteArray):Option (Ty4⊕Ty3):=
 Option.bind (Ev.Seat.strings_Cut κ a1 (ByteArray.mk (List.toArray ((32:UInt8)::[])))) fun x0=>
  bif (!(Ev.seq x0.1 a24))then
   some (.inr (Bool.false,(0:Int),(0:Int),(ByteArray.mk (List.toArray [])),(0:Int),Bool.false,Bool.false,(ByteArray.mk (List.toArray [])),(0:Int),(0:Int)))
  else
   bif (!x0.2.2)then
    bif (!x0.2.2)then
     some (.inr (Bool.false,(0:Int),(0:Int),(ByteArray.mk (List.toArray [])),(0:Int),Bool.false,Bool.false,(ByteArray.mk (List.toArray [])),(0:Int),(0:Int)))
    else
     some (.inl (a0,x0.2.1,a2,a3,a4,a5,a6,a7,a8,a9,a10,a11,a12,a13,a14,a15,a16,a17,a18,a19,a20,a21,a22,a23,a24,a25))
   else
    bif (!x0.2.2)then
     some (.inr (Bool.false,(0:Int),(0:Int),(ByteArray.mk (List.toArray [])),(0:Int),Bool.false,Bool.false,(ByteArray.mk (List.toArray [])),(0:Int),(0:Int)))
    else
     some (.inl (a0,x0.2.1,a2,a3,a4,a5,a6,a7,a8,a9,a10,a11,a12,a13,a14,a15,a16,a17,a18,a19,a20,a21,a22,a23,a24,a25))
def zA.v16(κ:Nat)(a0:Int)(a1:ByteArray)(a2 a3:Int)(a4:List zD)(a5:ByteArray)(a6:Int)(a7 a8:Bool)(a9:ByteArray)(a10 a11:Int)(a12:List Int)(a13 a14:Int)(a15:List zD)(a16:ByteArray)(a17:Int)(a18 a19:Bool)(a20:ByteArray)(a21 a22:Int)(a23:List Int)(a24 a25:ByteArray):Option (Ty4⊕Ty3):=
 Option.bind (Ev.Seat.strings_Cut κ a1 (ByteArray.mk (List.toArray ((32:UInt8)::[])))) fun x0=>
  bif (!(Ev.seq x0.1 a24))then
   some (.inr (Bool.false,(0:Int),(0:Int),(ByteArray.mk (List.toArray [])),(0:Int),Bool.false,Bool.false,(ByteArray.mk (List.toArray [])),(0:Int),(0:Int)))
  else
   bif (!x0.2.2)then
    bif (!x0.2.2)then
     some (.inr (Bool.false,(0:Int),(0:Int),(ByteArray.mk (List.toArray [])),(0:Int),Bool.false,Bool.false,(ByteArray.mk (List.toArray [])),(0:Int),(0:Int)))
    else
     some (.inl (a0,x0.2.1,a2,a3,a4,a5,a6,a7,a8,a9,a10,a11,a12,a13,a14,a15,a16,a17,a18,a19,a20,a21,a22,a23,a24,a25))
   else
    bif (!x0.2.2)then
     some (.inr (Bool.false,(0:Int),(0:Int),(ByteArray.mk (List.toArray [])),(0:Int),Bool.false,Bool.false,(ByteArray.mk (List.toArray [])),(0:Int),(0:Int)))
    else
     some (.inl (a0,x0.2.1,a2,a3,a4,a5,a6,a7,a8,a9,a10,a11,a12,a13,a14,a15,a16,a17,a18,a19,a20,a21,a22,a23,a24,a25))
def zA.v17(κ:Nat)(a0:Int)(a1:ByteArray)(a2 a3:Int)(a4:List zD)(a5:ByteArray)(a6:Int)(a7 a8:Bool)(a9:ByteArray)(a10 a11:Int)(a12:List Int)(a13 a14:Int)(a15:List zD)(a16:ByteArray)(a17:Int)(a18 a19:Bool)(a20:ByteArray)(a21 a22:Int)(a23:List Int)(a24 a25 a26 a27 a28:ByteArray):Option (Ty8⊕Ty3):=
 Option.bind (Ev.Seat.strings_Cut κ a1 (ByteArray.mk (List.toArray ((32:UInt8)::[])))) fun x0=>
  bif (!(Ev.seq x0.1 a24))then
   some (.inr (Bool.false,(0:Int),(0:Int),(ByteArray.mk (List.toArray [])),(0:Int),Bool.false,Bool.false,(ByteArray.mk (List.toArray [])),(0:Int),(0:Int)))
  else
   bif (!x0.2.2)then
    bif (!x0.2.2)then
     some (.inr (Bool.false,(0:Int),(0:Int),(ByteArray.mk (List.toArray [])),(0:Int),Bool.false,Bool.false,(ByteArray.mk (List.toArray [])),(0:Int),(0:Int)))
    else
     some (.inl (a0,x0.2.1,a2,a3,a4,a5,a6,a7,a8,a9,a10,a11,a12,a13,a14,a15,a16,a17,a18,a19,a20,a21,a22,a23,a24,a25,a26,a27,a28))
   else
    bif (!x0.2.2)then
     some (.inr (Bool.false,(0:Int),(0:Int),(ByteArray.mk (List.toArray [])),(0:Int),Bool.false,Bool.false,(ByteArray.mk (List.toArray [])),(0:Int),(0:Int)))
    else
     some (.inl (a0,x0.2.1,a2,a3,a4,a5,a6,a7,a8,a9,a10,a11,a12,a13,a14,a15,a16,a17,a18,a19,a20,a21,a22,a23,a24,a25,a26,a27,a28))
def zA.v18(κ:Nat)(a0:Int)(a1:ByteArray)(a2 a3:Int)(a4:List zD)(a5:ByteArray)(a6:Int)(a7 a8:Bool)(a9:ByteArray)(a10 a11:Int)(a12:List Int)(a13 a14:Int)(a15:List zD)(a16:ByteArray)(a17:Int)(a18 a19:Bool)(a20:ByteArray)(a21 a22:Int)(a23:List Int)(a24:ByteArray):Option (Ty0⊕(Ty3⊕Ty1)):=
 Option.bind (Ev.Seat.strings_Cut κ a1 (ByteArray.mk (List.toArray ((32:UInt8)::[])))) fun x0=>
  bif (!(Ev.seq x0.1 a24))then
   some (.inr (.inl (Bool.false,(0:Int),(0:Int),(ByteArray.mk (List.toArray [])),(0:Int),Bool.false,Bool.false,(ByteArray.mk (List.toArray [])),(0:Int),(0:Int))))
  else
   bif (!x0.2.2)then
    bif (a0==(9:Int))then
     some (.inr (.inr (a2,a3,a4,a5,a6,a7,a8,a9,a10,a11,a12,a13,a14,a15,a16,a17,a18,a19,a20,a21,a22,a23)))
    else
     bif (!x0.2.2)then
      some (.inr (.inl (Bool.false,(0:Int),(0:Int),(ByteArray.mk (List.toArray [])),(0:Int),Bool.false,Bool.false,(ByteArray.mk (List.toArray [])),(0:Int),(0:Int))))
     else
      some (.inl (a0,x0.2.1,a2,a3,a4,a5,a6,a7,a8,a9,a10,a11,a12,a13,a14,a15,a16,a17,a18,a19,a20,a21,a22,a23,a24))
   else
    bif (!x0.2.2)then
     some (.inr (.inl (Bool.false,(0:Int),(0:Int),(ByteArray.mk (List.toArray [])),(0:Int),Bool.false,Bool.false,(ByteArray.mk (List.toArray [])),(0:Int),(0:Int))))
    else
     some (.inl (a0,x0.2.1,a2,a3,a4,a5,a6,a7,a8,a9,a10,a11,a12,a13,a14,a15,a16,a17,a18,a19,a20,a21,a22,a23,a24))
def zA.v19(κ:Nat)(a0:Int)(a1:ByteArray)(a2 a3:Int)(a4:List zD)(a5:ByteArray)(a6:Int)(a7 a8:Bool)(a9:ByteArray)(a10 a11:Int)(a12:List Int)(a13 a14:Int)(a15:List zD)(a16:ByteArray)(a17:Int)(a18 a19:Bool)(a20:ByteArray)(a21 a22:Int)(a23:List Int)(a24:ByteArray):Option (Ty0⊕(Ty3⊕Ty1)):=
 Option.bind (Ev.Seat.strings_Cut κ a1 (ByteArray.mk (List.toArray ((32:UInt8)::[])))) fun x0=>
  bif (!(Ev.seq x0.1 a24))then
   some (.inr (.inl (Bool.false,(0:Int),(0:Int),(ByteArray.mk (List.toArray [])),(0:Int),Bool.false,Bool.false,(ByteArray.mk (List.toArray [])),(0:Int),(0:Int))))
  else
   bif (!x0.2.2)then
    bif (a0==(9:Int))then
     some (.inr (.inr (a2,a3,a4,a5,a6,a7,a8,a9,a10,a11,a12,a13,a14,a15,a16,a17,a18,a19,a20,a21,a22,a23)))
    else
     bif (!x0.2.2)then
      some (.inr (.inl (Bool.false,(0:Int),(0:Int),(ByteArray.mk (List.toArray [])),(0:Int),Bool.false,Bool.false,(ByteArray.mk (List.toArray [])),(0:Int),(0:Int))))
     else
      some (.inl (a0,x0.2.1,a2,a3,a4,a5,a6,a7,a8,a9,a10,a11,a12,a13,a14,a15,a16,a17,a18,a19,a20,a21,a22,a23,a24))
   else
    bif (!x0.2.2)then
     some (.inr (.inl (Bool.false,(0:Int),(0:Int),(ByteArray.mk (List.toArray [])),(0:Int),Bool.false,Bool.false,(ByteArray.mk (List.toArray [])),(0:Int),(0:Int))))
    else
     some (.inl (a0,x0.2.1,a2,a3,a4,a5,a6,a7,a8,a9,a10,a11,a12,a13,a14,a15,a16,a17,a18,a19,a20,a21,a22,a23,a24))
def zA.v20(κ:Nat)(a0:Int)(a1:ByteArray)(a2 a3:Int)(a4:List zD)(a5:ByteArray)(a6:Int)(a7 a8:Bool)(a9:ByteArray)(a10 a11:Int)(a12:List Int)(a13 a14:Int)(a15:List zD)(a16:ByteArray)(a17:Int)(a18 a19:Bool)(a20:ByteArray)(a21 a22:Int)(a23:List Int)(a24:ByteArray):Option (Ty0⊕(Ty3⊕Ty1)):=
 Option.bind (Ev.Seat.strings_Cut κ a1 (ByteArray.mk (List.toArray ((32:UInt8)::[])))) fun x0=>
  bif (!(Ev.seq x0.1 a24))then
   some (.inr (.inl (Bool.false,(0:Int),(0:Int),(ByteArray.mk (List.toArray [])),(0:Int),Bool.false,Bool.false,(ByteArray.mk (List.toArray [])),(0:Int),(0:Int))))
  else
   bif (!x0.2.2)then
    bif (a0==(9:Int))then
     some (.inr (.inr (a2,a3,a4,a5,a6,a7,a8,a9,a10,a11,a12,a13,a14,a15,a16,a17,a18,a19,a20,a21,a22,a23)))
    else
     bif (!x0.2.2)then
      some (.inr (.inl (Bool.false,(0:Int),(0:Int),(ByteArray.mk (List.toArray [])),(0:Int),Bool.false,Bool.false,(ByteArray.mk (List.toArray [])),(0:Int),(0:Int))))
     else
      some (.inl (a0,x0.2.1,a2,a3,a4,a5,a6,a7,a8,a9,a10,a11,a12,a13,a14,a15,a16,a17,a18,a19,a20,a21,a22,a23,a24))
   else
    bif (!x0.2.2)then
     some (.inr (.inl (Bool.false,(0:Int),(0:Int),(ByteArray.mk (List.toArray [])),(0:Int),Bool.false,Bool.false,(ByteArray.mk (List.toArray [])),(0:Int),(0:Int))))
    else
     some (.inl (a0,x0.2.1,a2,a3,a4,a5,a6,a7,a8,a9,a10,a11,a12,a13,a14,a15,a16,a17,a18,a19,a20,a21,a22,a23,a24))
def zA.v21(κ:Nat)(a0:Int)(a1:ByteArray)(a2 a3:Int)(a4:List zD)(a5:ByteArray)(a6:Int)(a7 a8:Bool)(a9:ByteArray)(a10 a11:Int)(a12:List Int)(a13 a14:Int)(a15:List zD)(a16:ByteArray)(a17:Int)(a18 a19:Bool)(a20:ByteArray)(a21 a22:Int)(a23:List Int)(a24:ByteArray):Option (Ty0⊕Ty3):=
 Option.bind (Ev.Seat.strings_Cut κ a1 (ByteArray.mk (List.toArray ((32:UInt8)::[])))) fun x0=>
  bif (!(Ev.seq x0.1 a24))then
   some (.inr (Bool.false,(0:Int),(0:Int),(ByteArray.mk (List.toArray [])),(0:Int),Bool.false,Bool.false,(ByteArray.mk (List.toArray [])),(0:Int),(0:Int)))
  else
   bif (!x0.2.2)then
    bif (!x0.2.2)then
     some (.inr (Bool.false,(0:Int),(0:Int),(ByteArray.mk (List.toArray [])),(0:Int),Bool.false,Bool.false,(ByteArray.mk (List.toArray [])),(0:Int),(0:Int)))
    else
     some (.inl (a0,x0.2.1,a2,a3,a4,a5,a6,a7,a8,a9,a10,a11,a12,a13,a14,a15,a16,a17,a18,a19,a20,a21,a22,a23,a24))
   else
    bif (!x0.2.2)then
     some (.inr (Bool.false,(0:Int),(0:Int),(ByteArray.mk (List.toArray [])),(0:Int),Bool.false,Bool.false,(ByteArray.mk (List.toArray [])),(0:Int),(0:Int)))
    else
     some (.inl (a0,x0.2.1,a2,a3,a4,a5,a6,a7,a8,a9,a10,a11,a12,a13,a14,a15,a16,a17,a18,a19,a20,a21,a22,a23,a24))
def zA.v22(κ:Nat)(a0:Int)(a1:ByteArray)(a2 a3:Int)(a4:List zD)(a5:ByteArray)(a6:Int)(a7 a8:Bool)(a9:ByteArray)(a10 a11:Int)(a12:List Int)(a13 a14:Int)(a15:List zD)(a16:ByteArray)(a17:Int)(a18 a19:Bool)(a20:ByteArray)(a21 a22:Int)(a23:List Int)(a24:ByteArray):Option (Ty0⊕Ty3):=
 Option.bind (Ev.Seat.strings_Cut κ a1 (ByteArray.mk (List.toArray ((32:UInt8)::[])))) fun x0=>
  bif (!(Ev.seq a1 a24))then
   some (.inr (Bool.false,(0:Int),(0:Int),(ByteArray.mk (List.toArray [])),(0:Int),Bool.false,Bool.false,(ByteArray.mk (List.toArray [])),(0:Int),(0:Int)))
  else
   some (.inl (a0,(ByteArray.mk (List.toArray [])),a2,a3,a4,a5,a6,a7,a8,a9,a10,a11,a12,a13,a14,a15,a16,a17,a18,a19,a20,a21,a22,a23,a24))
def zA.v23(κ:Nat)(a0:Int)(a1:ByteArray)(a2 a3:Int)(a4:List zD)(a5:ByteArray)(a6:Int)(a7 a8:Bool)(a9:ByteArray)(a10 a11:Int)(a12:List Int)(a13 a14:Int)(a15:List zD)(a16:ByteArray)(a17:Int)(a18 a19:Bool)(a20:ByteArray)(a21 a22:Int)(a23:List Int)(a24:ByteArray):Option Ty1:=
 some (a2,a3,a4,a5,a6,a7,a8,a9,a10,a11,a12,a13,a14,a15,a16,a17,a18,a19,a20,a21,a22,a23)
def zA.v24(κ:Nat)(a0:Int)(a1:ByteArray)(a2 a3:Int)(a4:List zD)(a5:ByteArray)(a6:Int)(a7 a8:Bool)(a9:ByteArray)(a10 a11:Int)(a12:List Int)(a13 a14:Int)(a15:List zD)(a16:ByteArray)(a17:Int)(a18 a19:Bool)(a20:ByteArray)(a21 a22:Int)(a23:List Int)(a24:ByteArray):Option Ty1:=
 some (a2,a3,a4,a5,a6,a7,a8,a9,a10,a11,a12,a13,a14,a15,a16,a17,a18,a19,a20,a21,a22,a23)
def zA.v25(κ:Nat)(a0:Int)(a1:ByteArray)(a2 a3:Int)(a4:List zD)(a5:ByteArray)(a6:Int)(a7 a8:Bool)(a9:ByteArray)(a10 a11:Int)(a12:List Int)(a13 a14:Int)(a15:List zD)(a16:ByteArray)(a17:Int)(a18 a19:Bool)(a20:ByteArray)(a21 a22:Int)(a23:List Int)(a24:ByteArray):Option (Ty0⊕Ty3):=
 Option.bind (Ev.Seat.strings_Cut κ a1 (ByteArray.mk (List.toArray ((32:UInt8)::[])))) fun x0=>
  Option.bind (Ev.Seat.gP κ x0.1 a13 a14 a15 a16 a17 a18 a19 a20 a21 a22 a23) fun x1=>
   bif (!x1.1)then
    some (.inr (Bool.false,(0:Int),(0:Int),(ByteArray.mk (List.toArray [])),(0:Int),Bool.false,Bool.false,(ByteArray.mk (List.toArray [])),(0:Int),(0:Int)))
   else
    bif (!x0.2.2)then
     bif (!x0.2.2)then
      some (.inr (Bool.false,(0:Int),(0:Int),(ByteArray.mk (List.toArray [])),(0:Int),Bool.false,Bool.false,(ByteArray.mk (List.toArray [])),(0:Int),(0:Int)))
     else
      some (.inl (a0,x0.2.1,a2,a3,a4,a5,a6,a7,a8,a9,a10,a11,a12,x1.2.1,x1.2.2.1,x1.2.2.2.1,x1.2.2.2.2.1,x1.2.2.2.2.2.1,x1.2.2.2.2.2.2.1,x1.2.2.2.2.2.2.2.1,x1.2.2.2.2.2.2.2.2.1,x1.2.2.2.2.2.2.2.2.2.1,x1.2.2.2.2.2.2.2.2.2.2.1,x1.2.2.2.2.2.2.2.2.2.2.2,a24))
    else
     bif (!x0.2.2)then
      some (.inr (Bool.false,(0:Int),(0:Int),(ByteArray.mk (List.toArray [])),(0:Int),Bool.false,Bool.false,(ByteArray.mk (List.toArray [])),(0:Int),(0:Int)))
     else
      some (.inl (a0,x0.2.1,a2,a3,a4,a5,a6,a7,a8,a9,a10,a11,a12,x1.2.1,x1.2.2.1,x1.2.2.2.1,x1.2.2.2.2.1,x1.2.2.2.2.2.1,x1.2.2.2.2.2.2.1,x1.2.2.2.2.2.2.2.1,x1.2.2.2.2.2.2.2.2.1,x1.2.2.2.2.2.2.2.2.2.1,x1.2.2.2.2.2.2.2.2.2.2.1,x1.2.2.2.2.2.2.2.2.2.2.2,a24))
def zA.v26(κ:Nat)(a0:Int)(a1:ByteArray)(a2 a3:Int)(a4:List zD)(a5:ByteArray)(a6:Int)(a7 a8:Bool)(a9:ByteArray)(a10 a11:Int)(a12:List Int)(a13 a14:Int)(a15:List zD)(a16:ByteArray)(a17:Int)(a18 a19:Bool)(a20:ByteArray)(a21 a22:Int)(a23:List Int)(a24 a25:ByteArray):Option (Ty4⊕(Ty3⊕Ty1)):=
 Option.bind (Ev.Seat.strings_Cut κ a1 (ByteArray.mk (List.toArray ((32:UInt8)::[])))) fun x0=>
  bif (!(Ev.seq x0.1 a25))then
   some (.inr (.inl (Bool.false,(0:Int),(0:Int),(ByteArray.mk (List.toArray [])),(0:Int),Bool.false,Bool.false,(ByteArray.mk (List.toArray [])),(0:Int),(0:Int))))
  else
   bif (!x0.2.2)then
    bif (a0==(9:Int))then
     some (.inr (.inr (a2,a3,a4,a5,a6,a7,a8,a9,a10,a11,a12,a13,a14,a15,a16,a17,a18,a19,a20,a21,a22,a23)))
    else
     bif (!x0.2.2)then
      some (.inr (.inl (Bool.false,(0:Int),(0:Int),(ByteArray.mk (List.toArray [])),(0:Int),Bool.false,Bool.false,(ByteArray.mk (List.toArray [])),(0:Int),(0:Int))))
     else
      some (.inl (a0,x0.2.1,a2,a3,a4,a5,a6,a7,a8,a9,a10,a11,a12,a13,a14,a15,a16,a17,a18,a19,a20,a21,a22,a23,a24,a25))
   else
    bif (!x0.2.2)then
     some (.inr (.inl (Bool.false,(0:Int),(0:Int),(ByteArray.mk (List.toArray [])),(0:Int),Bool.false,Bool.false,(ByteArray.mk (List.toArray [])),(0:Int),(0:Int))))
    else
     some (.inl (a0,x0.2.1,a2,a3,a4,a5,a6,a7,a8,a9,a10,a11,a12,a13,a14,a15,a16,a17,a18,a19,a20,a21,a22,a23,a24,a25))
def zA.v27(κ:Nat)(a0:Int)(a1:ByteArray)(a2 a3:Int)(a4:List zD)(a5:ByteArray)(a6:Int)(a7 a8:Bool)(a9:ByteArray)(a10 a11:Int)(a12:List Int)(a13 a14:Int)(a15:List zD)(a16:ByteArray)(a17:Int)(a18 a19:Bool)(a20:ByteArray)(a21 a22:Int)(a23:List Int)(a24 a25:ByteArray):Option (Ty4⊕(Ty3⊕Ty1)):=
 Option.bind (Ev.Seat.strings_Cut κ a1 (ByteArray.mk (List.toArray ((32:UInt8)::[])))) fun x0=>
  bif (!(Ev.seq x0.1 a25))then
   some (.inr (.inl (Bool.false,(0:Int),(0:Int),(ByteArray.mk (List.toArray [])),(0:Int),Bool.false,Bool.false,(ByteArray.mk (List.toArray [])),(0:Int),(0:Int))))
  else
   bif (!x0.2.2)then
    bif (a0==(9:Int))then
     some (.inr (.inr (a2,a3,a4,a5,a6,a7,a8,a9,a10,a11,a12,a13,a14,a15,a16,a17,a18,a19,a20,a21,a22,a23)))
    else
     bif (!x0.2.2)then
      some (.inr (.inl (Bool.false,(0:Int),(0:Int),(ByteArray.mk (List.toArray [])),(0:Int),Bool.false,Bool.false,(ByteArray.mk (List.toArray [])),(0:Int),(0:Int))))
     else
      some (.inl (a0,x0.2.1,a2,a3,a4,a5,a6,a7,a8,a9,a10,a11,a12,a13,a14,a15,a16,a17,a18,a19,a20,a21,a22,a23,a24,a25))
   else
    bif (!x0.2.2)then
     some (.inr (.inl (Bool.false,(0:Int),(0:Int),(ByteArray.mk (List.toArray [])),(0:Int),Bool.false,Bool.false,(ByteArray.mk (List.toArray [])),(0:Int),(0:Int))))
    else
     some (.inl (a0,x0.2.1,a2,a3,a4,a5,a6,a7,a8,a9,a10,a11,a12,a13,a14,a15,a16,a17,a18,a19,a20,a21,a22,a23,a24,a25))
def zA.v28(κ:Nat)(a0:Int)(a1:ByteArray)(a2 a3:Int)(a4:List zD)(a5:ByteArray)(a6:Int)(a7 a8:Bool)(a9:ByteArray)(a10 a11:Int)(a12:List Int)(a13 a14:Int)(a15:List zD)(a16:ByteArray)(a17:Int)(a18 a19:Bool)(a20:ByteArray)(a21 a22:Int)(a23:List Int)(a24 a25 a26 a27 a28:ByteArray):Option (Ty8⊕Ty3):=
 Option.bind (Ev.Seat.strings_Cut κ a1 (ByteArray.mk (List.toArray ((32:UInt8)::[])))) fun x0=>
  Option.bind (Ev.Seat.ko κ a25 a26 x0.1 a13 a14 a15 a16 a17 a18 a19 a20 a21 a22 a23) fun x1=>
   bif (!x1.1)then
    some (.inr (Bool.false,(0:Int),(0:Int),(ByteArray.mk (List.toArray [])),(0:Int),Bool.false,Bool.false,(ByteArray.mk (List.toArray [])),(0:Int),(0:Int)))
   else
    bif (!x0.2.2)then
     bif (!x0.2.2)then
      some (.inr (Bool.false,(0:Int),(0:Int),(ByteArray.mk (List.toArray [])),(0:Int),Bool.false,Bool.false,(ByteArray.mk (List.toArray [])),(0:Int),(0:Int)))
     else
      some (.inl (a0,x0.2.1,a2,a3,a4,a5,a6,a7,a8,a9,a10,a11,a12,x1.2.1,x1.2.2.1,x1.2.2.2.1,x1.2.2.2.2.1,x1.2.2.2.2.2.1,x1.2.2.2.2.2.2.1,x1.2.2.2.2.2.2.2.1,x1.2.2.2.2.2.2.2.2.1,x1.2.2.2.2.2.2.2.2.2.1,x1.2.2.2.2.2.2.2.2.2.2.1,x1.2.2.2.2.2.2.2.2.2.2.2,a24,a25,a26,a27,a28))
    else
     bif (!x0.2.2)then
      some (.inr (Bool.false,(0:Int),(0:Int),(ByteArray.mk (List.toArray [])),(0:Int),Bool.false,Bool.false,(ByteArray.mk (List.toArray [])),(0:Int),(0:Int)))
     else
      some (.inl (a0,x0.2.1,a2,a3,a4,a5,a6,a7,a8,a9,a10,a11,a12,x1.2.1,x1.2.2.1,x1.2.2.2.1,x1.2.2.2.2.1,x1.2.2.2.2.2.1,x1.2.2.2.2.2.2.1,x1.2.2.2.2.2.2.2.1,x1.2.2.2.2.2.2.2.2.1,x1.2.2.2.2.2.2.2.2.2.1,x1.2.2.2.2.2.2.2.2.2.2.1,x1.2.2.2.2.2.2.2.2.2.2.2,a24,a25,a26,a27,a28))
def zA.v29(κ:Nat)(a0:Int)(a1:ByteArray)(a2 a3:Int)(a4:List zD)(a5:ByteArray)(a6:Int)(a7 a8:Bool)(a9:ByteArray)(a10 a11:Int)(a12:List Int)(a13 a14:Int)(a15:List zD)(a16:ByteArray)(a17:Int)(a18 a19:Bool)(a20:ByteArray)(a21 a22:Int)(a23:List Int)(a24:ByteArray):Option (Ty0⊕Ty3):=
 Option.bind (Ev.Seat.strings_Cut κ a1 (ByteArray.mk (List.toArray ((32:UInt8)::[])))) fun x0=>
  Option.bind (Ev.Seat.vY κ a1 a13 a14 a15 a16 a17 a18 a19 a20 a21 a22 a23) fun x1=>
   bif (!x1.1)then
    some (.inr (Bool.false,(0:Int),(0:Int),(ByteArray.mk (List.toArray [])),(0:Int),Bool.false,Bool.false,(ByteArray.mk (List.toArray [])),(0:Int),(0:Int)))
   else
    some (.inl (a0,(ByteArray.mk (List.toArray [])),a2,a3,a4,a5,a6,a7,a8,a9,a10,a11,a12,x1.2.1,x1.2.2.1,x1.2.2.2.1,x1.2.2.2.2.1,x1.2.2.2.2.2.1,x1.2.2.2.2.2.2.1,x1.2.2.2.2.2.2.2.1,x1.2.2.2.2.2.2.2.2.1,x1.2.2.2.2.2.2.2.2.2.1,x1.2.2.2.2.2.2.2.2.2.2.1,x1.2.2.2.2.2.2.2.2.2.2.2,a24))
def zA.v30(κ:Nat)(a0:Int)(a1:ByteArray)(a2 a3:Int)(a4:List zD)(a5:ByteArray)(a6:Int)(a7 a8:Bool)(a9:ByteArray)(a10 a11:Int)(a12:List Int)(a13 a14:Int)(a15:List zD)(a16:ByteArray)(a17:Int)(a18 a19:Bool)(a20:ByteArray)(a21 a22:Int)(a23:List Int)(a24:ByteArray):Option (Ty0⊕Ty3):=
 Option.bind (Ev.Seat.strings_Cut κ a1 (ByteArray.mk (List.toArray ((32:UInt8)::[])))) fun x0=>
  Option.bind (Ev.Seat.gH κ a1 a13 a14 a15 a16 a17 a18 a19 a20 a21 a22 a23) fun x1=>
   bif (!x1.1)then
    some (.inr (Bool.false,(0:Int),(0:Int),(ByteArray.mk (List.toArray [])),(0:Int),Bool.false,Bool.false,(ByteArray.mk (List.toArray [])),(0:Int),(0:Int)))
   else
    some (.inl (a0,(ByteArray.mk (List.toArray [])),a2,a3,a4,a5,a6,a7,a8,a9,a10,a11,a12,x1.2.1,x1.2.2.1,x1.2.2.2.1,x1.2.2.2.2.1,x1.2.2.2.2.2.1,x1.2.2.2.2.2.2.1,x1.2.2.2.2.2.2.2.1,x1.2.2.2.2.2.2.2.2.1,x1.2.2.2.2.2.2.2.2.2.1,x1.2.2.2.2.2.2.2.2.2.2.1,x1.2.2.2.2.2.2.2.2.2.2.2,a24))
def zA.v31(κ:Nat)(a0:Int)(a1:ByteArray)(a2 a3:Int)(a4:List zD)(a5:ByteArray)(a6:Int)(a7 a8:Bool)(a9:ByteArray)(a10 a11:Int)(a12:List Int)(a13 a14:Int)(a15:List zD)(a16:ByteArray)(a17:Int)(a18 a19:Bool)(a20:ByteArray)(a21 a22:Int)(a23:List Int)(a24:ByteArray):Option (Ty0⊕Ty3):=
 Option.bind (Ev.Seat.strings_Cut κ a1 (ByteArray.mk (List.toArray ((32:UInt8)::[])))) fun x0=>
  Option.bind (Ev.Seat.jY κ a1 a13 a14 a15 a16 a17 a18 a19 a20 a21 a22 a23) fun x1=>
   bif (!x1.1)then
    some (.inr (Bool.false,(0:Int),(0:Int),(ByteArray.mk (List.toArray [])),(0:Int),Bool.false,Bool.false,(ByteArray.mk (List.toArray [])),(0:Int),(0:Int)))
   else
    some (.inl (a0,(ByteArray.mk (List.toArray [])),a2,a3,a4,a5,a6,a7,a8,a9,a10,a11,a12,x1.2.1,x1.2.2.1,x1.2.2.2.2.2.2.2.2.2.2.2,x1.2.2.2.1,x1.2.2.2.2.1,x1.2.2.2.2.2.1,x1.2.2.2.2.2.2.1,x1.2.2.2.2.2.2.2.1,x1.2.2.2.2.2.2.2.2.1,x1.2.2.2.2.2.2.2.2.2.1,x1.2.2.2.2.2.2.2.2.2.2.1,a24))
def zA.v32(κ:Nat)(a0:Int)(a1:ByteArray)(a2 a3:Int)(a4:List zD)(a5:ByteArray)(a6:Int)(a7 a8:Bool)(a9:ByteArray)(a10 a11:Int)(a12:List Int)(a13 a14:Int)(a15:List zD)(a16:ByteArray)(a17:Int)(a18 a19:Bool)(a20:ByteArray)(a21 a22:Int)(a23:List Int)(a24:ByteArray):Option (Ty0⊕Ty3):=
 Option.bind (Ev.Seat.strings_Cut κ a1 (ByteArray.mk (List.toArray ((32:UInt8)::[])))) fun x0=>
  Option.bind (Ev.Seat.jY κ x0.1 a13 a14 a15 a16 a17 a18 a19 a20 a21 a22 a23) fun x1=>
   bif (!x1.1)then
    some (.inr (Bool.false,(0:Int),(0:Int),(ByteArray.mk (List.toArray [])),(0:Int),Bool.false,Bool.false,(ByteArray.mk (List.toArray [])),(0:Int),(0:Int)))
   else
    bif (!x0.2.2)then
     bif (!x0.2.2)then
      some (.inr (Bool.false,(0:Int),(0:Int),(ByteArray.mk (List.toArray [])),(0:Int),Bool.false,Bool.false,(ByteArray.mk (List.toArray [])),(0:Int),(0:Int)))
     else
      some (.inl (a0,x0.2.1,a2,a3,a4,a5,a6,a7,a8,a9,a10,a11,a12,x1.2.1,x1.2.2.1,x1.2.2.2.2.2.2.2.2.2.2.2,x1.2.2.2.1,x1.2.2.2.2.1,x1.2.2.2.2.2.1,x1.2.2.2.2.2.2.1,x1.2.2.2.2.2.2.2.1,x1.2.2.2.2.2.2.2.2.1,x1.2.2.2.2.2.2.2.2.2.1,x1.2.2.2.2.2.2.2.2.2.2.1,a24))
    else
     bif (!x0.2.2)then
      some (.inr (Bool.false,(0:Int),(0:Int),(ByteArray.mk (List.toArray [])),(0:Int),Bool.false,Bool.false,(ByteArray.mk (List.toArray [])),(0:Int),(0:Int)))
     else
      some (.inl (a0,x0.2.1,a2,a3,a4,a5,a6,a7,a8,a9,a10,a11,a12,x1.2.1,x1.2.2.1,x1.2.2.2.2.2.2.2.2.2.2.2,x1.2.2.2.1,x1.2.2.2.2.1,x1.2.2.2.2.2.1,x1.2.2.2.2.2.2.1,x1.2.2.2.2.2.2.2.1,x1.2.2.2.2.2.2.2.2.1,x1.2.2.2.2.2.2.2.2.2.1,x1.2.2.2.2.2.2.2.2.2.2.1,a24))
def zA.v33(κ:Nat)(a0:Int)(a1:ByteArray)(a2 a3:Int)(a4:List zD)(a5:ByteArray)(a6:Int)(a7 a8:Bool)(a9:ByteArray)(a10 a11:Int)(a12:List Int)(a13 a14:Int)(a15:List zD)(a16:ByteArray)(a17:Int)(a18 a19:Bool)(a20:ByteArray)(a21 a22:Int)(a23:List Int)(a24:ByteArray):Option Ty1:=
 some (a2,a3,a4,a5,a6,a7,a8,a9,a10,a11,a12,a13,a14,a15,a16,a17,a18,a19,a20,a21,a22,a23)
def zA.v34(κ:Nat)(a0:Int)(a1:ByteArray)(a2 a3:Int)(a4:List zD)(a5:ByteArray)(a6:Int)(a7 a8:Bool)(a9:ByteArray)(a10 a11:Int)(a12:List Int)(a13 a14:Int)(a15:List zD)(a16:ByteArray)(a17:Int)(a18 a19:Bool)(a20:ByteArray)(a21 a22:Int)(a23:List Int)(a24:ByteArray):Option (Ty0⊕Ty3):=
 Option.bind (Ev.Seat.strings_Cut κ a1 (ByteArray.mk (List.toArray ((32:UInt8)::[])))) fun x0=>
  Option.bind (Ev.Seat.kz κ a1 a13 a14 a15 a16 a17 a18 a19 a20 a21 a22 a23) fun x1=>
   bif (!x1.1)then
    some (.inr (Bool.false,(0:Int),(0:Int),(ByteArray.mk (List.toArray [])),(0:Int),Bool.false,Bool.false,(ByteArray.mk (List.toArray [])),(0:Int),(0:Int)))
   else
    some (.inl (a0,(ByteArray.mk (List.toArray [])),a2,a3,a4,a5,a6,a7,a8,a9,a10,a11,a12,x1.2.1,x1.2.2.1,x1.2.2.2.1,x1.2.2.2.2.1,x1.2.2.2.2.2.1,x1.2.2.2.2.2.2.1,x1.2.2.2.2.2.2.2.1,x1.2.2.2.2.2.2.2.2.1,x1.2.2.2.2.2.2.2.2.2.1,x1.2.2.2.2.2.2.2.2.2.2.1,x1.2.2.2.2.2.2.2.2.2.2.2,a24))
def zA.v35(κ:Nat)(a0:Int)(a1:ByteArray)(a2 a3:Int)(a4:List zD)(a5:ByteArray)(a6:Int)(a7 a8:Bool)(a9:ByteArray)(a10 a11:Int)(a12:List Int)(a13 a14:Int)(a15:List zD)(a16:ByteArray)(a17:Int)(a18 a19:Bool)(a20:ByteArray)(a21 a22:Int)(a23:List Int)(a24 a25:ByteArray):Option (Ty4⊕Ty3):=
 Option.bind (Ev.Seat.strings_Cut κ a1 (ByteArray.mk (List.toArray ((32:UInt8)::[])))) fun x0=>
  Option.bind (Ev.Seat.jt κ a1 a13 a14 a15 a16 a17 a18 a19 a20 a21 a22 a23) fun x1=>
   bif (!x1.1)then
    some (.inr (Bool.false,(0:Int),(0:Int),(ByteArray.mk (List.toArray [])),(0:Int),Bool.false,Bool.false,(ByteArray.mk (List.toArray [])),(0:Int),(0:Int)))
   else
    some (.inl (a0,(ByteArray.mk (List.toArray [])),a2,a3,a4,a5,a6,a7,a8,a9,a10,a11,a12,x1.2.1,x1.2.2.1,x1.2.2.2.1,x1.2.2.2.2.1,x1.2.2.2.2.2.1,x1.2.2.2.2.2.2.1,x1.2.2.2.2.2.2.2.1,x1.2.2.2.2.2.2.2.2.1,x1.2.2.2.2.2.2.2.2.2.1,x1.2.2.2.2.2.2.2.2.2.2.1,x1.2.2.2.2.2.2.2.2.2.2.2,a24,a25))
def zA.v36(κ:Nat)(a0:Int)(a1:ByteArray)(a2 a3:Int)(a4:List zD)(a5:ByteArray)(a6:Int)(a7 a8:Bool)(a9:ByteArray)(a10 a11:Int)(a12:List Int)(a13 a14:Int)(a15:List zD)(a16:ByteArray)(a17:Int)(a18 a19:Bool)(a20:ByteArray)(a21 a22:Int)(a23:List Int)(a24 a25:ByteArray):Option (Ty4⊕Ty3):=
 Option.bind (Ev.Seat.strings_Cut κ a1 (ByteArray.mk (List.toArray ((32:UInt8)::[])))) fun x0=>
  Option.bind (Ev.Seat.j3 κ a1 a13 a14 a15 a16 a17 a18 a19 a20 a21 a22 a23) fun x1=>
   bif (!x1.1)then
    some (.inr (Bool.false,(0:Int),(0:Int),(ByteArray.mk (List.toArray [])),(0:Int),Bool.false,Bool.false,(ByteArray.mk (List.toArray [])),(0:Int),(0:Int)))
   else
    some (.inl (a0,(ByteArray.mk (List.toArray [])),a2,a3,a4,a5,a6,a7,a8,a9,a10,a11,a12,x1.2.1,x1.2.2.1,x1.2.2.2.1,x1.2.2.2.2.1,x1.2.2.2.2.2.1,x1.2.2.2.2.2.2.1,x1.2.2.2.2.2.2.2.1,x1.2.2.2.2.2.2.2.2.1,x1.2.2.2.2.2.2.2.2.2.1,x1.2.2.2.2.2.2.2.2.2.2.1,x1.2.2.2.2.2.2.2.2.2.2.2,a24,a25))
def zA.v37(κ:Nat)(a0:Int)(a1:ByteArray)(a2 a3:Int)(a4:List zD)(a5:ByteArray)(a6:Int)(a7 a8:Bool)(a9:ByteArray)(a10 a11:Int)(a12:List Int)(a13 a14:Int)(a15:List zD)(a16:ByteArray)(a17:Int)(a18 a19:Bool)(a20:ByteArray)(a21 a22:Int)(a23:List Int)(a24 a25 a26 a27 a28:ByteArray):Option (Ty8⊕Ty3):=
 Option.bind (Ev.Seat.strings_Cut κ a1 (ByteArray.mk (List.toArray ((32:UInt8)::[])))) fun x0=>
  Option.bind (Ev.Seat.kF κ a27 a28 x0.1 a13 a14 a15 a16 a17 a18 a19 a20 a21 a22 a23) fun x1=>
   bif (!x1.1)then
    some (.inr (Bool.false,(0:Int),(0:Int),(ByteArray.mk (List.toArray [])),(0:Int),Bool.false,Bool.false,(ByteArray.mk (List.toArray [])),(0:Int),(0:Int)))
   else
    bif (!x0.2.2)then
     bif (!x0.2.2)then
      some (.inr (Bool.false,(0:Int),(0:Int),(ByteArray.mk (List.toArray [])),(0:Int),Bool.false,Bool.false,(ByteArray.mk (List.toArray [])),(0:Int),(0:Int)))
     else
      some (.inl (a0,x0.2.1,a2,a3,a4,a5,a6,a7,a8,a9,a10,a11,a12,x1.2.1,x1.2.2.1,x1.2.2.2.1,x1.2.2.2.2.1,x1.2.2.2.2.2.1,x1.2.2.2.2.2.2.1,x1.2.2.2.2.2.2.2.1,x1.2.2.2.2.2.2.2.2.1,x1.2.2.2.2.2.2.2.2.2.1,x1.2.2.2.2.2.2.2.2.2.2.1,x1.2.2.2.2.2.2.2.2.2.2.2,a24,a25,a26,a27,a28))
    else
     bif (!x0.2.2)then
      some (.inr (Bool.false,(0:Int),(0:Int),(ByteArray.mk (List.toArray [])),(0:Int),Bool.false,Bool.false,(ByteArray.mk (List.toArray [])),(0:Int),(0:Int)))
     else
      some (.inl (a0,x0.2.1,a2,a3,a4,a5,a6,a7,a8,a9,a10,a11,a12,x1.2.1,x1.2.2.1,x1.2.2.2.1,x1.2.2.2.2.1,x1.2.2.2.2.2.1,x1.2.2.2.2.2.2.1,x1.2.2.2.2.2.2.2.1,x1.2.2.2.2.2.2.2.2.1,x1.2.2.2.2.2.2.2.2.2.1,x1.2.2.2.2.2.2.2.2.2.2.1,x1.2.2.2.2.2.2.2.2.2.2.2,a24,a25,a26,a27,a28))
def zA.v38(κ:Nat)(a0:Int)(a1:ByteArray)(a2 a3:Int)(a4:List zD)(a5:ByteArray)(a6:Int)(a7 a8:Bool)(a9:ByteArray)(a10 a11:Int)(a12:List Int)(a13 a14:Int)(a15:List zD)(a16:ByteArray)(a17:Int)(a18 a19:Bool)(a20:ByteArray)(a21 a22:Int)(a23:List Int)(a24:ByteArray):Option Ty1:=
 some (a2,a3,a4,a5,a6,a7,a8,a9,a10,a11,a12,a13,a14,a15,a16,a17,a18,a19,a20,a21,a22,a23)
def zA.v39(κ:Nat)(a0:Int)(a1:ByteArray)(a2 a3:Int)(a4:List zD)(a5:ByteArray)(a6:Int)(a7 a8:Bool)(a9:ByteArray)(a10 a11:Int)(a12:List Int)(a13 a14:Int)(a15:List zD)(a16:ByteArray)(a17:Int)(a18 a19:Bool)(a20:ByteArray)(a21 a22:Int)(a23:List Int)(a24:ByteArray):Option Ty1:=
 some (a2,a3,a4,a5,a6,a7,a8,a9,a10,a11,a12,a13,a14,a15,a16,a17,a18,a19,a20,a21,a22,a23)
def zA.v40(κ:Nat)(a0:Int)(a1:ByteArray)(a2 a3:Int)(a4:List zD)(a5:ByteArray)(a6:Int)(a7 a8:Bool)(a9:ByteArray)(a10 a11:Int)(a12:List Int)(a13 a14:Int)(a15:List zD)(a16:ByteArray)(a17:Int)(a18 a19:Bool)(a20:ByteArray)(a21 a22:Int)(a23:List Int)(a24:ByteArray):Option Ty1:=
 some (a2,a3,a4,a5,a6,a7,a8,a9,a10,a11,a12,a13,a14,a15,a16,a17,a18,a19,a20,a21,a22,a23)
def zA.v41(κ:Nat)(a0:Int)(a1:ByteArray)(a2 a3:Int)(a4:List zD)(a5:ByteArray)(a6:Int)(a7 a8:Bool)(a9:ByteArray)(a10 a11:Int)(a12:List Int)(a13 a14:Int)(a15:List zD)(a16:ByteArray)(a17:Int)(a18 a19:Bool)(a20:ByteArray)(a21 a22:Int)(a23:List Int)(a24:ByteArray):Option Ty0:=
 Option.bind (Ev.Seat.strings_Cut κ a1 (ByteArray.mk (List.toArray ((32:UInt8)::[])))) fun x0=>
  some (a0,(ByteArray.mk (List.toArray [])),a2,a3,a4,a5,a6,a7,a8,a9,a10,a11,a12,a13,a14,a15,a1,a17,a18,a19,a20,a21,a22,a23,a24)
def zA.v42(κ:Nat)(a0:Int)(a1:ByteArray)(a2 a3:Int)(a4:List zD)(a5:ByteArray)(a6:Int)(a7 a8:Bool)(a9:ByteArray)(a10 a11:Int)(a12:List Int)(a13 a14:Int)(a15:List zD)(a16:ByteArray)(a17:Int)(a18 a19:Bool)(a20:ByteArray)(a21 a22:Int)(a23:List Int)(a24:ByteArray):Option Ty1:=
 some (a2,a3,a4,a5,a6,a7,a8,a9,a10,a11,a12,a13,a14,a15,a16,a17,a18,a19,a20,a21,a22,a23)
def zA.v43(κ:Nat)(a0:Int)(a1:ByteArray)(a2 a3:Int)(a4:List zD)(a5:ByteArray)(a6:Int)(a7 a8:Bool)(a9:ByteArray)(a10 a11:Int)(a12:List Int)(a13 a14:Int)(a15:List zD)(a16:ByteArray)(a17:Int)(a18 a19:Bool)(a20:ByteArray)(a21 a22:Int)(a23:List Int)(a24 a25:ByteArray):Option Ty1:=
 some (a2,a3,a4,a5,a6,a7,a8,a9,a10,a11,a12,a13,a14,a15,a16,a17,a18,a19,a20,a21,a22,a23)
def zA.v44(κ:Nat)(a0:Int)(a1:ByteArray)(a2 a3:Int)(a4:List zD)(a5:ByteArray)(a6:Int)(a7 a8:Bool)(a9:ByteArray)(a10 a11:Int)(a12:List Int)(a13 a14:Int)(a15:List zD)(a16:ByteArray)(a17:Int)(a18 a19:Bool)(a20:ByteArray)(a21 a22:Int)(a23:List Int)(a24 a25:ByteArray):Option Ty1:=
 some (a2,a3,a4,a5,a6,a7,a8,a9,a10,a11,a12,a13,a14,a15,a16,a17,a18,a19,a20,a21,a22,a23)
def zA.v45(κ:Nat)(a0:Int)(a1:ByteArray)(a2 a3:Int)(a4:List zD)(a5:ByteArray)(a6:Int)(a7 a8:Bool)(a9:ByteArray)(a10 a11:Int)(a12:List Int)(a13 a14:Int)(a15:List zD)(a16:ByteArray)(a17:Int)(a18 a19:Bool)(a20:ByteArray)(a21 a22:Int)(a23:List Int)(a24 a25 a26 a27 a28:ByteArray):Option (Ty8⊕Ty3):=
 Option.bind (Ev.Seat.strings_Cut κ a1 (ByteArray.mk (List.toArray ((32:UInt8)::[])))) fun x0=>
  Option.bind (Ev.Seat.vY κ a1 a13 a14 a15 a16 a17 a18 a19 a20 a21 a22 a23) fun x1=>
   bif (!x1.1)then
    some (.inr (Bool.false,(0:Int),(0:Int),(ByteArray.mk (List.toArray [])),(0:Int),Bool.false,Bool.false,(ByteArray.mk (List.toArray [])),(0:Int),(0:Int)))
   else
    some (.inl (a0,(ByteArray.mk (List.toArray [])),a2,a3,a4,a5,a6,a7,a8,a9,a10,a11,a12,x1.2.1,x1.2.2.1,x1.2.2.2.1,x1.2.2.2.2.1,x1.2.2.2.2.2.1,x1.2.2.2.2.2.2.1,x1.2.2.2.2.2.2.2.1,x1.2.2.2.2.2.2.2.2.1,x1.2.2.2.2.2.2.2.2.2.1,x1.2.2.2.2.2.2.2.2.2.2.1,x1.2.2.2.2.2.2.2.2.2.2.2,a24,a25,a26,a27,a28))
def zA.v46(κ:Nat)(a0:Int)(a1:ByteArray)(a2 a3:Int)(a4:List zD)(a5:ByteArray)(a6:Int)(a7 a8:Bool)(a9:ByteArray)(a10 a11:Int)(a12:List Int)(a13 a14:Int)(a15:List zD)(a16:ByteArray)(a17:Int)(a18 a19:Bool)(a20:ByteArray)(a21 a22:Int)(a23:List Int)(a24:ByteArray):Option Ty1:=
 some (a2,a3,a4,a5,a6,a7,a8,a9,a10,a11,a12,a13,a14,a15,a16,a17,a18,a19,a20,a21,a22,a23)
def zA.v47(κ:Nat)(a0:Int)(a1:ByteArray)(a2 a3:Int)(a4:List zD)(a5:ByteArray)(a6:Int)(a7 a8:Bool)(a9:ByteArray)(a10 a11:Int)(a12:List Int)(a13 a14:Int)(a15:List zD)(a16:ByteArray)(a17:Int)(a18 a19:Bool)(a20:ByteArray)(a21 a22:Int)(a23:List Int)(a24 a25 a26 a27 a28:ByteArray):Option Ty1:=
 some (a2,a3,a4,a5,a6,a7,a8,a9,a10,a11,a12,a13,a14,a15,a16,a17,a18,a19,a20,a21,a22,a23)
def zA.v49(κ:Nat)(a0:ByteArray)(a1:Bool)(a2 a3:Int)(a4:List zD)(a5:ByteArray)(a6:Int)(a7 a8:Bool)(a9:ByteArray)(a10 a11:Int)(a12:List Int)(a13 a14:Int)(a15:List zD)(a16:ByteArray)(a17:Int)(a18 a19:Bool)(a20:ByteArray)(a21 a22:Int)(a23:List Int):Option Ty9:=
 bif a1 then
  some ((!(Ev.seq a0 (ByteArray.mk (List.toArray [])))),a13,a14,a15,a16,a17,a18,a19,a20,a21,a22,a23)
 else
  some (Bool.false,a13,a14,a15,a16,a17,a18,a19,a20,a21,a22,a23)
def zA(κ:Nat)(a0:Int)(a1:ByteArray):Option (Int×Int×(List zD)×ByteArray×Int×Bool×Bool×ByteArray×Int×Int×(List Int)×Bool):=
 Option.bind (Ev.Seat.zZ κ a0) fun x0=>
  match x0 with
  | .inl x1=>
   Option.bind (Ev.Seat.zE κ a0 (0:Int) [] (ByteArray.mk (List.toArray [])) (0:Int) Bool.false Bool.false (ByteArray.mk (List.toArray [])) (0:Int) (0:Int) []) fun x2=>
    Option.bind (Ev.Seat.zA.v49 κ x2.1 x2.2 (0:Int) (0:Int) [] (ByteArray.mk (List.toArray [])) (0:Int) Bool.false Bool.false (ByteArray.mk (List.toArray [])) (0:Int) (0:Int) [] a0 (0:Int) [] (ByteArray.mk (List.toArray [])) (0:Int) Bool.false Bool.false (ByteArray.mk (List.toArray [])) (0:Int) (0:Int) []) fun x3=>
     some (x3.2.1,x3.2.2.1,x3.2.2.2.1,x3.2.2.2.2.1,x3.2.2.2.2.2.1,x3.2.2.2.2.2.2.1,x3.2.2.2.2.2.2.2.1,x3.2.2.2.2.2.2.2.2.1,x3.2.2.2.2.2.2.2.2.2.1,x3.2.2.2.2.2.2.2.2.2.2.1,x3.2.2.2.2.2.2.2.2.2.2.2,x3.1)
  | .inr x4=>
   match x4 with
   | .inl x5=>
    Option.bind (Ev.Seat.zA.v1 κ a0 a1 (0:Int) (0:Int) [] (ByteArray.mk (List.toArray [])) (0:Int) Bool.false Bool.false (ByteArray.mk (List.toArray [])) (0:Int) (0:Int) [] a0 (0:Int) [] (ByteArray.mk (List.toArray [])) (0:Int) Bool.false Bool.false (ByteArray.mk (List.toArray [])) (0:Int) (0:Int) [] x5) fun x6=>
     match x6 with
     | .inl x7=>
      Option.bind (qA (Ev.Seat.zA.v12 κ) x7) fun x8=>
       Option.bind (Ev.Seat.zE κ x8.2.2.2.2.2.2.2.2.2.2.2.2.2.1 x8.2.2.2.2.2.2.2.2.2.2.2.2.2.2.1 x8.2.2.2.2.2.2.2.2.2.2.2.2.2.2.2.1 x8.2.2.2.2.2.2.2.2.2.2.2.2.2.2.2.2.1 x8.2.2.2.2.2.2.2.2.2.2.2.2.2.2.2.2.2.1 x8.2.2.2.2.2.2.2.2.2.2.2.2.2.2.2.2.2.2.1 x8.2.2.2.2.2.2.2.2.2.2.2.2.2.2.2.2.2.2.2.1 x8.2.2.2.2.2.2.2.2.2.2.2.2.2.2.2.2.2.2.2.2.1 x8.2.2.2.2.2.2.2.2.2.2.2.2.2.2.2.2.2.2.2.2.2.1 x8.2.2.2.2.2.2.2.2.2.2.2.2.2.2.2.2.2.2.2.2.2.2.1 x8.2.2.2.2.2.2.2.2.2.2.2.2.2.2.2.2.2.2.2.2.2.2.2.1) fun x9=>
        Option.bind (Ev.Seat.zA.v49 κ x9.1 x9.2 x8.2.2.1 x8.2.2.2.1 x8.2.2.2.2.1 x8.2.2.2.2.2.1 x8.2.2.2.2.2.2.1 x8.2.2.2.2.2.2.2.1 x8.2.2.2.2.2.2.2.2.1 x8.2.2.2.2.2.2.2.2.2.1 x8.2.2.2.2.2.2.2.2.2.2.1 x8.2.2.2.2.2.2.2.2.2.2.2.1 x8.2.2.2.2.2.2.2.2.2.2.2.2.1 x8.2.2.2.2.2.2.2.2.2.2.2.2.2.1 x8.2.2.2.2.2.2.2.2.2.2.2.2.2.2.1 x8.2.2.2.2.2.2.2.2.2.2.2.2.2.2.2.1 x8.2.2.2.2.2.2.2.2.2.2.2.2.2.2.2.2.1 x8.2.2.2.2.2.2.2.2.2.2.2.2.2.2.2.2.2.1 x8.2.2.2.2.2.2.2.2.2.2.2.2.2.2.2.2.2.2.1 x8.2.2.2.2.2.2.2.2.2.2.2.2.2.2.2.2.2.2.2.1 x8.2.2.2.2.2.2.2.2.2.2.2.2.2.2.2.2.2.2.2.2.1 x8.2.2.2.2.2.2.2.2.2.2.2.2.2.2.2.2.2.2.2.2.2.1 x8.2.2.2.2.2.2.2.2.2.2.2.2.2.2.2.2.2.2.2.2.2.2.1 x8.2.2.2.2.2.2.2.2.2.2.2.2.2.2.2.2.2.2.2.2.2.2.2.1) fun x10=>
         some (x10.2.1,x10.2.2.1,x10.2.2.2.1,x10.2.2.2.2.1,x10.2.2.2.2.2.1,x10.2.2.2.2.2.2.1,x10.2.2.2.2.2.2.2.1,x10.2.2.2.2.2.2.2.2.1,x10.2.2.2.2.2.2.2.2.2.1,x10.2.2.2.2.2.2.2.2.2.2.1,x10.2.2.2.2.2.2.2.2.2.2.2,x10.1)
     | .inr x11=>
      match x11 with
      | .inl x12=>
       some (x12.2.1,x12.2.2.1,[],x12.2.2.2.1,x12.2.2.2.2.1,x12.2.2.2.2.2.1,x12.2.2.2.2.2.2.1,x12.2.2.2.2.2.2.2.1,x12.2.2.2.2.2.2.2.2.1,x12.2.2.2.2.2.2.2.2.2,[],x12.1)
      | .inr x13=>
       Option.bind (Ev.Seat.zE κ x13.2.2.2.2.2.2.2.2.2.2.2.1 x13.2.2.2.2.2.2.2.2.2.2.2.2.1 x13.2.2.2.2.2.2.2.2.2.2.2.2.2.1 x13.2.2.2.2.2.2.2.2.2.2.2.2.2.2.1 x13.2.2.2.2.2.2.2.2.2.2.2.2.2.2.2.1 x13.2.2.2.2.2.2.2.2.2.2.2.2.2.2.2.2.1 x13.2.2.2.2.2.2.2.2.2.2.2.2.2.2.2.2.2.1 x13.2.2.2.2.2.2.2.2.2.2.2.2.2.2.2.2.2.2.1 x13.2.2.2.2.2.2.2.2.2.2.2.2.2.2.2.2.2.2.2.1 x13.2.2.2.2.2.2.2.2.2.2.2.2.2.2.2.2.2.2.2.2.1 x13.2.2.2.2.2.2.2.2.2.2.2.2.2.2.2.2.2.2.2.2.2) fun x14=>
        Option.bind (Ev.Seat.zA.v49 κ x14.1 x14.2 x13.1 x13.2.1 x13.2.2.1 x13.2.2.2.1 x13.2.2.2.2.1 x13.2.2.2.2.2.1 x13.2.2.2.2.2.2.1 x13.2.2.2.2.2.2.2.1 x13.2.2.2.2.2.2.2.2.1 x13.2.2.2.2.2.2.2.2.2.1 x13.2.2.2.2.2.2.2.2.2.2.1 x13.2.2.2.2.2.2.2.2.2.2.2.1 x13.2.2.2.2.2.2.2.2.2.2.2.2.1 x13.2.2.2.2.2.2.2.2.2.2.2.2.2.1 x13.2.2.2.2.2.2.2.2.2.2.2.2.2.2.1 x13.2.2.2.2.2.2.2.2.2.2.2.2.2.2.2.1 x13.2.2.2.2.2.2.2.2.2.2.2.2.2.2.2.2.1 x13.2.2.2.2.2.2.2.2.2.2.2.2.2.2.2.2.2.1 x13.2.2.2.2.2.2.2.2.2.2.2.2.2.2.2.2.2.2.1 x13.2.2.2.2.2.2.2.2.2.2.2.2.2.2.2.2.2.2.2.1 x13.2.2.2.2.2.2.2.2.2.2.2.2.2.2.2.2.2.2.2.2.1 x13.2.2.2.2.2.2.2.2.2.2.2.2.2.2.2.2.2.2.2.2.2) fun x15=>
         some (x15.2.1,x15.2.2.1,x15.2.2.2.1,x15.2.2.2.2.1,x15.2.2.2.2.2.1,x15.2.2.2.2.2.2.1,x15.2.2.2.2.2.2.2.1,x15.2.2.2.2.2.2.2.2.1,x15.2.2.2.2.2.2.2.2.2.1,x15.2.2.2.2.2.2.2.2.2.2.1,x15.2.2.2.2.2.2.2.2.2.2.2,x15.1)
   | .inr x16=>
    match x16 with
    | .inl x17=>
     Option.bind (Ev.Seat.zA.v2 κ a0 a1 (0:Int) (0:Int) [] (ByteArray.mk (List.toArray [])) (0:Int) Bool.false Bool.false (ByteArray.mk (List.toArray [])) (0:Int) (0:Int) [] a0 (0:Int) [] (ByteArray.mk (List.toArray [])) (0:Int) Bool.false Bool.false (ByteArray.mk (List.toArray [])) (0:Int) (0:Int) [] x17) fun x18=>
      match x18 with
      | .inl x19=>
       Option.bind (qA (Ev.Seat.zA.v13 κ) x19) fun x20=>
        match x20 with
        | .inl x21=>
         Option.bind (Ev.Seat.zE κ x21.2.2.2.2.2.2.2.2.2.2.2.2.2.1 x21.2.2.2.2.2.2.2.2.2.2.2.2.2.2.1 x21.2.2.2.2.2.2.2.2.2.2.2.2.2.2.2.1 x21.2.2.2.2.2.2.2.2.2.2.2.2.2.2.2.2.1 x21.2.2.2.2.2.2.2.2.2.2.2.2.2.2.2.2.2.1 x21.2.2.2.2.2.2.2.2.2.2.2.2.2.2.2.2.2.2.1 x21.2.2.2.2.2.2.2.2.2.2.2.2.2.2.2.2.2.2.2.1 x21.2.2.2.2.2.2.2.2.2.2.2.2.2.2.2.2.2.2.2.2.1 x21.2.2.2.2.2.2.2.2.2.2.2.2.2.2.2.2.2.2.2.2.2.1 x21.2.2.2.2.2.2.2.2.2.2.2.2.2.2.2.2.2.2.2.2.2.2.1 x21.2.2.2.2.2.2.2.2.2.2.2.2.2.2.2.2.2.2.2.2.2.2.2.1) fun x22=>
          Option.bind (Ev.Seat.zA.v49 κ x22.1 x22.2 x21.2.2.1 x21.2.2.2.1 x21.2.2.2.2.1 x21.2.2.2.2.2.1 x21.2.2.2.2.2.2.1 x21.2.2.2.2.2.2.2.1 x21.2.2.2.2.2.2.2.2.1 x21.2.2.2.2.2.2.2.2.2.1 x21.2.2.2.2.2.2.2.2.2.2.1 x21.2.2.2.2.2.2.2.2.2.2.2.1 x21.2.2.2.2.2.2.2.2.2.2.2.2.1 x21.2.2.2.2.2.2.2.2.2.2.2.2.2.1 x21.2.2.2.2.2.2.2.2.2.2.2.2.2.2.1 x21.2.2.2.2.2.2.2.2.2.2.2.2.2.2.2.1 x21.2.2.2.2.2.2.2.2.2.2.2.2.2.2.2.2.1 x21.2.2.2.2.2.2.2.2.2.2.2.2.2.2.2.2.2.1 x21.2.2.2.2.2.2.2.2.2.2.2.2.2.2.2.2.2.2.1 x21.2.2.2.2.2.2.2.2.2.2.2.2.2.2.2.2.2.2.2.1 x21.2.2.2.2.2.2.2.2.2.2.2.2.2.2.2.2.2.2.2.2.1 x21.2.2.2.2.2.2.2.2.2.2.2.2.2.2.2.2.2.2.2.2.2.1 x21.2.2.2.2.2.2.2.2.2.2.2.2.2.2.2.2.2.2.2.2.2.2.1 x21.2.2.2.2.2.2.2.2.2.2.2.2.2.2.2.2.2.2.2.2.2.2.2.1) fun x23=>
           some (x23.2.1,x23.2.2.1,x23.2.2.2.1,x23.2.2.2.2.1,x23.2.2.2.2.2.1,x23.2.2.2.2.2.2.1,x23.2.2.2.2.2.2.2.1,x23.2.2.2.2.2.2.2.2.1,x23.2.2.2.2.2.2.2.2.2.1,x23.2.2.2.2.2.2.2.2.2.2.1,x23.2.2.2.2.2.2.2.2.2.2.2,x23.1)
        | .inr x24=>
         some (x24.2.1,x24.2.2.1,[],x24.2.2.2.1,x24.2.2.2.2.1,x24.2.2.2.2.2.1,x24.2.2.2.2.2.2.1,x24.2.2.2.2.2.2.2.1,x24.2.2.2.2.2.2.2.2.1,x24.2.2.2.2.2.2.2.2.2,[],x24.1)
      | .inr x25=>
       match x25 with
       | .inl x26=>
        some (x26.2.1,x26.2.2.1,[],x26.2.2.2.1,x26.2.2.2.2.1,x26.2.2.2.2.2.1,x26.2.2.2.2.2.2.1,x26.2.2.2.2.2.2.2.1,x26.2.2.2.2.2.2.2.2.1,x26.2.2.2.2.2.2.2.2.2,[],x26.1)
       | .inr x27=>
        Option.bind (Ev.Seat.zE κ x27.2.2.2.2.2.2.2.2.2.2.2.1 x27.2.2.2.2.2.2.2.2.2.2.2.2.1 x27.2.2.2.2.2.2.2.2.2.2.2.2.2.1 x27.2.2.2.2.2.2.2.2.2.2.2.2.2.2.1 x27.2.2.2.2.2.2.2.2.2.2.2.2.2.2.2.1 x27.2.2.2.2.2.2.2.2.2.2.2.2.2.2.2.2.1 x27.2.2.2.2.2.2.2.2.2.2.2.2.2.2.2.2.2.1 x27.2.2.2.2.2.2.2.2.2.2.2.2.2.2.2.2.2.2.1 x27.2.2.2.2.2.2.2.2.2.2.2.2.2.2.2.2.2.2.2.1 x27.2.2.2.2.2.2.2.2.2.2.2.2.2.2.2.2.2.2.2.2.1 x27.2.2.2.2.2.2.2.2.2.2.2.2.2.2.2.2.2.2.2.2.2) fun x28=>
         Option.bind (Ev.Seat.zA.v49 κ x28.1 x28.2 x27.1 x27.2.1 x27.2.2.1 x27.2.2.2.1 x27.2.2.2.2.1 x27.2.2.2.2.2.1 x27.2.2.2.2.2.2.1 x27.2.2.2.2.2.2.2.1 x27.2.2.2.2.2.2.2.2.1 x27.2.2.2.2.2.2.2.2.2.1 x27.2.2.2.2.2.2.2.2.2.2.1 x27.2.2.2.2.2.2.2.2.2.2.2.1 x27.2.2.2.2.2.2.2.2.2.2.2.2.1 x27.2.2.2.2.2.2.2.2.2.2.2.2.2.1 x27.2.2.2.2.2.2.2.2.2.2.2.2.2.2.1 x27.2.2.2.2.2.2.2.2.2.2.2.2.2.2.2.1 x27.2.2.2.2.2.2.2.2.2.2.2.2.2.2.2.2.1 x27.2.2.2.2.2.2.2.2.2.2.2.2.2.2.2.2.2.1 x27.2.2.2.2.2.2.2.2.2.2.2.2.2.2.2.2.2.2.1 x27.2.2.2.2.2.2.2.2.2.2.2.2.2.2.2.2.2.2.2.1 x27.2.2.2.2.2.2.2.2.2.2.2.2.2.2.2.2.2.2.2.2.1 x27.2.2.2.2.2.2.2.2.2.2.2.2.2.2.2.2.2.2.2.2.2) fun x29=>
          some (x29.2.1,x29.2.2.1,x29.2.2.2.1,x29.2.2.2.2.1,x29.2.2.2.2.2.1,x29.2.2.2.2.2.2.1,x29.2.2.2.2.2.2.2.1,x29.2.2.2.2.2.2.2.2.1,x29.2.2.2.2.2.2.2.2.2.1,x29.2.2.2.2.2.2.2.2.2.2.1,x29.2.2.2.2.2.2.2.2.2.2.2,x29.1)
    | .inr x30=>
     match x30 with
     | .inl x31=>
      Option.bind (Ev.Seat.zA.v3 κ a0 a1 (0:Int) (0:Int) [] (ByteArray.mk (List.toArray [])) (0:Int) Bool.false Bool.false (ByteArray.mk (List.toArray [])) (0:Int) (0:Int) [] a0 (0:Int) [] (ByteArray.mk (List.toArray [])) (0:Int) Bool.false Bool.false (ByteArray.mk (List.toArray [])) (0:Int) (0:Int) [] x31) fun x32=>
       match x32 with
       | .inl x33=>
        Option.bind (qA (Ev.Seat.zA.v14 κ) x33) fun x34=>
         match x34 with
         | .inl x35=>
          Option.bind (qA (Ev.Seat.zA.v25 κ) x35) fun x36=>
           match x36 with
           | .inl x37=>
            Option.bind (qA (Ev.Seat.zA.v34 κ) x37) fun x38=>
             match x38 with
             | .inl x39=>
              Option.bind (Ev.Seat.zE κ x39.2.2.2.2.2.2.2.2.2.2.2.2.2.1 x39.2.2.2.2.2.2.2.2.2.2.2.2.2.2.1 x39.2.2.2.2.2.2.2.2.2.2.2.2.2.2.2.1 x39.2.2.2.2.2.2.2.2.2.2.2.2.2.2.2.2.1 x39.2.2.2.2.2.2.2.2.2.2.2.2.2.2.2.2.2.1 x39.2.2.2.2.2.2.2.2.2.2.2.2.2.2.2.2.2.2.1 x39.2.2.2.2.2.2.2.2.2.2.2.2.2.2.2.2.2.2.2.1 x39.2.2.2.2.2.2.2.2.2.2.2.2.2.2.2.2.2.2.2.2.1 x39.2.2.2.2.2.2.2.2.2.2.2.2.2.2.2.2.2.2.2.2.2.1 x39.2.2.2.2.2.2.2.2.2.2.2.2.2.2.2.2.2.2.2.2.2.2.1 x39.2.2.2.2.2.2.2.2.2.2.2.2.2.2.2.2.2.2.2.2.2.2.2.1) fun x40=>
               Option.bind (Ev.Seat.zA.v49 κ x40.1 x40.2 x39.2.2.1 x39.2.2.2.1 x39.2.2.2.2.1 x39.2.2.2.2.2.1 x39.2.2.2.2.2.2.1 x39.2.2.2.2.2.2.2.1 x39.2.2.2.2.2.2.2.2.1 x39.2.2.2.2.2.2.2.2.2.1 x39.2.2.2.2.2.2.2.2.2.2.1 x39.2.2.2.2.2.2.2.2.2.2.2.1 x39.2.2.2.2.2.2.2.2.2.2.2.2.1 x39.2.2.2.2.2.2.2.2.2.2.2.2.2.1 x39.2.2.2.2.2.2.2.2.2.2.2.2.2.2.1 x39.2.2.2.2.2.2.2.2.2.2.2.2.2.2.2.1 x39.2.2.2.2.2.2.2.2.2.2.2.2.2.2.2.2.1 x39.2.2.2.2.2.2.2.2.2.2.2.2.2.2.2.2.2.1 x39.2.2.2.2.2.2.2.2.2.2.2.2.2.2.2.2.2.2.1 x39.2.2.2.2.2.2.2.2.2.2.2.2.2.2.2.2.2.2.2.1 x39.2.2.2.2.2.2.2.2.2.2.2.2.2.2.2.2.2.2.2.2.1 x39.2.2.2.2.2.2.2.2.2.2.2.2.2.2.2.2.2.2.2.2.2.1 x39.2.2.2.2.2.2.2.2.2.2.2.2.2.2.2.2.2.2.2.2.2.2.1 x39.2.2.2.2.2.2.2.2.2.2.2.2.2.2.2.2.2.2.2.2.2.2.2.1) fun x41=>
                some (x41.2.1,x41.2.2.1,x41.2.2.2.1,x41.2.2.2.2.1,x41.2.2.2.2.2.1,x41.2.2.2.2.2.2.1,x41.2.2.2.2.2.2.2.1,x41.2.2.2.2.2.2.2.2.1,x41.2.2.2.2.2.2.2.2.2.1,x41.2.2.2.2.2.2.2.2.2.2.1,x41.2.2.2.2.2.2.2.2.2.2.2,x41.1)
             | .inr x42=>
              some (x42.2.1,x42.2.2.1,[],x42.2.2.2.1,x42.2.2.2.2.1,x42.2.2.2.2.2.1,x42.2.2.2.2.2.2.1,x42.2.2.2.2.2.2.2.1,x42.2.2.2.2.2.2.2.2.1,x42.2.2.2.2.2.2.2.2.2,[],x42.1)
           | .inr x43=>
            some (x43.2.1,x43.2.2.1,[],x43.2.2.2.1,x43.2.2.2.2.1,x43.2.2.2.2.2.1,x43.2.2.2.2.2.2.1,x43.2.2.2.2.2.2.2.1,x43.2.2.2.2.2.2.2.2.1,x43.2.2.2.2.2.2.2.2.2,[],x43.1)
         | .inr x44=>
          some (x44.2.1,x44.2.2.1,[],x44.2.2.2.1,x44.2.2.2.2.1,x44.2.2.2.2.2.1,x44.2.2.2.2.2.2.1,x44.2.2.2.2.2.2.2.1,x44.2.2.2.2.2.2.2.2.1,x44.2.2.2.2.2.2.2.2.2,[],x44.1)
       | .inr x45=>
        some (x45.2.1,x45.2.2.1,[],x45.2.2.2.1,x45.2.2.2.2.1,x45.2.2.2.2.2.1,x45.2.2.2.2.2.2.1,x45.2.2.2.2.2.2.2.1,x45.2.2.2.2.2.2.2.2.1,x45.2.2.2.2.2.2.2.2.2,[],x45.1)
     | .inr x46=>
      match x46 with
      | .inl x47=>
       Option.bind (Ev.Seat.zA.v4 κ a0 a1 (0:Int) (0:Int) [] (ByteArray.mk (List.toArray [])) (0:Int) Bool.false Bool.false (ByteArray.mk (List.toArray [])) (0:Int) (0:Int) [] a0 (0:Int) [] (ByteArray.mk (List.toArray [])) (0:Int) Bool.false Bool.false (ByteArray.mk (List.toArray [])) (0:Int) (0:Int) [] x47.1 x47.2) fun x48=>
        match x48 with
        | .inl x49=>
         Option.bind (zBU (Ev.Seat.zA.v15 κ) x49) fun x50=>
          match x50 with
          | .inl x51=>
           Option.bind (zBU (Ev.Seat.zA.v26 κ) x51) fun x52=>
            match x52 with
            | .inl x53=>
             Option.bind (zBU (Ev.Seat.zA.v35 κ) x53) fun x54=>
              match x54 with
              | .inl x55=>
               Option.bind (Ev.Seat.zE κ x55.2.2.2.2.2.2.2.2.2.2.2.2.2.1 x55.2.2.2.2.2.2.2.2.2.2.2.2.2.2.1 x55.2.2.2.2.2.2.2.2.2.2.2.2.2.2.2.1 x55.2.2.2.2.2.2.2.2.2.2.2.2.2.2.2.2.1 x55.2.2.2.2.2.2.2.2.2.2.2.2.2.2.2.2.2.1 x55.2.2.2.2.2.2.2.2.2.2.2.2.2.2.2.2.2.2.1 x55.2.2.2.2.2.2.2.2.2.2.2.2.2.2.2.2.2.2.2.1 x55.2.2.2.2.2.2.2.2.2.2.2.2.2.2.2.2.2.2.2.2.1 x55.2.2.2.2.2.2.2.2.2.2.2.2.2.2.2.2.2.2.2.2.2.1 x55.2.2.2.2.2.2.2.2.2.2.2.2.2.2.2.2.2.2.2.2.2.2.1 x55.2.2.2.2.2.2.2.2.2.2.2.2.2.2.2.2.2.2.2.2.2.2.2.1) fun x56=>
                Option.bind (Ev.Seat.zA.v49 κ x56.1 x56.2 x55.2.2.1 x55.2.2.2.1 x55.2.2.2.2.1 x55.2.2.2.2.2.1 x55.2.2.2.2.2.2.1 x55.2.2.2.2.2.2.2.1 x55.2.2.2.2.2.2.2.2.1 x55.2.2.2.2.2.2.2.2.2.1 x55.2.2.2.2.2.2.2.2.2.2.1 x55.2.2.2.2.2.2.2.2.2.2.2.1 x55.2.2.2.2.2.2.2.2.2.2.2.2.1 x55.2.2.2.2.2.2.2.2.2.2.2.2.2.1 x55.2.2.2.2.2.2.2.2.2.2.2.2.2.2.1 x55.2.2.2.2.2.2.2.2.2.2.2.2.2.2.2.1 x55.2.2.2.2.2.2.2.2.2.2.2.2.2.2.2.2.1 x55.2.2.2.2.2.2.2.2.2.2.2.2.2.2.2.2.2.1 x55.2.2.2.2.2.2.2.2.2.2.2.2.2.2.2.2.2.2.1 x55.2.2.2.2.2.2.2.2.2.2.2.2.2.2.2.2.2.2.2.1 x55.2.2.2.2.2.2.2.2.2.2.2.2.2.2.2.2.2.2.2.2.1 x55.2.2.2.2.2.2.2.2.2.2.2.2.2.2.2.2.2.2.2.2.2.1 x55.2.2.2.2.2.2.2.2.2.2.2.2.2.2.2.2.2.2.2.2.2.2.1 x55.2.2.2.2.2.2.2.2.2.2.2.2.2.2.2.2.2.2.2.2.2.2.2.1) fun x57=>
                 some (x57.2.1,x57.2.2.1,x57.2.2.2.1,x57.2.2.2.2.1,x57.2.2.2.2.2.1,x57.2.2.2.2.2.2.1,x57.2.2.2.2.2.2.2.1,x57.2.2.2.2.2.2.2.2.1,x57.2.2.2.2.2.2.2.2.2.1,x57.2.2.2.2.2.2.2.2.2.2.1,x57.2.2.2.2.2.2.2.2.2.2.2,x57.1)
              | .inr x58=>
               some (x58.2.1,x58.2.2.1,[],x58.2.2.2.1,x58.2.2.2.2.1,x58.2.2.2.2.2.1,x58.2.2.2.2.2.2.1,x58.2.2.2.2.2.2.2.1,x58.2.2.2.2.2.2.2.2.1,x58.2.2.2.2.2.2.2.2.2,[],x58.1)
            | .inr x59=>
             match x59 with
             | .inl x60=>
              some (x60.2.1,x60.2.2.1,[],x60.2.2.2.1,x60.2.2.2.2.1,x60.2.2.2.2.2.1,x60.2.2.2.2.2.2.1,x60.2.2.2.2.2.2.2.1,x60.2.2.2.2.2.2.2.2.1,x60.2.2.2.2.2.2.2.2.2,[],x60.1)
             | .inr x61=>
              Option.bind (Ev.Seat.zE κ x61.2.2.2.2.2.2.2.2.2.2.2.1 x61.2.2.2.2.2.2.2.2.2.2.2.2.1 x61.2.2.2.2.2.2.2.2.2.2.2.2.2.1 x61.2.2.2.2.2.2.2.2.2.2.2.2.2.2.1 x61.2.2.2.2.2.2.2.2.2.2.2.2.2.2.2.1 x61.2.2.2.2.2.2.2.2.2.2.2.2.2.2.2.2.1 x61.2.2.2.2.2.2.2.2.2.2.2.2.2.2.2.2.2.1 x61.2.2.2.2.2.2.2.2.2.2.2.2.2.2.2.2.2.2.1 x61.2.2.2.2.2.2.2.2.2.2.2.2.2.2.2.2.2.2.2.1 x61.2.2.2.2.2.2.2.2.2.2.2.2.2.2.2.2.2.2.2.2.1 x61.2.2.2.2.2.2.2.2.2.2.2.2.2.2.2.2.2.2.2.2.2) fun x62=>
               Option.bind (Ev.Seat.zA.v49 κ x62.1 x62.2 x61.1 x61.2.1 x61.2.2.1 x61.2.2.2.1 x61.2.2.2.2.1 x61.2.2.2.2.2.1 x61.2.2.2.2.2.2.1 x61.2.2.2.2.2.2.2.1 x61.2.2.2.2.2.2.2.2.1 x61.2.2.2.2.2.2.2.2.2.1 x61.2.2.2.2.2.2.2.2.2.2.1 x61.2.2.2.2.2.2.2.2.2.2.2.1 x61.2.2.2.2.2.2.2.2.2.2.2.2.1 x61.2.2.2.2.2.2.2.2.2.2.2.2.2.1 x61.2.2.2.2.2.2.2.2.2.2.2.2.2.2.1 x61.2.2.2.2.2.2.2.2.2.2.2.2.2.2.2.1 x61.2.2.2.2.2.2.2.2.2.2.2.2.2.2.2.2.1 x61.2.2.2.2.2.2.2.2.2.2.2.2.2.2.2.2.2.1 x61.2.2.2.2.2.2.2.2.2.2.2.2.2.2.2.2.2.2.1 x61.2.2.2.2.2.2.2.2.2.2.2.2.2.2.2.2.2.2.2.1 x61.2.2.2.2.2.2.2.2.2.2.2.2.2.2.2.2.2.2.2.2.1 x61.2.2.2.2.2.2.2.2.2.2.2.2.2.2.2.2.2.2.2.2.2) fun x63=>
                some (x63.2.1,x63.2.2.1,x63.2.2.2.1,x63.2.2.2.2.1,x63.2.2.2.2.2.1,x63.2.2.2.2.2.2.1,x63.2.2.2.2.2.2.2.1,x63.2.2.2.2.2.2.2.2.1,x63.2.2.2.2.2.2.2.2.2.1,x63.2.2.2.2.2.2.2.2.2.2.1,x63.2.2.2.2.2.2.2.2.2.2.2,x63.1)
          | .inr x64=>
           some (x64.2.1,x64.2.2.1,[],x64.2.2.2.1,x64.2.2.2.2.1,x64.2.2.2.2.2.1,x64.2.2.2.2.2.2.1,x64.2.2.2.2.2.2.2.1,x64.2.2.2.2.2.2.2.2.1,x64.2.2.2.2.2.2.2.2.2,[],x64.1)
        | .inr x65=>
         some (x65.2.1,x65.2.2.1,[],x65.2.2.2.1,x65.2.2.2.2.1,x65.2.2.2.2.2.1,x65.2.2.2.2.2.2.1,x65.2.2.2.2.2.2.2.1,x65.2.2.2.2.2.2.2.2.1,x65.2.2.2.2.2.2.2.2.2,[],x65.1)
      | .inr x66=>
       match x66 with
       | .inl x67=>
        Option.bind (Ev.Seat.zA.v5 κ a0 a1 (0:Int) (0:Int) [] (ByteArray.mk (List.toArray [])) (0:Int) Bool.false Bool.false (ByteArray.mk (List.toArray [])) (0:Int) (0:Int) [] a0 (0:Int) [] (ByteArray.mk (List.toArray [])) (0:Int) Bool.false Bool.false (ByteArray.mk (List.toArray [])) (0:Int) (0:Int) [] x67.1 x67.2) fun x68=>
         match x68 with
         | .inl x69=>
          Option.bind (zBU (Ev.Seat.zA.v16 κ) x69) fun x70=>
           match x70 with
           | .inl x71=>
            Option.bind (zBU (Ev.Seat.zA.v27 κ) x71) fun x72=>
             match x72 with
             | .inl x73=>
              Option.bind (zBU (Ev.Seat.zA.v36 κ) x73) fun x74=>
               match x74 with
               | .inl x75=>
                Option.bind (Ev.Seat.zE κ x75.2.2.2.2.2.2.2.2.2.2.2.2.2.1 x75.2.2.2.2.2.2.2.2.2.2.2.2.2.2.1 x75.2.2.2.2.2.2.2.2.2.2.2.2.2.2.2.1 x75.2.2.2.2.2.2.2.2.2.2.2.2.2.2.2.2.1 x75.2.2.2.2.2.2.2.2.2.2.2.2.2.2.2.2.2.1 x75.2.2.2.2.2.2.2.2.2.2.2.2.2.2.2.2.2.2.1 x75.2.2.2.2.2.2.2.2.2.2.2.2.2.2.2.2.2.2.2.1 x75.2.2.2.2.2.2.2.2.2.2.2.2.2.2.2.2.2.2.2.2.1 x75.2.2.2.2.2.2.2.2.2.2.2.2.2.2.2.2.2.2.2.2.2.1 x75.2.2.2.2.2.2.2.2.2.2.2.2.2.2.2.2.2.2.2.2.2.2.1 x75.2.2.2.2.2.2.2.2.2.2.2.2.2.2.2.2.2.2.2.2.2.2.2.1) fun x76=>
                 Option.bind (Ev.Seat.zA.v49 κ x76.1 x76.2 x75.2.2.1 x75.2.2.2.1 x75.2.2.2.2.1 x75.2.2.2.2.2.1 x75.2.2.2.2.2.2.1 x75.2.2.2.2.2.2.2.1 x75.2.2.2.2.2.2.2.2.1 x75.2.2.2.2.2.2.2.2.2.1 x75.2.2.2.2.2.2.2.2.2.2.1 x75.2.2.2.2.2.2.2.2.2.2.2.1 x75.2.2.2.2.2.2.2.2.2.2.2.2.1 x75.2.2.2.2.2.2.2.2.2.2.2.2.2.1 x75.2.2.2.2.2.2.2.2.2.2.2.2.2.2.1 x75.2.2.2.2.2.2.2.2.2.2.2.2.2.2.2.1 x75.2.2.2.2.2.2.2.2.2.2.2.2.2.2.2.2.1 x75.2.2.2.2.2.2.2.2.2.2.2.2.2.2.2.2.2.1 x75.2.2.2.2.2.2.2.2.2.2.2.2.2.2.2.2.2.2.1 x75.2.2.2.2.2.2.2.2.2.2.2.2.2.2.2.2.2.2.2.1 x75.2.2.2.2.2.2.2.2.2.2.2.2.2.2.2.2.2.2.2.2.1 x75.2.2.2.2.2.2.2.2.2.2.2.2.2.2.2.2.2.2.2.2.2.1 x75.2.2.2.2.2.2.2.2.2.2.2.2.2.2.2.2.2.2.2.2.2.2.1 x75.2.2.2.2.2.2.2.2.2.2.2.2.2.2.2.2.2.2.2.2.2.2.2.1) fun x77=>
                  some (x77.2.1,x77.2.2.1,x77.2.2.2.1,x77.2.2.2.2.1,x77.2.2.2.2.2.1,x77.2.2.2.2.2.2.1,x77.2.2.2.2.2.2.2.1,x77.2.2.2.2.2.2.2.2.1,x77.2.2.2.2.2.2.2.2.2.1,x77.2.2.2.2.2.2.2.2.2.2.1,x77.2.2.2.2.2.2.2.2.2.2.2,x77.1)
               | .inr x78=>
                some (x78.2.1,x78.2.2.1,[],x78.2.2.2.1,x78.2.2.2.2.1,x78.2.2.2.2.2.1,x78.2.2.2.2.2.2.1,x78.2.2.2.2.2.2.2.1,x78.2.2.2.2.2.2.2.2.1,x78.2.2.2.2.2.2.2.2.2,[],x78.1)
             | .inr x79=>
              match x79 with
              | .inl x80=>
               some (x80.2.1,x80.2.2.1,[],x80.2.2.2.1,x80.2.2.2.2.1,x80.2.2.2.2.2.1,x80.2.2.2.2.2.2.1,x80.2.2.2.2.2.2.2.1,x80.2.2.2.2.2.2.2.2.1,x80.2.2.2.2.2.2.2.2.2,[],x80.1)
              | .inr x81=>
               Option.bind (Ev.Seat.zE κ x81.2.2.2.2.2.2.2.2.2.2.2.1 x81.2.2.2.2.2.2.2.2.2.2.2.2.1 x81.2.2.2.2.2.2.2.2.2.2.2.2.2.1 x81.2.2.2.2.2.2.2.2.2.2.2.2.2.2.1 x81.2.2.2.2.2.2.2.2.2.2.2.2.2.2.2.1 x81.2.2.2.2.2.2.2.2.2.2.2.2.2.2.2.2.1 x81.2.2.2.2.2.2.2.2.2.2.2.2.2.2.2.2.2.1 x81.2.2.2.2.2.2.2.2.2.2.2.2.2.2.2.2.2.2.1 x81.2.2.2.2.2.2.2.2.2.2.2.2.2.2.2.2.2.2.2.1 x81.2.2.2.2.2.2.2.2.2.2.2.2.2.2.2.2.2.2.2.2.1 x81.2.2.2.2.2.2.2.2.2.2.2.2.2.2.2.2.2.2.2.2.2) fun x82=>
                Option.bind (Ev.Seat.zA.v49 κ x82.1 x82.2 x81.1 x81.2.1 x81.2.2.1 x81.2.2.2.1 x81.2.2.2.2.1 x81.2.2.2.2.2.1 x81.2.2.2.2.2.2.1 x81.2.2.2.2.2.2.2.1 x81.2.2.2.2.2.2.2.2.1 x81.2.2.2.2.2.2.2.2.2.1 x81.2.2.2.2.2.2.2.2.2.2.1 x81.2.2.2.2.2.2.2.2.2.2.2.1 x81.2.2.2.2.2.2.2.2.2.2.2.2.1 x81.2.2.2.2.2.2.2.2.2.2.2.2.2.1 x81.2.2.2.2.2.2.2.2.2.2.2.2.2.2.1 x81.2.2.2.2.2.2.2.2.2.2.2.2.2.2.2.1 x81.2.2.2.2.2.2.2.2.2.2.2.2.2.2.2.2.1 x81.2.2.2.2.2.2.2.2.2.2.2.2.2.2.2.2.2.1 x81.2.2.2.2.2.2.2.2.2.2.2.2.2.2.2.2.2.2.1 x81.2.2.2.2.2.2.2.2.2.2.2.2.2.2.2.2.2.2.2.1 x81.2.2.2.2.2.2.2.2.2.2.2.2.2.2.2.2.2.2.2.2.1 x81.2.2.2.2.2.2.2.2.2.2.2.2.2.2.2.2.2.2.2.2.2) fun x83=>
                 some (x83.2.1,x83.2.2.1,x83.2.2.2.1,x83.2.2.2.2.1,x83.2.2.2.2.2.1,x83.2.2.2.2.2.2.1,x83.2.2.2.2.2.2.2.1,x83.2.2.2.2.2.2.2.2.1,x83.2.2.2.2.2.2.2.2.2.1,x83.2.2.2.2.2.2.2.2.2.2.1,x83.2.2.2.2.2.2.2.2.2.2.2,x83.1)
           | .inr x84=>
            some (x84.2.1,x84.2.2.1,[],x84.2.2.2.1,x84.2.2.2.2.1,x84.2.2.2.2.2.1,x84.2.2.2.2.2.2.1,x84.2.2.2.2.2.2.2.1,x84.2.2.2.2.2.2.2.2.1,x84.2.2.2.2.2.2.2.2.2,[],x84.1)
         | .inr x85=>
          some (x85.2.1,x85.2.2.1,[],x85.2.2.2.1,x85.2.2.2.2.1,x85.2.2.2.2.2.1,x85.2.2.2.2.2.2.1,x85.2.2.2.2.2.2.2.1,x85.2.2.2.2.2.2.2.2.1,x85.2.2.2.2.2.2.2.2.2,[],x85.1)
       | .inr x86=>
        match x86 with
        | .inl x87=>
         Option.bind (Ev.Seat.zA.v6 κ a0 a1 (0:Int) (0:Int) [] (ByteArray.mk (List.toArray [])) (0:Int) Bool.false Bool.false (ByteArray.mk (List.toArray [])) (0:Int) (0:Int) [] a0 (0:Int) [] (ByteArray.mk (List.toArray [])) (0:Int) Bool.false Bool.false (ByteArray.mk (List.toArray [])) (0:Int) (0:Int) [] x87.1 x87.2.1 x87.2.2.1 x87.2.2.2.1 x87.2.2.2.2) fun x88=>
          match x88 with
          | .inl x89=>
           Option.bind (zNC (Ev.Seat.zA.v17 κ) x89) fun x90=>
            match x90 with
            | .inl x91=>
             Option.bind (zNC (Ev.Seat.zA.v28 κ) x91) fun x92=>
              match x92 with
              | .inl x93=>
               Option.bind (zNC (Ev.Seat.zA.v37 κ) x93) fun x94=>
                match x94 with
                | .inl x95=>
                 Option.bind (zNC (Ev.Seat.zA.v45 κ) x95) fun x96=>
                  match x96 with
                  | .inl x97=>
                   Option.bind (Ev.Seat.zE κ x97.2.2.2.2.2.2.2.2.2.2.2.2.2.1 x97.2.2.2.2.2.2.2.2.2.2.2.2.2.2.1 x97.2.2.2.2.2.2.2.2.2.2.2.2.2.2.2.1 x97.2.2.2.2.2.2.2.2.2.2.2.2.2.2.2.2.1 x97.2.2.2.2.2.2.2.2.2.2.2.2.2.2.2.2.2.1 x97.2.2.2.2.2.2.2.2.2.2.2.2.2.2.2.2.2.2.1 x97.2.2.2.2.2.2.2.2.2.2.2.2.2.2.2.2.2.2.2.1 x97.2.2.2.2.2.2.2.2.2.2.2.2.2.2.2.2.2.2.2.2.1 x97.2.2.2.2.2.2.2.2.2.2.2.2.2.2.2.2.2.2.2.2.2.1 x97.2.2.2.2.2.2.2.2.2.2.2.2.2.2.2.2.2.2.2.2.2.2.1 x97.2.2.2.2.2.2.2.2.2.2.2.2.2.2.2.2.2.2.2.2.2.2.2.1) fun x98=>
                    Option.bind (Ev.Seat.zA.v49 κ x98.1 x98.2 x97.2.2.1 x97.2.2.2.1 x97.2.2.2.2.1 x97.2.2.2.2.2.1 x97.2.2.2.2.2.2.1 x97.2.2.2.2.2.2.2.1 x97.2.2.2.2.2.2.2.2.1 x97.2.2.2.2.2.2.2.2.2.1 x97.2.2.2.2.2.2.2.2.2.2.1 x97.2.2.2.2.2.2.2.2.2.2.2.1 x97.2.2.2.2.2.2.2.2.2.2.2.2.1 x97.2.2.2.2.2.2.2.2.2.2.2.2.2.1 x97.2.2.2.2.2.2.2.2.2.2.2.2.2.2.1 x97.2.2.2.2.2.2.2.2.2.2.2.2.2.2.2.1 x97.2.2.2.2.2.2.2.2.2.2.2.2.2.2.2.2.1 x97.2.2.2.2.2.2.2.2.2.2.2.2.2.2.2.2.2.1 x97.2.2.2.2.2.2.2.2.2.2.2.2.2.2.2.2.2.2.1 x97.2.2.2.2.2.2.2.2.2.2.2.2.2.2.2.2.2.2.2.1 x97.2.2.2.2.2.2.2.2.2.2.2.2.2.2.2.2.2.2.2.2.1 x97.2.2.2.2.2.2.2.2.2.2.2.2.2.2.2.2.2.2.2.2.2.1 x97.2.2.2.2.2.2.2.2.2.2.2.2.2.2.2.2.2.2.2.2.2.2.1 x97.2.2.2.2.2.2.2.2.2.2.2.2.2.2.2.2.2.2.2.2.2.2.2.1) fun x99=>
                     some (x99.2.1,x99.2.2.1,x99.2.2.2.1,x99.2.2.2.2.1,x99.2.2.2.2.2.1,x99.2.2.2.2.2.2.1,x99.2.2.2.2.2.2.2.1,x99.2.2.2.2.2.2.2.2.1,x99.2.2.2.2.2.2.2.2.2.1,x99.2.2.2.2.2.2.2.2.2.2.1,x99.2.2.2.2.2.2.2.2.2.2.2,x99.1)
                  | .inr x100=>
                   some (x100.2.1,x100.2.2.1,[],x100.2.2.2.1,x100.2.2.2.2.1,x100.2.2.2.2.2.1,x100.2.2.2.2.2.2.1,x100.2.2.2.2.2.2.2.1,x100.2.2.2.2.2.2.2.2.1,x100.2.2.2.2.2.2.2.2.2,[],x100.1)
                | .inr x101=>
                 some (x101.2.1,x101.2.2.1,[],x101.2.2.2.1,x101.2.2.2.2.1,x101.2.2.2.2.2.1,x101.2.2.2.2.2.2.1,x101.2.2.2.2.2.2.2.1,x101.2.2.2.2.2.2.2.2.1,x101.2.2.2.2.2.2.2.2.2,[],x101.1)
              | .inr x102=>
               some (x102.2.1,x102.2.2.1,[],x102.2.2.2.1,x102.2.2.2.2.1,x102.2.2.2.2.2.1,x102.2.2.2.2.2.2.1,x102.2.2.2.2.2.2.2.1,x102.2.2.2.2.2.2.2.2.1,x102.2.2.2.2.2.2.2.2.2,[],x102.1)
            | .inr x103=>
             some (x103.2.1,x103.2.2.1,[],x103.2.2.2.1,x103.2.2.2.2.1,x103.2.2.2.2.2.1,x103.2.2.2.2.2.2.1,x103.2.2.2.2.2.2.2.1,x103.2.2.2.2.2.2.2.2.1,x103.2.2.2.2.2.2.2.2.2,[],x103.1)
          | .inr x104=>
           some (x104.2.1,x104.2.2.1,[],x104.2.2.2.1,x104.2.2.2.2.1,x104.2.2.2.2.2.1,x104.2.2.2.2.2.2.1,x104.2.2.2.2.2.2.2.1,x104.2.2.2.2.2.2.2.2.1,x104.2.2.2.2.2.2.2.2.2,[],x104.1)
        | .inr x105=>
         match x105 with
         | .inl x106=>
          Option.bind (Ev.Seat.zA.v7 κ a0 a1 (0:Int) (0:Int) [] (ByteArray.mk (List.toArray [])) (0:Int) Bool.false Bool.false (ByteArray.mk (List.toArray [])) (0:Int) (0:Int) [] a0 (0:Int) [] (ByteArray.mk (List.toArray [])) (0:Int) Bool.false Bool.false (ByteArray.mk (List.toArray [])) (0:Int) (0:Int) [] x106) fun x107=>
           match x107 with
           | .inl x108=>
            Option.bind (qA (Ev.Seat.zA.v18 κ) x108) fun x109=>
             match x109 with
             | .inl x110=>
              Option.bind (qA (Ev.Seat.zA.v29 κ) x110) fun x111=>
               match x111 with
               | .inl x112=>
                Option.bind (Ev.Seat.zE κ x112.2.2.2.2.2.2.2.2.2.2.2.2.2.1 x112.2.2.2.2.2.2.2.2.2.2.2.2.2.2.1 x112.2.2.2.2.2.2.2.2.2.2.2.2.2.2.2.1 x112.2.2.2.2.2.2.2.2.2.2.2.2.2.2.2.2.1 x112.2.2.2.2.2.2.2.2.2.2.2.2.2.2.2.2.2.1 x112.2.2.2.2.2.2.2.2.2.2.2.2.2.2.2.2.2.2.1 x112.2.2.2.2.2.2.2.2.2.2.2.2.2.2.2.2.2.2.2.1 x112.2.2.2.2.2.2.2.2.2.2.2.2.2.2.2.2.2.2.2.2.1 x112.2.2.2.2.2.2.2.2.2.2.2.2.2.2.2.2.2.2.2.2.2.1 x112.2.2.2.2.2.2.2.2.2.2.2.2.2.2.2.2.2.2.2.2.2.2.1 x112.2.2.2.2.2.2.2.2.2.2.2.2.2.2.2.2.2.2.2.2.2.2.2.1) fun x113=>
                 Option.bind (Ev.Seat.zA.v49 κ x113.1 x113.2 x112.2.2.1 x112.2.2.2.1 x112.2.2.2.2.1 x112.2.2.2.2.2.1 x112.2.2.2.2.2.2.1 x112.2.2.2.2.2.2.2.1 x112.2.2.2.2.2.2.2.2.1 x112.2.2.2.2.2.2.2.2.2.1 x112.2.2.2.2.2.2.2.2.2.2.1 x112.2.2.2.2.2.2.2.2.2.2.2.1 x112.2.2.2.2.2.2.2.2.2.2.2.2.1 x112.2.2.2.2.2.2.2.2.2.2.2.2.2.1 x112.2.2.2.2.2.2.2.2.2.2.2.2.2.2.1 x112.2.2.2.2.2.2.2.2.2.2.2.2.2.2.2.1 x112.2.2.2.2.2.2.2.2.2.2.2.2.2.2.2.2.1 x112.2.2.2.2.2.2.2.2.2.2.2.2.2.2.2.2.2.1 x112.2.2.2.2.2.2.2.2.2.2.2.2.2.2.2.2.2.2.1 x112.2.2.2.2.2.2.2.2.2.2.2.2.2.2.2.2.2.2.2.1 x112.2.2.2.2.2.2.2.2.2.2.2.2.2.2.2.2.2.2.2.2.1 x112.2.2.2.2.2.2.2.2.2.2.2.2.2.2.2.2.2.2.2.2.2.1 x112.2.2.2.2.2.2.2.2.2.2.2.2.2.2.2.2.2.2.2.2.2.2.1 x112.2.2.2.2.2.2.2.2.2.2.2.2.2.2.2.2.2.2.2.2.2.2.2.1) fun x114=>
                  some (x114.2.1,x114.2.2.1,x114.2.2.2.1,x114.2.2.2.2.1,x114.2.2.2.2.2.1,x114.2.2.2.2.2.2.1,x114.2.2.2.2.2.2.2.1,x114.2.2.2.2.2.2.2.2.1,x114.2.2.2.2.2.2.2.2.2.1,x114.2.2.2.2.2.2.2.2.2.2.1,x114.2.2.2.2.2.2.2.2.2.2.2,x114.1)
               | .inr x115=>
                some (x115.2.1,x115.2.2.1,[],x115.2.2.2.1,x115.2.2.2.2.1,x115.2.2.2.2.2.1,x115.2.2.2.2.2.2.1,x115.2.2.2.2.2.2.2.1,x115.2.2.2.2.2.2.2.2.1,x115.2.2.2.2.2.2.2.2.2,[],x115.1)
             | .inr x116=>
              match x116 with
              | .inl x117=>
               some (x117.2.1,x117.2.2.1,[],x117.2.2.2.1,x117.2.2.2.2.1,x117.2.2.2.2.2.1,x117.2.2.2.2.2.2.1,x117.2.2.2.2.2.2.2.1,x117.2.2.2.2.2.2.2.2.1,x117.2.2.2.2.2.2.2.2.2,[],x117.1)
              | .inr x118=>
               Option.bind (Ev.Seat.zE κ x118.2.2.2.2.2.2.2.2.2.2.2.1 x118.2.2.2.2.2.2.2.2.2.2.2.2.1 x118.2.2.2.2.2.2.2.2.2.2.2.2.2.1 x118.2.2.2.2.2.2.2.2.2.2.2.2.2.2.1 x118.2.2.2.2.2.2.2.2.2.2.2.2.2.2.2.1 x118.2.2.2.2.2.2.2.2.2.2.2.2.2.2.2.2.1 x118.2.2.2.2.2.2.2.2.2.2.2.2.2.2.2.2.2.1 x118.2.2.2.2.2.2.2.2.2.2.2.2.2.2.2.2.2.2.1 x118.2.2.2.2.2.2.2.2.2.2.2.2.2.2.2.2.2.2.2.1 x118.2.2.2.2.2.2.2.2.2.2.2.2.2.2.2.2.2.2.2.2.1 x118.2.2.2.2.2.2.2.2.2.2.2.2.2.2.2.2.2.2.2.2.2) fun x119=>
                Option.bind (Ev.Seat.zA.v49 κ x119.1 x119.2 x118.1 x118.2.1 x118.2.2.1 x118.2.2.2.1 x118.2.2.2.2.1 x118.2.2.2.2.2.1 x118.2.2.2.2.2.2.1 x118.2.2.2.2.2.2.2.1 x118.2.2.2.2.2.2.2.2.1 x118.2.2.2.2.2.2.2.2.2.1 x118.2.2.2.2.2.2.2.2.2.2.1 x118.2.2.2.2.2.2.2.2.2.2.2.1 x118.2.2.2.2.2.2.2.2.2.2.2.2.1 x118.2.2.2.2.2.2.2.2.2.2.2.2.2.1 x118.2.2.2.2.2.2.2.2.2.2.2.2.2.2.1 x118.2.2.2.2.2.2.2.2.2.2.2.2.2.2.2.1 x118.2.2.2.2.2.2.2.2.2.2.2.2.2.2.2.2.1 x118.2.2.2.2.2.2.2.2.2.2.2.2.2.2.2.2.2.1 x118.2.2.2.2.2.2.2.2.2.2.2.2.2.2.2.2.2.2.1 x118.2.2.2.2.2.2.2.2.2.2.2.2.2.2.2.2.2.2.2.1 x118.2.2.2.2.2.2.2.2.2.2.2.2.2.2.2.2.2.2.2.2.1 x118.2.2.2.2.2.2.2.2.2.2.2.2.2.2.2.2.2.2.2.2.2) fun x120=>
                 some (x120.2.1,x120.2.2.1,x120.2.2.2.1,x120.2.2.2.2.1,x120.2.2.2.2.2.1,x120.2.2.2.2.2.2.1,x120.2.2.2.2.2.2.2.1,x120.2.2.2.2.2.2.2.2.1,x120.2.2.2.2.2.2.2.2.2.1,x120.2.2.2.2.2.2.2.2.2.2.1,x120.2.2.2.2.2.2.2.2.2.2.2,x120.1)
           | .inr x121=>
            some (x121.2.1,x121.2.2.1,[],x121.2.2.2.1,x121.2.2.2.2.1,x121.2.2.2.2.2.1,x121.2.2.2.2.2.2.1,x121.2.2.2.2.2.2.2.1,x121.2.2.2.2.2.2.2.2.1,x121.2.2.2.2.2.2.2.2.2,[],x121.1)
         | .inr x122=>
          match x122 with
          | .inl x123=>
           Option.bind (Ev.Seat.zA.v8 κ a0 a1 (0:Int) (0:Int) [] (ByteArray.mk (List.toArray [])) (0:Int) Bool.false Bool.false (ByteArray.mk (List.toArray [])) (0:Int) (0:Int) [] a0 (0:Int) [] (ByteArray.mk (List.toArray [])) (0:Int) Bool.false Bool.false (ByteArray.mk (List.toArray [])) (0:Int) (0:Int) [] x123) fun x124=>
            match x124 with
            | .inl x125=>
             Option.bind (qA (Ev.Seat.zA.v19 κ) x125) fun x126=>
              match x126 with
              | .inl x127=>
               Option.bind (qA (Ev.Seat.zA.v30 κ) x127) fun x128=>
                match x128 with
                | .inl x129=>
                 Option.bind (Ev.Seat.zE κ x129.2.2.2.2.2.2.2.2.2.2.2.2.2.1 x129.2.2.2.2.2.2.2.2.2.2.2.2.2.2.1 x129.2.2.2.2.2.2.2.2.2.2.2.2.2.2.2.1 x129.2.2.2.2.2.2.2.2.2.2.2.2.2.2.2.2.1 x129.2.2.2.2.2.2.2.2.2.2.2.2.2.2.2.2.2.1 x129.2.2.2.2.2.2.2.2.2.2.2.2.2.2.2.2.2.2.1 x129.2.2.2.2.2.2.2.2.2.2.2.2.2.2.2.2.2.2.2.1 x129.2.2.2.2.2.2.2.2.2.2.2.2.2.2.2.2.2.2.2.2.1 x129.2.2.2.2.2.2.2.2.2.2.2.2.2.2.2.2.2.2.2.2.2.1 x129.2.2.2.2.2.2.2.2.2.2.2.2.2.2.2.2.2.2.2.2.2.2.1 x129.2.2.2.2.2.2.2.2.2.2.2.2.2.2.2.2.2.2.2.2.2.2.2.1) fun x130=>
                  Option.bind (Ev.Seat.zA.v49 κ x130.1 x130.2 x129.2.2.1 x129.2.2.2.1 x129.2.2.2.2.1 x129.2.2.2.2.2.1 x129.2.2.2.2.2.2.1 x129.2.2.2.2.2.2.2.1 x129.2.2.2.2.2.2.2.2.1 x129.2.2.2.2.2.2.2.2.2.1 x129.2.2.2.2.2.2.2.2.2.2.1 x129.2.2.2.2.2.2.2.2.2.2.2.1 x129.2.2.2.2.2.2.2.2.2.2.2.2.1 x129.2.2.2.2.2.2.2.2.2.2.2.2.2.1 x129.2.2.2.2.2.2.2.2.2.2.2.2.2.2.1 x129.2.2.2.2.2.2.2.2.2.2.2.2.2.2.2.1 x129.2.2.2.2.2.2.2.2.2.2.2.2.2.2.2.2.1 x129.2.2.2.2.2.2.2.2.2.2.2.2.2.2.2.2.2.1 x129.2.2.2.2.2.2.2.2.2.2.2.2.2.2.2.2.2.2.1 x129.2.2.2.2.2.2.2.2.2.2.2.2.2.2.2.2.2.2.2.1 x129.2.2.2.2.2.2.2.2.2.2.2.2.2.2.2.2.2.2.2.2.1 x129.2.2.2.2.2.2.2.2.2.2.2.2.2.2.2.2.2.2.2.2.2.1 x129.2.2.2.2.2.2.2.2.2.2.2.2.2.2.2.2.2.2.2.2.2.2.1 x129.2.2.2.2.2.2.2.2.2.2.2.2.2.2.2.2.2.2.2.2.2.2.2.1) fun x131=>
                   some (x131.2.1,x131.2.2.1,x131.2.2.2.1,x131.2.2.2.2.1,x131.2.2.2.2.2.1,x131.2.2.2.2.2.2.1,x131.2.2.2.2.2.2.2.1,x131.2.2.2.2.2.2.2.2.1,x131.2.2.2.2.2.2.2.2.2.1,x131.2.2.2.2.2.2.2.2.2.2.1,x131.2.2.2.2.2.2.2.2.2.2.2,x131.1)
                | .inr x132=>
                 some (x132.2.1,x132.2.2.1,[],x132.2.2.2.1,x132.2.2.2.2.1,x132.2.2.2.2.2.1,x132.2.2.2.2.2.2.1,x132.2.2.2.2.2.2.2.1,x132.2.2.2.2.2.2.2.2.1,x132.2.2.2.2.2.2.2.2.2,[],x132.1)
              | .inr x133=>
               match x133 with
               | .inl x134=>
                some (x134.2.1,x134.2.2.1,[],x134.2.2.2.1,x134.2.2.2.2.1,x134.2.2.2.2.2.1,x134.2.2.2.2.2.2.1,x134.2.2.2.2.2.2.2.1,x134.2.2.2.2.2.2.2.2.1,x134.2.2.2.2.2.2.2.2.2,[],x134.1)
               | .inr x135=>
                Option.bind (Ev.Seat.zE κ x135.2.2.2.2.2.2.2.2.2.2.2.1 x135.2.2.2.2.2.2.2.2.2.2.2.2.1 x135.2.2.2.2.2.2.2.2.2.2.2.2.2.1 x135.2.2.2.2.2.2.2.2.2.2.2.2.2.2.1 x135.2.2.2.2.2.2.2.2.2.2.2.2.2.2.2.1 x135.2.2.2.2.2.2.2.2.2.2.2.2.2.2.2.2.1 x135.2.2.2.2.2.2.2.2.2.2.2.2.2.2.2.2.2.1 x135.2.2.2.2.2.2.2.2.2.2.2.2.2.2.2.2.2.2.1 x135.2.2.2.2.2.2.2.2.2.2.2.2.2.2.2.2.2.2.2.1 x135.2.2.2.2.2.2.2.2.2.2.2.2.2.2.2.2.2.2.2.2.1 x135.2.2.2.2.2.2.2.2.2.2.2.2.2.2.2.2.2.2.2.2.2) fun x136=>
                 Option.bind (Ev.Seat.zA.v49 κ x136.1 x136.2 x135.1 x135.2.1 x135.2.2.1 x135.2.2.2.1 x135.2.2.2.2.1 x135.2.2.2.2.2.1 x135.2.2.2.2.2.2.1 x135.2.2.2.2.2.2.2.1 x135.2.2.2.2.2.2.2.2.1 x135.2.2.2.2.2.2.2.2.2.1 x135.2.2.2.2.2.2.2.2.2.2.1 x135.2.2.2.2.2.2.2.2.2.2.2.1 x135.2.2.2.2.2.2.2.2.2.2.2.2.1 x135.2.2.2.2.2.2.2.2.2.2.2.2.2.1 x135.2.2.2.2.2.2.2.2.2.2.2.2.2.2.1 x135.2.2.2.2.2.2.2.2.2.2.2.2.2.2.2.1 x135.2.2.2.2.2.2.2.2.2.2.2.2.2.2.2.2.1 x135.2.2.2.2.2.2.2.2.2.2.2.2.2.2.2.2.2.1 x135.2.2.2.2.2.2.2.2.2.2.2.2.2.2.2.2.2.2.1 x135.2.2.2.2.2.2.2.2.2.2.2.2.2.2.2.2.2.2.2.1 x135.2.2.2.2.2.2.2.2.2.2.2.2.2.2.2.2.2.2.2.2.1 x135.2.2.2.2.2.2.2.2.2.2.2.2.2.2.2.2.2.2.2.2.2) fun x137=>
                  some (x137.2.1,x137.2.2.1,x137.2.2.2.1,x137.2.2.2.2.1,x137.2.2.2.2.2.1,x137.2.2.2.2.2.2.1,x137.2.2.2.2.2.2.2.1,x137.2.2.2.2.2.2.2.2.1,x137.2.2.2.2.2.2.2.2.2.1,x137.2.2.2.2.2.2.2.2.2.2.1,x137.2.2.2.2.2.2.2.2.2.2.2,x137.1)
            | .inr x138=>
             some (x138.2.1,x138.2.2.1,[],x138.2.2.2.1,x138.2.2.2.2.1,x138.2.2.2.2.2.1,x138.2.2.2.2.2.2.1,x138.2.2.2.2.2.2.2.1,x138.2.2.2.2.2.2.2.2.1,x138.2.2.2.2.2.2.2.2.2,[],x138.1)
          | .inr x139=>
           match x139 with
           | .inl x140=>
            Option.bind (Ev.Seat.zA.v9 κ a0 a1 (0:Int) (0:Int) [] (ByteArray.mk (List.toArray [])) (0:Int) Bool.false Bool.false (ByteArray.mk (List.toArray [])) (0:Int) (0:Int) [] a0 (0:Int) [] (ByteArray.mk (List.toArray [])) (0:Int) Bool.false Bool.false (ByteArray.mk (List.toArray [])) (0:Int) (0:Int) [] x140) fun x141=>
             match x141 with
             | .inl x142=>
              Option.bind (qA (Ev.Seat.zA.v20 κ) x142) fun x143=>
               match x143 with
               | .inl x144=>
                Option.bind (qA (Ev.Seat.zA.v31 κ) x144) fun x145=>
                 match x145 with
                 | .inl x146=>
                  Option.bind (Ev.Seat.zE κ x146.2.2.2.2.2.2.2.2.2.2.2.2.2.1 x146.2.2.2.2.2.2.2.2.2.2.2.2.2.2.1 x146.2.2.2.2.2.2.2.2.2.2.2.2.2.2.2.1 x146.2.2.2.2.2.2.2.2.2.2.2.2.2.2.2.2.1 x146.2.2.2.2.2.2.2.2.2.2.2.2.2.2.2.2.2.1 x146.2.2.2.2.2.2.2.2.2.2.2.2.2.2.2.2.2.2.1 x146.2.2.2.2.2.2.2.2.2.2.2.2.2.2.2.2.2.2.2.1 x146.2.2.2.2.2.2.2.2.2.2.2.2.2.2.2.2.2.2.2.2.1 x146.2.2.2.2.2.2.2.2.2.2.2.2.2.2.2.2.2.2.2.2.2.1 x146.2.2.2.2.2.2.2.2.2.2.2.2.2.2.2.2.2.2.2.2.2.2.1 x146.2.2.2.2.2.2.2.2.2.2.2.2.2.2.2.2.2.2.2.2.2.2.2.1) fun x147=>
                   Option.bind (Ev.Seat.zA.v49 κ x147.1 x147.2 x146.2.2.1 x146.2.2.2.1 x146.2.2.2.2.1 x146.2.2.2.2.2.1 x146.2.2.2.2.2.2.1 x146.2.2.2.2.2.2.2.1 x146.2.2.2.2.2.2.2.2.1 x146.2.2.2.2.2.2.2.2.2.1 x146.2.2.2.2.2.2.2.2.2.2.1 x146.2.2.2.2.2.2.2.2.2.2.2.1 x146.2.2.2.2.2.2.2.2.2.2.2.2.1 x146.2.2.2.2.2.2.2.2.2.2.2.2.2.1 x146.2.2.2.2.2.2.2.2.2.2.2.2.2.2.1 x146.2.2.2.2.2.2.2.2.2.2.2.2.2.2.2.1 x146.2.2.2.2.2.2.2.2.2.2.2.2.2.2.2.2.1 x146.2.2.2.2.2.2.2.2.2.2.2.2.2.2.2.2.2.1 x146.2.2.2.2.2.2.2.2.2.2.2.2.2.2.2.2.2.2.1 x146.2.2.2.2.2.2.2.2.2.2.2.2.2.2.2.2.2.2.2.1 x146.2.2.2.2.2.2.2.2.2.2.2.2.2.2.2.2.2.2.2.2.1 x146.2.2.2.2.2.2.2.2.2.2.2.2.2.2.2.2.2.2.2.2.2.1 x146.2.2.2.2.2.2.2.2.2.2.2.2.2.2.2.2.2.2.2.2.2.2.1 x146.2.2.2.2.2.2.2.2.2.2.2.2.2.2.2.2.2.2.2.2.2.2.2.1) fun x148=>
                    some (x148.2.1,x148.2.2.1,x148.2.2.2.1,x148.2.2.2.2.1,x148.2.2.2.2.2.1,x148.2.2.2.2.2.2.1,x148.2.2.2.2.2.2.2.1,x148.2.2.2.2.2.2.2.2.1,x148.2.2.2.2.2.2.2.2.2.1,x148.2.2.2.2.2.2.2.2.2.2.1,x148.2.2.2.2.2.2.2.2.2.2.2,x148.1)
                 | .inr x149=>
                  some (x149.2.1,x149.2.2.1,[],x149.2.2.2.1,x149.2.2.2.2.1,x149.2.2.2.2.2.1,x149.2.2.2.2.2.2.1,x149.2.2.2.2.2.2.2.1,x149.2.2.2.2.2.2.2.2.1,x149.2.2.2.2.2.2.2.2.2,[],x149.1)
               | .inr x150=>
                match x150 with
                | .inl x151=>
                 some (x151.2.1,x151.2.2.1,[],x151.2.2.2.1,x151.2.2.2.2.1,x151.2.2.2.2.2.1,x151.2.2.2.2.2.2.1,x151.2.2.2.2.2.2.2.1,x151.2.2.2.2.2.2.2.2.1,x151.2.2.2.2.2.2.2.2.2,[],x151.1)
                | .inr x152=>
                 Option.bind (Ev.Seat.zE κ x152.2.2.2.2.2.2.2.2.2.2.2.1 x152.2.2.2.2.2.2.2.2.2.2.2.2.1 x152.2.2.2.2.2.2.2.2.2.2.2.2.2.1 x152.2.2.2.2.2.2.2.2.2.2.2.2.2.2.1 x152.2.2.2.2.2.2.2.2.2.2.2.2.2.2.2.1 x152.2.2.2.2.2.2.2.2.2.2.2.2.2.2.2.2.1 x152.2.2.2.2.2.2.2.2.2.2.2.2.2.2.2.2.2.1 x152.2.2.2.2.2.2.2.2.2.2.2.2.2.2.2.2.2.2.1 x152.2.2.2.2.2.2.2.2.2.2.2.2.2.2.2.2.2.2.2.1 x152.2.2.2.2.2.2.2.2.2.2.2.2.2.2.2.2.2.2.2.2.1 x152.2.2.2.2.2.2.2.2.2.2.2.2.2.2.2.2.2.2.2.2.2) fun x153=>
                  Option.bind (Ev.Seat.zA.v49 κ x153.1 x153.2 x152.1 x152.2.1 x152.2.2.1 x152.2.2.2.1 x152.2.2.2.2.1 x152.2.2.2.2.2.1 x152.2.2.2.2.2.2.1 x152.2.2.2.2.2.2.2.1 x152.2.2.2.2.2.2.2.2.1 x152.2.2.2.2.2.2.2.2.2.1 x152.2.2.2.2.2.2.2.2.2.2.1 x152.2.2.2.2.2.2.2.2.2.2.2.1 x152.2.2.2.2.2.2.2.2.2.2.2.2.1 x152.2.2.2.2.2.2.2.2.2.2.2.2.2.1 x152.2.2.2.2.2.2.2.2.2.2.2.2.2.2.1 x152.2.2.2.2.2.2.2.2.2.2.2.2.2.2.2.1 x152.2.2.2.2.2.2.2.2.2.2.2.2.2.2.2.2.1 x152.2.2.2.2.2.2.2.2.2.2.2.2.2.2.2.2.2.1 x152.2.2.2.2.2.2.2.2.2.2.2.2.2.2.2.2.2.2.1 x152.2.2.2.2.2.2.2.2.2.2.2.2.2.2.2.2.2.2.2.1 x152.2.2.2.2.2.2.2.2.2.2.2.2.2.2.2.2.2.2.2.2.1 x152.2.2.2.2.2.2.2.2.2.2.2.2.2.2.2.2.2.2.2.2.2) fun x154=>
                   some (x154.2.1,x154.2.2.1,x154.2.2.2.1,x154.2.2.2.2.1,x154.2.2.2.2.2.1,x154.2.2.2.2.2.2.1,x154.2.2.2.2.2.2.2.1,x154.2.2.2.2.2.2.2.2.1,x154.2.2.2.2.2.2.2.2.2.1,x154.2.2.2.2.2.2.2.2.2.2.1,x154.2.2.2.2.2.2.2.2.2.2.2,x154.1)
             | .inr x155=>
              some (x155.2.1,x155.2.2.1,[],x155.2.2.2.1,x155.2.2.2.2.1,x155.2.2.2.2.2.1,x155.2.2.2.2.2.2.1,x155.2.2.2.2.2.2.2.1,x155.2.2.2.2.2.2.2.2.1,x155.2.2.2.2.2.2.2.2.2,[],x155.1)
           | .inr x156=>
            match x156 with
            | .inl x157=>
             Option.bind (Ev.Seat.zA.v10 κ a0 a1 (0:Int) (0:Int) [] (ByteArray.mk (List.toArray [])) (0:Int) Bool.false Bool.false (ByteArray.mk (List.toArray [])) (0:Int) (0:Int) [] a0 (0:Int) [] (ByteArray.mk (List.toArray [])) (0:Int) Bool.false Bool.false (ByteArray.mk (List.toArray [])) (0:Int) (0:Int) [] x157) fun x158=>
              match x158 with
              | .inl x159=>
               Option.bind (qA (Ev.Seat.zA.v21 κ) x159) fun x160=>
                match x160 with
                | .inl x161=>
                 Option.bind (qA (Ev.Seat.zA.v32 κ) x161) fun x162=>
                  match x162 with
                  | .inl x163=>
                   Option.bind (qA (Ev.Seat.zA.v41 κ) x163) fun x164=>
                    Option.bind (Ev.Seat.zE κ x164.2.2.2.2.2.2.2.2.2.2.2.2.2.1 x164.2.2.2.2.2.2.2.2.2.2.2.2.2.2.1 x164.2.2.2.2.2.2.2.2.2.2.2.2.2.2.2.1 x164.2.2.2.2.2.2.2.2.2.2.2.2.2.2.2.2.1 x164.2.2.2.2.2.2.2.2.2.2.2.2.2.2.2.2.2.1 x164.2.2.2.2.2.2.2.2.2.2.2.2.2.2.2.2.2.2.1 x164.2.2.2.2.2.2.2.2.2.2.2.2.2.2.2.2.2.2.2.1 x164.2.2.2.2.2.2.2.2.2.2.2.2.2.2.2.2.2.2.2.2.1 x164.2.2.2.2.2.2.2.2.2.2.2.2.2.2.2.2.2.2.2.2.2.1 x164.2.2.2.2.2.2.2.2.2.2.2.2.2.2.2.2.2.2.2.2.2.2.1 x164.2.2.2.2.2.2.2.2.2.2.2.2.2.2.2.2.2.2.2.2.2.2.2.1) fun x165=>
                     Option.bind (Ev.Seat.zA.v49 κ x165.1 x165.2 x164.2.2.1 x164.2.2.2.1 x164.2.2.2.2.1 x164.2.2.2.2.2.1 x164.2.2.2.2.2.2.1 x164.2.2.2.2.2.2.2.1 x164.2.2.2.2.2.2.2.2.1 x164.2.2.2.2.2.2.2.2.2.1 x164.2.2.2.2.2.2.2.2.2.2.1 x164.2.2.2.2.2.2.2.2.2.2.2.1 x164.2.2.2.2.2.2.2.2.2.2.2.2.1 x164.2.2.2.2.2.2.2.2.2.2.2.2.2.1 x164.2.2.2.2.2.2.2.2.2.2.2.2.2.2.1 x164.2.2.2.2.2.2.2.2.2.2.2.2.2.2.2.1 x164.2.2.2.2.2.2.2.2.2.2.2.2.2.2.2.2.1 x164.2.2.2.2.2.2.2.2.2.2.2.2.2.2.2.2.2.1 x164.2.2.2.2.2.2.2.2.2.2.2.2.2.2.2.2.2.2.1 x164.2.2.2.2.2.2.2.2.2.2.2.2.2.2.2.2.2.2.2.1 x164.2.2.2.2.2.2.2.2.2.2.2.2.2.2.2.2.2.2.2.2.1 x164.2.2.2.2.2.2.2.2.2.2.2.2.2.2.2.2.2.2.2.2.2.1 x164.2.2.2.2.2.2.2.2.2.2.2.2.2.2.2.2.2.2.2.2.2.2.1 x164.2.2.2.2.2.2.2.2.2.2.2.2.2.2.2.2.2.2.2.2.2.2.2.1) fun x166=>
                      some (x166.2.1,x166.2.2.1,x166.2.2.2.1,x166.2.2.2.2.1,x166.2.2.2.2.2.1,x166.2.2.2.2.2.2.1,x166.2.2.2.2.2.2.2.1,x166.2.2.2.2.2.2.2.2.1,x166.2.2.2.2.2.2.2.2.2.1,x166.2.2.2.2.2.2.2.2.2.2.1,x166.2.2.2.2.2.2.2.2.2.2.2,x166.1)
                  | .inr x167=>
                   some (x167.2.1,x167.2.2.1,[],x167.2.2.2.1,x167.2.2.2.2.1,x167.2.2.2.2.2.1,x167.2.2.2.2.2.2.1,x167.2.2.2.2.2.2.2.1,x167.2.2.2.2.2.2.2.2.1,x167.2.2.2.2.2.2.2.2.2,[],x167.1)
                | .inr x168=>
                 some (x168.2.1,x168.2.2.1,[],x168.2.2.2.1,x168.2.2.2.2.1,x168.2.2.2.2.2.1,x168.2.2.2.2.2.2.1,x168.2.2.2.2.2.2.2.1,x168.2.2.2.2.2.2.2.2.1,x168.2.2.2.2.2.2.2.2.2,[],x168.1)
              | .inr x169=>
               some (x169.2.1,x169.2.2.1,[],x169.2.2.2.1,x169.2.2.2.2.1,x169.2.2.2.2.2.1,x169.2.2.2.2.2.2.1,x169.2.2.2.2.2.2.2.1,x169.2.2.2.2.2.2.2.2.1,x169.2.2.2.2.2.2.2.2.2,[],x169.1)
            | .inr x170=>
             Option.bind (Ev.Seat.zA.v11 κ a0 a1 (0:Int) (0:Int) [] (ByteArray.mk (List.toArray [])) (0:Int) Bool.false Bool.false (ByteArray.mk (List.toArray [])) (0:Int) (0:Int) [] a0 (0:Int) [] (ByteArray.mk (List.toArray [])) (0:Int) Bool.false Bool.false (ByteArray.mk (List.toArray [])) (0:Int) (0:Int) [] x170) fun x171=>
              match x171 with
              | .inl x172=>
               Option.bind (qA (Ev.Seat.zA.v22 κ) x172) fun x173=>
                match x173 with
                | .inl x174=>
                 Option.bind (Ev.Seat.zE κ x174.2.2.2.2.2.2.2.2.2.2.2.2.2.1 x174.2.2.2.2.2.2.2.2.2.2.2.2.2.2.1 x174.2.2.2.2.2.2.2.2.2.2.2.2.2.2.2.1 x174.2.2.2.2.2.2.2.2.2.2.2.2.2.2.2.2.1 x174.2.2.2.2.2.2.2.2.2.2.2.2.2.2.2.2.2.1 x174.2.2.2.2.2.2.2.2.2.2.2.2.2.2.2.2.2.2.1 x174.2.2.2.2.2.2.2.2.2.2.2.2.2.2.2.2.2.2.2.1 x174.2.2.2.2.2.2.2.2.2.2.2.2.2.2.2.2.2.2.2.2.1 x174.2.2.2.2.2.2.2.2.2.2.2.2.2.2.2.2.2.2.2.2.2.1 x174.2.2.2.2.2.2.2.2.2.2.2.2.2.2.2.2.2.2.2.2.2.2.1 x174.2.2.2.2.2.2.2.2.2.2.2.2.2.2.2.2.2.2.2.2.2.2.2.1) fun x175=>
                  Option.bind (Ev.Seat.zA.v49 κ x175.1 x175.2 x174.2.2.1 x174.2.2.2.1 x174.2.2.2.2.1 x174.2.2.2.2.2.1 x174.2.2.2.2.2.2.1 x174.2.2.2.2.2.2.2.1 x174.2.2.2.2.2.2.2.2.1 x174.2.2.2.2.2.2.2.2.2.1 x174.2.2.2.2.2.2.2.2.2.2.1 x174.2.2.2.2.2.2.2.2.2.2.2.1 x174.2.2.2.2.2.2.2.2.2.2.2.2.1 x174.2.2.2.2.2.2.2.2.2.2.2.2.2.1 x174.2.2.2.2.2.2.2.2.2.2.2.2.2.2.1 x174.2.2.2.2.2.2.2.2.2.2.2.2.2.2.2.1 x174.2.2.2.2.2.2.2.2.2.2.2.2.2.2.2.2.1 x174.2.2.2.2.2.2.2.2.2.2.2.2.2.2.2.2.2.1 x174.2.2.2.2.2.2.2.2.2.2.2.2.2.2.2.2.2.2.1 x174.2.2.2.2.2.2.2.2.2.2.2.2.2.2.2.2.2.2.2.1 x174.2.2.2.2.2.2.2.2.2.2.2.2.2.2.2.2.2.2.2.2.1 x174.2.2.2.2.2.2.2.2.2.2.2.2.2.2.2.2.2.2.2.2.2.1 x174.2.2.2.2.2.2.2.2.2.2.2.2.2.2.2.2.2.2.2.2.2.2.1 x174.2.2.2.2.2.2.2.2.2.2.2.2.2.2.2.2.2.2.2.2.2.2.2.1) fun x176=>
                   some (x176.2.1,x176.2.2.1,x176.2.2.2.1,x176.2.2.2.2.1,x176.2.2.2.2.2.1,x176.2.2.2.2.2.2.1,x176.2.2.2.2.2.2.2.1,x176.2.2.2.2.2.2.2.2.1,x176.2.2.2.2.2.2.2.2.2.1,x176.2.2.2.2.2.2.2.2.2.2.1,x176.2.2.2.2.2.2.2.2.2.2.2,x176.1)
                | .inr x177=>
                 some (x177.2.1,x177.2.2.1,[],x177.2.2.2.1,x177.2.2.2.2.1,x177.2.2.2.2.2.1,x177.2.2.2.2.2.2.1,x177.2.2.2.2.2.2.2.1,x177.2.2.2.2.2.2.2.2.1,x177.2.2.2.2.2.2.2.2.2,[],x177.1)
              | .inr x178=>
               some (x178.2.1,x178.2.2.1,[],x178.2.2.2.1,x178.2.2.2.2.1,x178.2.2.2.2.2.1,x178.2.2.2.2.2.2.1,x178.2.2.2.2.2.2.2.1,x178.2.2.2.2.2.2.2.2.1,x178.2.2.2.2.2.2.2.2.2,[],x178.1)
def yl.w0(κ:Nat)(rec:((List zD)×(List zD)×Int×Int)→Option ((Unit)⊕(Bool)))(a0 a1:List zD)(a2 a3:Int):Option ((Unit)⊕(Bool)):=
 bif (decide (a3<a2))then
  bif (decide ((0:Int)≤a3))then
   Option.bind (a0[(Int.toNat a3)]?) fun x0=>
    bif (decide ((0:Int)≤a3))then
     Option.bind (a1[(Int.toNat a3)]?) fun x1=>
      bif (!((Ev.seq (Ev.Seat.zD.name x0) (Ev.Seat.zD.name x1))&&(Ev.seq (Ev.Seat.zD.key x0) (Ev.Seat.zD.key x1))))then
       some (.inr Bool.false)
      else
       rec (a0,a1,a2,(IntKind.wrap IntKind.i64 (a3+(1:Int))))
    else
     none
  else
   none
 else
  some (.inl ())
def yl.l0(κ:Nat):Nat→((List zD)×(List zD)×Int×Int)→Option ((Unit)⊕(Bool))
 |0,_ =>none
 |k+1,(a0,a1,a2,a3)=>yl.w0 κ (yl.l0 κ k) a0 a1 a2 a3
def yl(κ:Nat)(a0 a1:List zD):Option (Bool):=
 bif ((((List.length a0):Nat):Int) !=(((List.length a1):Nat):Int))then
  some Bool.false
 else
  Option.bind (Ev.Seat.yl.l0 κ κ (a0,a1,(((List.length a0):Nat):Int),(0:Int))) fun x0=>
   match x0 with
   | .inl x1=>
    some Bool.true
   | .inr x2=>
    some x2
def zQa(κ:Nat)(a0 a1:List Int):Option (Bool):=
 some (Ev.seq (ByteArray.mk (List.toArray (List.map (fun x=>(UInt8.ofNat (Int.toNat x))) a0))) (ByteArray.mk (List.toArray (List.map (fun x=>(UInt8.ofNat (Int.toNat x))) a1))))
def wV.v0(κ:Nat)(a0 a1:Int)(a2:List zD)(a3:ByteArray)(a4:Int)(a5 a6:Bool)(a7:ByteArray)(a8 a9:Int)(a10:List Int)(a11 a12:Int)(a13:List zD)(a14:ByteArray)(a15:Int)(a16 a17:Bool)(a18:ByteArray)(a19 a20:Int)(a21:List Int):Option (Bool):=
 bif (a0==a11)then
  bif (a1==a12)then
   Option.bind (Ev.Seat.yl κ a2 a13) fun x0=>
    bif x0 then
     bif (Ev.seq a3 a14)then
      bif (a4==a15)then
       bif (a5==a16)then
        bif (a6==a17)then
         bif (Ev.seq a7 a18)then
          bif (a8==a19)then
           bif (a9==a20)then
            some (Ev.seq (ByteArray.mk (List.toArray (List.map (fun x=>(UInt8.ofNat (Int.toNat x))) a10))) (ByteArray.mk (List.toArray (List.map (fun x=>(UInt8.ofNat (Int.toNat x))) a21))))
           else
            some Bool.false
          else
           some Bool.false
         else
          some Bool.false
        else
         some Bool.false
       else
        some Bool.false
      else
       some Bool.false
     else
      some Bool.false
    else
     some Bool.false
  else
   some Bool.false
 else
  some Bool.false
def wV(κ:Nat)(a0 a1:Int)(a2:List zD)(a3:ByteArray)(a4:Int)(a5 a6:Bool)(a7:ByteArray)(a8 a9:Int)(a10:List Int)(a11 a12:Int)(a13:List zD)(a14:ByteArray)(a15:Int)(a16 a17:Bool)(a18:ByteArray)(a19 a20:Int)(a21:List Int):Option (Bool):=
 Option.bind (Ev.Seat.wV.v0 κ a0 a1 a2 a3 a4 a5 a6 a7 a8 a9 a10 a11 a12 a13 a14 a15 a16 a17 a18 a19 a20 a21) fun x0=>
  some x0
def qy.v0(κ:Nat)(a0:Bool)(a1 a2:Int)(a3:List zD)(a4:ByteArray)(a5:Int)(a6 a7:Bool)(a8:ByteArray)(a9 a10:Int)(a11:List Int)(a12 a13:Int)(a14:List zD)(a15:ByteArray)(a16:Int)(a17 a18:Bool)(a19:ByteArray)(a20 a21:Int)(a22:List Int):Option (Bool):=
 bif a0 then
  Option.bind (Ev.Seat.wV κ a1 a2 a3 a4 a5 a6 a7 a8 a9 a10 a11 a12 a13 a14 a15 a16 a17 a18 a19 a20 a21 a22) fun x0=>
   some x0
 else
  some Bool.false
def qy(κ:Nat)(a0 a1:Int)(a2:List zD)(a3:ByteArray)(a4:Int)(a5 a6:Bool)(a7:ByteArray)(a8 a9:Int)(a10:List Int):Option (Bool):=
 Option.bind (Ev.Seat.zE κ a0 a1 a2 a3 a4 a5 a6 a7 a8 a9 a10) fun x0=>
  bif (!x0.2)then
   some Bool.false
  else
   Option.bind (Ev.Seat.zA κ a0 x0.1) fun x1=>
    Option.bind (Ev.Seat.qy.v0 κ x1.2.2.2.2.2.2.2.2.2.2.2 a0 a1 a2 a3 a4 a5 a6 a7 a8 a9 a10 x1.1 x1.2.1 x1.2.2.1 x1.2.2.2.1 x1.2.2.2.2.1 x1.2.2.2.2.2.1 x1.2.2.2.2.2.2.1 x1.2.2.2.2.2.2.2.1 x1.2.2.2.2.2.2.2.2.1 x1.2.2.2.2.2.2.2.2.2.1 x1.2.2.2.2.2.2.2.2.2.2.1) fun x2=>
     some x2
def kL(κ:Nat)(a0 a1:Int)(a2:List zD)(a3:ByteArray)(a4:Int)(a5 a6:Bool)(a7:ByteArray)(a8 a9:Int)(a10:List Int):Option (ByteArray):=
 Option.bind (Ev.Seat.qy κ a0 a1 a2 a3 a4 a5 a6 a7 a8 a9 a10) fun x0=>
  bif (!x0)then
   some (ByteArray.mk (List.toArray []))
  else
   Option.bind (Ev.Seat.zE κ a0 a1 a2 a3 a4 a5 a6 a7 a8 a9 a10) fun x1=>
    some x1.1
def yL.v3(κ:Nat)(a0:ByteArray)(a1:Int)(a2:Bool)(a3 a4:Int)(a5:ByteArray)(a6:Int)(a7 a8:Bool)(a9:ByteArray)(a10 a11 a12 a13:Int)(a14:List zD)(a15:ByteArray)(a16:Int)(a17 a18:Bool)(a19:ByteArray)(a20 a21:Int)(a22:List Int):Option (ByteArray×Int×Bool×Int×Int×ByteArray×Int×Bool×Bool×ByteArray×Int×Int×Int×Int×(List zD)×ByteArray×Int×Bool×Bool×ByteArray×Int×Int×(List Int)):=
 bif a2 then
  Option.bind (Ev.Seat.kL κ a12 a13 a14 a15 a16 a17 a18 a19 a20 a21 a22) fun x0=>
   some (a0,a1,(Ev.seq x0 a0),a3,a4,a5,a6,a7,a8,a9,a10,a11,a12,a13,a14,a15,a16,a17,a18,a19,a20,a21,a22)
 else
  some (a0,a1,Bool.false,a3,a4,a5,a6,a7,a8,a9,a10,a11,a12,a13,a14,a15,a16,a17,a18,a19,a20,a21,a22)
def yL.w2(κ:Nat)(rec:(ByteArray×Int×Int×Int×ByteArray×Int×Bool×Bool×ByteArray×Int×Int)→Option (zlB⊕zkj))(a0:ByteArray)(a1 a2 a3:Int)(a4:ByteArray)(a5:Int)(a6 a7:Bool)(a8:ByteArray)(a9 a10:Int):Option (zlB⊕zkj):=
 bif (decide (a1≤(18:Int)))then
  Option.bind (Ev.Seat.zA κ a1 a0) fun x0=>
   Option.bind (Ev.Seat.yL.v3 κ a0 a1 x0.2.2.2.2.2.2.2.2.2.2.2 a2 a3 a4 a5 a6 a7 a8 a9 a10 x0.1 x0.2.1 x0.2.2.1 x0.2.2.2.1 x0.2.2.2.2.1 x0.2.2.2.2.2.1 x0.2.2.2.2.2.2.1 x0.2.2.2.2.2.2.2.1 x0.2.2.2.2.2.2.2.2.1 x0.2.2.2.2.2.2.2.2.2.1 x0.2.2.2.2.2.2.2.2.2.2.1) fun x1=>
    bif x1.2.2.1 then
     some (.inr ((0:Int),x1.2.2.2.2.2.2.2.2.2.2.2.2.1,x1.2.2.2.2.2.2.2.2.2.2.2.2.2.1,x1.2.2.2.2.2.2.2.2.2.2.2.2.2.2.1,x1.2.2.2.2.2.2.2.2.2.2.2.2.2.2.2.1,x1.2.2.2.2.2.2.2.2.2.2.2.2.2.2.2.2.1,x1.2.2.2.2.2.2.2.2.2.2.2.2.2.2.2.2.2.1,x1.2.2.2.2.2.2.2.2.2.2.2.2.2.2.2.2.2.2.1,x1.2.2.2.2.2.2.2.2.2.2.2.2.2.2.2.2.2.2.2.1,x1.2.2.2.2.2.2.2.2.2.2.2.2.2.2.2.2.2.2.2.2.1,x1.2.2.2.2.2.2.2.2.2.2.2.2.2.2.2.2.2.2.2.2.2.1,x1.2.2.2.2.2.2.2.2.2.2.2.2.2.2.2.2.2.2.2.2.2.2))
    else
     rec (x1.1,(IntKind.wrap IntKind.i64 (x1.2.1+(1:Int))),x1.2.2.2.1,x1.2.2.2.2.1,x1.2.2.2.2.2.1,x1.2.2.2.2.2.2.1,x1.2.2.2.2.2.2.2.1,x1.2.2.2.2.2.2.2.2.1,x1.2.2.2.2.2.2.2.2.2.1,x1.2.2.2.2.2.2.2.2.2.2.1,x1.2.2.2.2.2.2.2.2.2.2.2.1)
 else
  some (.inl (a2,a3,a4,a5,a6,a7,a8,a9,a10))
def yL.l2(κ:Nat):Nat→(ByteArray×Int×Int×Int×ByteArray×Int×Bool×Bool×ByteArray×Int×Int)→Option (zlB⊕zkj)
 |0,_ =>none
 |k+1,(a0,a1,a2,a3,a4,a5,a6,a7,a8,a9,a10)=>yL.w2 κ (yL.l2 κ k) a0 a1 a2 a3 a4 a5 a6 a7 a8 a9 a10
def yL(κ:Nat)(a0:ByteArray):Option (Int×Int×(List zD)×ByteArray×Int×Bool×Bool×ByteArray×Int×Int×(List Int)×Int):=
 Option.bind (Ev.Seat.yL.l2 κ κ (a0,(0:Int),(0:Int),(0:Int),(ByteArray.mk (List.toArray [])),(0:Int),Bool.false,Bool.false,(ByteArray.mk (List.toArray [])),(0:Int),(0:Int))) fun x0=>
  match x0 with
  | .inl x1=>
   some ((0:Int),(0:Int),[],(ByteArray.mk (List.toArray [])),(0:Int),Bool.false,Bool.false,(ByteArray.mk (List.toArray [])),(0:Int),(0:Int),[],(40:Int))
  | .inr x2=>
   some (x2.2.1,x2.2.2.1,x2.2.2.2.1,x2.2.2.2.2.1,x2.2.2.2.2.2.1,x2.2.2.2.2.2.2.1,x2.2.2.2.2.2.2.2.1,x2.2.2.2.2.2.2.2.2.1,x2.2.2.2.2.2.2.2.2.2.1,x2.2.2.2.2.2.2.2.2.2.2.1,x2.2.2.2.2.2.2.2.2.2.2.2,x2.1)
def kV.v0(κ:Nat)(a0 a1 a2 a3 a4:Int)(a5:List zD)(a6:ByteArray)(a7:Int)(a8 a9:Bool)(a10:ByteArray)(a11 a12:Int)(a13:List Int)(a14 a15:Int)(a16:List zD)(a17:ByteArray)(a18:Int)(a19 a20:Bool)(a21:ByteArray)(a22 a23:Int)(a24:List Int):Option (Bool):=
 bif (a0==(0:Int))then
  bif (a3==(7:Int))then
   bif (a4==(1:Int))then
    bif ((((List.length a5):Nat):Int)==(2:Int))then
     bif (Ev.seq a6 (ByteArray.mk (List.toArray ((116:UInt8)::((114:UInt8)::((117:UInt8)::((101:UInt8)::[])))))))then
      bif (a1==(40:Int))then
       bif (a2==(0:Int))then
        bif (Ev.seq (ByteArray.mk (List.toArray (List.map (fun x=>(UInt8.ofNat (Int.toNat x))) a24))) (ByteArray.mk (List.toArray ((97:UInt8)::((32:UInt8)::((98:UInt8)::[]))))))then
         Option.bind (Ev.Seat.kL κ a3 a4 a5 a6 a7 a8 a9 a10 a11 a12 a13) fun x0=>
          bif (Ev.seq x0 (ByteArray.mk (List.toArray ((49:UInt8)::((32:UInt8)::((115:UInt8)::((101:UInt8)::((116:UInt8)::((32:UInt8)::((47:UInt8)::((112:UInt8)::((111:UInt8)::((114:UInt8)::((116:UInt8)::((91:UInt8)::((97:UInt8)::((93:UInt8)::((47:UInt8)::((117:UInt8)::((112:UInt8)::((32:UInt8)::((116:UInt8)::((114:UInt8)::((117:UInt8)::((101:UInt8)::[])))))))))))))))))))))))))then
           Option.bind (Ev.Seat.qy κ a3 a4 a5 a6 a7 a8 a9 a10 a11 a12 a13) fun x1=>
            bif x1 then
             Option.bind (Ev.Seat.wV κ a3 a4 a5 a6 a7 a8 a9 a10 a11 a12 a13 a3 a4 a5 a6 a7 a8 a9 a10 a11 a12 a13) fun x2=>
              bif x2 then
               Option.bind (Ev.Seat.wV κ a3 a4 a5 a6 a7 a8 a9 a10 a11 a12 a13 a14 a15 a16 a17 a18 a19 a20 a21 a22 a23 a24) fun x3=>
                bif (!x3)then
                 some Bool.true
                else
                 some Bool.false
              else
               some Bool.false
            else
             some Bool.false
          else
           some Bool.false
        else
         some Bool.false
       else
        some Bool.false
      else
       some Bool.false
     else
      some Bool.false
    else
     some Bool.false
   else
    some Bool.false
  else
   some Bool.false
 else
  some Bool.false
def kV(κ:Nat):Option (Bool):=
 Option.bind (Ev.Seat.yL κ (ByteArray.mk (List.toArray ((49:UInt8)::((32:UInt8)::((115:UInt8)::((101:UInt8)::((116:UInt8)::((32:UInt8)::((47:UInt8)::((112:UInt8)::((111:UInt8)::((114:UInt8)::((116:UInt8)::((91:UInt8)::((97:UInt8)::((93:UInt8)::((47:UInt8)::((117:UInt8)::((112:UInt8)::((32:UInt8)::((116:UInt8)::((114:UInt8)::((117:UInt8)::((101:UInt8)::[]))))))))))))))))))))))))) fun x0=>
  Option.bind (Ev.Seat.yL κ (ByteArray.mk (List.toArray ((49:UInt8)::((32:UInt8)::((32:UInt8)::((108:UInt8)::((111:UInt8)::((99:UInt8)::((107:UInt8)::[])))))))))) fun x1=>
   Option.bind (Ev.Seat.yL κ (ByteArray.mk (List.toArray ((50:UInt8)::((32:UInt8)::((108:UInt8)::((111:UInt8)::((97:UInt8)::((100:UInt8)::((32:UInt8)::((116:UInt8)::((101:UInt8)::((120:UInt8)::((116:UInt8)::((32:UInt8)::((97:UInt8)::((32:UInt8)::((98:UInt8)::[])))))))))))))))))) fun x2=>
    Option.bind (Ev.Seat.kV.v0 κ x0.2.2.2.2.2.2.2.2.2.2.2 x1.2.2.2.2.2.2.2.2.2.2.2 x2.2.2.2.2.2.2.2.2.2.2.2 x0.1 x0.2.1 x0.2.2.1 x0.2.2.2.1 x0.2.2.2.2.1 x0.2.2.2.2.2.1 x0.2.2.2.2.2.2.1 x0.2.2.2.2.2.2.2.1 x0.2.2.2.2.2.2.2.2.1 x0.2.2.2.2.2.2.2.2.2.1 x0.2.2.2.2.2.2.2.2.2.2.1 x2.1 x2.2.1 x2.2.2.1 x2.2.2.2.1 x2.2.2.2.2.1 x2.2.2.2.2.2.1 x2.2.2.2.2.2.2.1 x2.2.2.2.2.2.2.2.1 x2.2.2.2.2.2.2.2.2.1 x2.2.2.2.2.2.2.2.2.2.1 x2.2.2.2.2.2.2.2.2.2.2.1) fun x3=>
     some x3
def yD.v5(κ:Nat)(a0:ByteArray)(a1:Int):Option (ByteArray×Int×Bool):=
 bif (decide ((0:Int)≤a1))then
  Option.bind ((Array.toList (ByteArray.data a0))[(Int.toNat a1)]?) fun x0=>
   bif (decide ((((UInt8.toNat x0):Nat):Int)≥(97:Int)))then
    bif (decide ((0:Int)≤a1))then
     Option.bind ((Array.toList (ByteArray.data a0))[(Int.toNat a1)]?) fun x1=>
      some (a0,a1,(decide ((((UInt8.toNat x1):Nat):Int)≤(122:Int))))
    else
     none
   else
    some (a0,a1,Bool.false)
 else
  none
def yD.v7(κ:Nat)(a0:ByteArray)(a1:Int)(a2:Bool):Option (ByteArray×Int×Bool):=
 bif (!a2)then
  bif (a1==(0:Int))then
   some (a0,a1,Bool.true)
  else
   bif (decide ((0:Int)≤a1))then
    Option.bind ((Array.toList (ByteArray.data a0))[(Int.toNat a1)]?) fun x0=>
     bif ((((UInt8.toNat x0):Nat):Int) !=(45:Int))then
      bif (decide ((0:Int)≤a1))then
       Option.bind ((Array.toList (ByteArray.data a0))[(Int.toNat a1)]?) fun x1=>
        bif (decide ((((UInt8.toNat x1):Nat):Int)<(48:Int)))then
         some (a0,a1,Bool.true)
        else
         bif (decide ((0:Int)≤a1))then
          Option.bind ((Array.toList (ByteArray.data a0))[(Int.toNat a1)]?) fun x2=>
           some (a0,a1,(decide ((((UInt8.toNat x2):Nat):Int)>(57:Int))))
         else
          none
      else
       none
     else
      some (a0,a1,Bool.false)
   else
    none
 else
  some (a0,a1,Bool.false)
def yD.w4(κ:Nat)(rec:(ByteArray×Int)→Option ((ByteArray)⊕(Bool)))(a0:ByteArray)(a1:Int):Option ((ByteArray)⊕(Bool)):=
 bif (decide (a1<(((ByteArray.size a0):Nat):Int)))then
  Option.bind (Ev.Seat.yD.v5 κ a0 a1) fun x0=>
   Option.bind (Ev.Seat.yD.v7 κ x0.1 x0.2.1 x0.2.2) fun x1=>
    bif x1.2.2 then
     some (.inr Bool.false)
    else
     rec (x1.1,(IntKind.wrap IntKind.i64 (x1.2.1+(1:Int))))
 else
  some (.inl a0)
def yD.l4(κ:Nat):Nat→(ByteArray×Int)→Option ((ByteArray)⊕(Bool))
 |0,_ =>none
 |k+1,(a0,a1)=>yD.w4 κ (yD.l4 κ k) a0 a1
def yD.v10(κ:Nat)(a0:ByteArray):Option (Bool):=
 bif (!(Ev.seq a0 (ByteArray.mk (List.toArray []))))then
  some (decide ((((ByteArray.size a0):Nat):Int)≤(12:Int)))
 else
  some Bool.false
def yD(κ:Nat)(a0:ByteArray):Option (Bool):=
 Option.bind (Ev.Seat.yD.l4 κ κ (a0,(0:Int))) fun x0=>
  match x0 with
  | .inl x1=>
   Option.bind (Ev.Seat.yD.v10 κ x1) fun x2=>
    some x2
  | .inr x3=>
   some x3
def yR.v8(κ:Nat)(a0:List zD)(a1:ByteArray)(a2:Int)(a3 a4:Bool):Option ((List zD)×ByteArray×Int×Bool×Bool):=
 bif (!a3)then
  some (a0,a1,a2,a4,Bool.true)
 else
  bif (!a4)then
   bif (decide ((0:Int)≤a2))then
    Option.bind (a0[(Int.toNat a2)]?) fun x0=>
     some (a0,a1,a2,a4,(!(Ev.seq (Ev.Seat.zD.key x0) (ByteArray.mk (List.toArray [])))))
   else
    none
  else
   some (a0,a1,a2,a4,Bool.false)
def yR.v10(κ:Nat)(a0:List zD)(a1:ByteArray)(a2:Int)(a3:Bool):Option ((List zD)×ByteArray×Int):=
 bif a3 then
  bif (decide ((0:Int)≤a2))then
   Option.bind (a0[(Int.toNat a2)]?) fun x0=>
    bif (Nat.ble ((ByteArray.size (ByteArray.mk (List.toArray ((91:UInt8)::[]))))+(ByteArray.size (Ev.Seat.zD.key x0))) Ev.qL)then
     bif (Nat.ble ((ByteArray.size ((ByteArray.mk (List.toArray ((91:UInt8)::[])))++(Ev.Seat.zD.key x0)))+(ByteArray.size (ByteArray.mk (List.toArray ((93:UInt8)::[]))))) Ev.qL)then
      bif (Nat.ble ((ByteArray.size a1)+(ByteArray.size (((ByteArray.mk (List.toArray ((91:UInt8)::[])))++(Ev.Seat.zD.key x0))++(ByteArray.mk (List.toArray ((93:UInt8)::[])))))) Ev.qL)then
       some (a0,(a1++(((ByteArray.mk (List.toArray ((91:UInt8)::[])))++(Ev.Seat.zD.key x0))++(ByteArray.mk (List.toArray ((93:UInt8)::[]))))),a2)
      else
       none
     else
      none
    else
     none
  else
   none
 else
  some (a0,a1,a2)
def yR.v7(κ:Nat)(a0:List zD)(a1:ByteArray)(a2:Int):Option (((List zD)×ByteArray×Int)⊕(ByteArray)):=
 bif (decide ((0:Int)≤a2))then
  Option.bind (a0[(Int.toNat a2)]?) fun x0=>
   Option.bind (Ev.Seat.yD κ (Ev.Seat.zD.name x0)) fun x1=>
    bif (decide ((0:Int)≤a2))then
     Option.bind (a0[(Int.toNat a2)]?) fun x2=>
      Option.bind (Ev.Seat.yD κ (Ev.Seat.zD.key x2)) fun x3=>
       Option.bind (Ev.Seat.yR.v8 κ a0 a1 a2 x1 x3) fun x4=>
        bif x4.2.2.2.2 then
         some (.inr (ByteArray.mk (List.toArray [])))
        else
         bif (decide ((0:Int)≤x4.2.2.1))then
          Option.bind (x4.1[(Int.toNat x4.2.2.1)]?) fun x5=>
           bif (Nat.ble ((ByteArray.size (ByteArray.mk (List.toArray ((47:UInt8)::[]))))+(ByteArray.size (Ev.Seat.zD.name x5))) Ev.qL)then
            bif (Nat.ble ((ByteArray.size x4.2.1)+(ByteArray.size ((ByteArray.mk (List.toArray ((47:UInt8)::[])))++(Ev.Seat.zD.name x5)))) Ev.qL)then
             Option.bind (Ev.Seat.yR.v10 κ x4.1 (x4.2.1++((ByteArray.mk (List.toArray ((47:UInt8)::[])))++(Ev.Seat.zD.name x5))) x4.2.2.1 x4.2.2.2.1) fun x6=>
              some (.inl (x6.1,x6.2.1,x6.2.2))
            else
             none
           else
            none
         else
          none
    else
     none
 else
  none
def yR.w6(κ:Nat)(rec:((List zD)×ByteArray×Int)→Option (((List zD)×ByteArray)⊕(ByteArray)))(a0:List zD)(a1:ByteArray)(a2:Int):Option (((List zD)×ByteArray)⊕(ByteArray)):=
 bif (decide (a2<(((List.length a0):Nat):Int)))then
  Option.bind (Ev.Seat.yR.v7 κ a0 a1 a2) fun x0=>
   match x0 with
   | .inl x1=>
    rec (x1.1,x1.2.1,(IntKind.wrap IntKind.i64 (x1.2.2+(1:Int))))
   | .inr x2=>
    some (.inr x2)
 else
  some (.inl (a0,a1))
def yR.l6(κ:Nat):Nat→((List zD)×ByteArray×Int)→Option (((List zD)×ByteArray)⊕(ByteArray))
 |0,_ =>none
 |k+1,(a0,a1,a2)=>yR.w6 κ (yR.l6 κ k) a0 a1 a2
def yR(κ:Nat)(a0:List zD):Option (ByteArray):=
 Option.bind (Ev.Seat.yR.l6 κ κ (a0,(ByteArray.mk (List.toArray [])),(0:Int))) fun x0=>
  match x0 with
  | .inl x1=>
   bif (Ev.seq x1.2 (ByteArray.mk (List.toArray [])))then
    some (ByteArray.mk (List.toArray ((47:UInt8)::[])))
   else
    bif (decide ((((List.length x1.1):Nat):Int)>(6:Int)))then
     some (ByteArray.mk (List.toArray []))
    else
     some x1.2
  | .inr x2=>
   some x2
def qB.v3(κ:Nat)(a0:ByteArray)(a1:Int):Option (ByteArray×Int×Bool):=
 bif (decide (a1<(((ByteArray.size a0):Nat):Int)))then
  bif (decide ((0:Int)≤a1))then
   Option.bind ((Array.toList (ByteArray.data a0))[(Int.toNat a1)]?) fun x0=>
    bif (decide ((((UInt8.toNat x0):Nat):Int)≥(97:Int)))then
     bif (decide ((0:Int)≤a1))then
      Option.bind ((Array.toList (ByteArray.data a0))[(Int.toNat a1)]?) fun x5=>
       bif (decide ((((UInt8.toNat x5):Nat):Int)≤(122:Int)))then
        some (a0,a1,Bool.true)
       else
        bif (decide ((0:Int)≤a1))then
         Option.bind ((Array.toList (ByteArray.data a0))[(Int.toNat a1)]?) fun x6=>
          bif (decide ((((UInt8.toNat x6):Nat):Int)≥(48:Int)))then
           bif (decide ((0:Int)≤a1))then
            Option.bind ((Array.toList (ByteArray.data a0))[(Int.toNat a1)]?) fun x8=>
             bif (decide ((((UInt8.toNat x8):Nat):Int)≤(57:Int)))then
              some (a0,a1,Bool.true)
             else
              bif (decide ((0:Int)≤a1))then
               Option.bind ((Array.toList (ByteArray.data a0))[(Int.toNat a1)]?) fun x9=>
                some (a0,a1,((((UInt8.toNat x9):Nat):Int)==(45:Int)))
              else
               none
           else
            none
          else
           bif (decide ((0:Int)≤a1))then
            Option.bind ((Array.toList (ByteArray.data a0))[(Int.toNat a1)]?) fun x7=>
             some (a0,a1,((((UInt8.toNat x7):Nat):Int)==(45:Int)))
           else
            none
        else
         none
     else
      none
    else
     bif (decide ((0:Int)≤a1))then
      Option.bind ((Array.toList (ByteArray.data a0))[(Int.toNat a1)]?) fun x1=>
       bif (decide ((((UInt8.toNat x1):Nat):Int)≥(48:Int)))then
        bif (decide ((0:Int)≤a1))then
         Option.bind ((Array.toList (ByteArray.data a0))[(Int.toNat a1)]?) fun x3=>
          bif (decide ((((UInt8.toNat x3):Nat):Int)≤(57:Int)))then
           some (a0,a1,Bool.true)
          else
           bif (decide ((0:Int)≤a1))then
            Option.bind ((Array.toList (ByteArray.data a0))[(Int.toNat a1)]?) fun x4=>
             some (a0,a1,((((UInt8.toNat x4):Nat):Int)==(45:Int)))
           else
            none
        else
         none
       else
        bif (decide ((0:Int)≤a1))then
         Option.bind ((Array.toList (ByteArray.data a0))[(Int.toNat a1)]?) fun x2=>
          some (a0,a1,((((UInt8.toNat x2):Nat):Int)==(45:Int)))
        else
         none
     else
      none
  else
   none
 else
  some (a0,a1,Bool.false)
def qB.w2(κ:Nat)(rec:(ByteArray×Int)→Option (Int))(a0:ByteArray)(a1:Int):Option (Int):=
 Option.bind (Ev.Seat.qB.v3 κ a0 a1) fun x0=>
  bif x0.2.2 then
   rec (x0.1,(IntKind.wrap IntKind.i64 (x0.2.1+(1:Int))))
  else
   some x0.2.1
def qB.l2(κ:Nat):Nat→(ByteArray×Int)→Option (Int)
 |0,_ =>none
 |k+1,(a0,a1)=>qB.w2 κ (qB.l2 κ k) a0 a1
def qB(κ:Nat)(a0:ByteArray)(a1:Int):Option (Int):=
 Option.bind (Ev.Seat.qB.l2 κ κ (a0,a1)) fun x0=>
  some x0
def z6.v21(κ:Nat)(a0:ByteArray)(a1:Int)(a2:List zD):Option (ByteArray×Int×Bool×(List zD)):=
 bif (decide (a1<(((ByteArray.size a0):Nat):Int)))then
  some (a0,a1,Bool.true,a2)
 else
  some (a0,a1,(a1==(0:Int)),a2)
def z6.v23(κ:Nat)(a0:ByteArray)(a1:Int)(a2:List zD):Option (ByteArray×Int×Bool×(List zD)):=
 bif (decide (a1≥(((ByteArray.size a0):Nat):Int)))then
  some (a0,a1,Bool.true,a2)
 else
  bif (decide ((0:Int)≤a1))then
   Option.bind ((Array.toList (ByteArray.data a0))[(Int.toNat a1)]?) fun x0=>
    some (a0,a1,((((UInt8.toNat x0):Nat):Int) !=(47:Int)),a2)
  else
   none
def z6.v25(κ:Nat)(a0:ByteArray)(a1:Int)(a2:List zD)(a3 a4:ByteArray):Option (ByteArray×Int×Bool×(List zD)×ByteArray×ByteArray):=
 bif (decide (a1<(((ByteArray.size a0):Nat):Int)))then
  bif (decide ((0:Int)≤a1))then
   Option.bind ((Array.toList (ByteArray.data a0))[(Int.toNat a1)]?) fun x0=>
    some (a0,a1,((((UInt8.toNat x0):Nat):Int)==(91:Int)),a2,a3,a4)
  else
   none
 else
  some (a0,a1,Bool.false,a2,a3,a4)
def z6.v28(κ:Nat)(a0:ByteArray)(a1:Int)(a2:List zD)(a3 a4:ByteArray):Option (ByteArray×Int×Bool×(List zD)×ByteArray×ByteArray):=
 bif (decide (a1≥(((ByteArray.size a0):Nat):Int)))then
  some (a0,a1,Bool.true,a2,a3,a4)
 else
  bif (decide ((0:Int)≤a1))then
   Option.bind ((Array.toList (ByteArray.data a0))[(Int.toNat a1)]?) fun x0=>
    some (a0,a1,((((UInt8.toNat x0):Nat):Int) !=(93:Int)),a2,a3,a4)
  else
   none
def z6.v27(κ:Nat)(a0:ByteArray)(a1:Int)(a2:Bool)(a3:List zD)(a4 a5:ByteArray):Option ((ByteArray×Int×(List zD)×ByteArray×ByteArray)⊕(Int×Int)):=
 bif a2 then
  Option.bind (Ev.Seat.qB κ a0 (IntKind.wrap IntKind.i64 (a1+(1:Int)))) fun x0=>
   bif ((((decide ((0:Int)≤x0))&&(decide (x0≤(((ByteArray.size a0):Nat):Int))))&&(decide ((0:Int)≤(IntKind.wrap IntKind.i64 (a1+(1:Int))))))&&(decide ((IntKind.wrap IntKind.i64 (a1+(1:Int)))≤x0)))then
    Option.bind (Ev.Seat.yD κ (ByteArray.extract a0 (Int.toNat (IntKind.wrap IntKind.i64 (a1+(1:Int)))) (Int.toNat x0))) fun x1=>
     bif (!x1)then
      some (.inr ((22:Int),(IntKind.wrap IntKind.i64 (a1+(1:Int)))))
     else
      Option.bind (Ev.Seat.z6.v28 κ a0 x0 a3 a4 (ByteArray.extract a0 (Int.toNat (IntKind.wrap IntKind.i64 (a1+(1:Int)))) (Int.toNat x0))) fun x2=>
       bif x2.2.2.1 then
        some (.inr ((21:Int),x2.2.1))
       else
        some (.inl (x2.1,(IntKind.wrap IntKind.i64 (x2.2.1+(1:Int))),x2.2.2.2.1,x2.2.2.2.2.1,x2.2.2.2.2.2))
   else
    none
 else
  some (.inl (a0,a1,a3,a4,a5))
def z6.w20(κ:Nat)(rec:(ByteArray×Int×(List zD))→Option (((List zD))⊕(Int×Int)))(a0:ByteArray)(a1:Int)(a2:List zD):Option (((List zD))⊕(Int×Int)):=
 Option.bind (Ev.Seat.z6.v21 κ a0 a1 a2) fun x0=>
  bif x0.2.2.1 then
   Option.bind (Ev.Seat.z6.v23 κ x0.1 x0.2.1 x0.2.2.2) fun x1=>
    bif x1.2.2.1 then
     some (.inr ((21:Int),x1.2.1))
    else
     bif ((((List.length x1.2.2.2):Nat):Int)==(6:Int))then
      some (.inr ((13:Int),x1.2.1))
     else
      Option.bind (Ev.Seat.qB κ x1.1 (IntKind.wrap IntKind.i64 (x1.2.1+(1:Int)))) fun x2=>
       bif ((((decide ((0:Int)≤x2))&&(decide (x2≤(((ByteArray.size x1.1):Nat):Int))))&&(decide ((0:Int)≤(IntKind.wrap IntKind.i64 (x1.2.1+(1:Int))))))&&(decide ((IntKind.wrap IntKind.i64 (x1.2.1+(1:Int)))≤x2)))then
        Option.bind (Ev.Seat.yD κ (ByteArray.extract x1.1 (Int.toNat (IntKind.wrap IntKind.i64 (x1.2.1+(1:Int)))) (Int.toNat x2))) fun x3=>
         bif (!x3)then
          some (.inr ((22:Int),(IntKind.wrap IntKind.i64 (x1.2.1+(1:Int)))))
         else
          Option.bind (Ev.Seat.z6.v25 κ x1.1 x2 x1.2.2.2 (ByteArray.extract x1.1 (Int.toNat (IntKind.wrap IntKind.i64 (x1.2.1+(1:Int)))) (Int.toNat x2)) (ByteArray.mk (List.toArray []))) fun x4=>
           Option.bind (Ev.Seat.z6.v27 κ x4.1 x4.2.1 x4.2.2.1 x4.2.2.2.1 x4.2.2.2.2.1 x4.2.2.2.2.2) fun x5=>
            match x5 with
            | .inl x6=>
             bif (Nat.ble ((List.length x6.2.2.1)+(List.length ((Ev.Seat.zD.mk x6.2.2.2.1 x6.2.2.2.2)::[]))) (Ev.room (31+1)))then
              rec (x6.1,x6.2.1,(x6.2.2.1++((Ev.Seat.zD.mk x6.2.2.2.1 x6.2.2.2.2)::[])))
             else
              none
            | .inr x7=>
             some (.inr (x7.1,x7.2))
       else
        none
  else
   some (.inl x0.2.2.2)
def z6.l20(κ:Nat):Nat→(ByteArray×Int×(List zD))→Option (((List zD))⊕(Int×Int))
 |0,_ =>none
 |k+1,(a0,a1,a2)=>z6.w20 κ (z6.l20 κ k) a0 a1 a2
def z6(κ:Nat)(a0:ByteArray):Option (Int×Int×(List zD)):=
 bif (Ev.seq a0 (ByteArray.mk (List.toArray ((47:UInt8)::[]))))then
  some ((0:Int),(0:Int),[])
 else
  Option.bind (Ev.Seat.z6.l20 κ κ (a0,(0:Int),[])) fun x0=>
   match x0 with
   | .inl x1=>
    some ((0:Int),(0:Int),x1)
   | .inr x2=>
    some (x2.1,x2.2,[])
def yV.w0(κ:Nat)(rec:(Int×ByteArray)→Option (ByteArray))(a0:Int)(a1:ByteArray):Option (ByteArray):=
 bif (decide (a0>(9:Int)))then
  bif (Nat.ble ((ByteArray.size (ByteArray.mk (List.toArray (List.map (fun x=>(UInt8.ofNat (Int.toNat x))) ((IntKind.wrap IntKind.u8 (IntKind.wrap IntKind.u64 ((48:Int)+(Int.tmod (IntKind.wrap IntKind.u64 (Int.tdiv a0 (10:Int))) (10:Int)))))::[])))))+(ByteArray.size a1)) Ev.qL)then
   rec ((IntKind.wrap IntKind.u64 (Int.tdiv a0 (10:Int))),((ByteArray.mk (List.toArray (List.map (fun x=>(UInt8.ofNat (Int.toNat x))) ((IntKind.wrap IntKind.u8 (IntKind.wrap IntKind.u64 ((48:Int)+(Int.tmod (IntKind.wrap IntKind.u64 (Int.tdiv a0 (10:Int))) (10:Int)))))::[]))))++a1))
  else
   none
 else
  some a1
def yV.l0(κ:Nat):Nat→(Int×ByteArray)→Option (ByteArray)
 |0,_ =>none
 |k+1,(a0,a1)=>yV.w0 κ (yV.l0 κ k) a0 a1
def yV(κ:Nat)(a0:Int):Option (ByteArray):=
 Option.bind (Ev.Seat.yV.l0 κ κ (a0,(ByteArray.mk (List.toArray (List.map (fun x=>(UInt8.ofNat (Int.toNat x))) ((IntKind.wrap IntKind.u8 (IntKind.wrap IntKind.u64 ((48:Int)+(Int.tmod a0 (10:Int)))))::[])))))) fun x0=>
  some x0
def yw.v3(κ:Nat)(a0:ByteArray)(a1 a2:Int):Option (ByteArray×Int×Int×Bool):=
 bif (decide (a2<(((ByteArray.size a0):Nat):Int)))then
  some (a0,a1,a2,(decide (a2<(20:Int))))
 else
  some (a0,a1,a2,Bool.false)
def yw.w2(κ:Nat)(rec:(ByteArray×Int×Int)→Option (ByteArray×Int))(a0:ByteArray)(a1 a2:Int):Option (ByteArray×Int):=
 Option.bind (Ev.Seat.yw.v3 κ a0 a1 a2) fun x0=>
  bif x0.2.2.2 then
   bif (decide ((0:Int)≤x0.2.2.1))then
    Option.bind ((Array.toList (ByteArray.data x0.1))[(Int.toNat x0.2.2.1)]?) fun x1=>
     rec (x0.1,(IntKind.wrap IntKind.u64 ((IntKind.wrap IntKind.u64 ((IntKind.wrap IntKind.u64 ((10:Int)*x0.2.1))+(IntKind.wrap IntKind.u64 (((UInt8.toNat x1):Nat):Int))))-(48:Int))),(IntKind.wrap IntKind.i64 (x0.2.2.1+(1:Int))))
   else
    none
  else
   some (x0.1,x0.2.1)
def yw.l2(κ:Nat):Nat→(ByteArray×Int×Int)→Option (ByteArray×Int)
 |0,_ =>none
 |k+1,(a0,a1,a2)=>yw.w2 κ (yw.l2 κ k) a0 a1 a2
def yw(κ:Nat)(a0:ByteArray):Option (Int×Bool):=
 Option.bind (Ev.Seat.yw.l2 κ κ (a0,(0:Int),(0:Int))) fun x0=>
  Option.bind (Ev.Seat.yV κ x0.2) fun x1=>
   bif (!(Ev.seq x1 x0.1))then
    some ((0:Int),Bool.false)
   else
    some (x0.2,Bool.true)
def wC.v0(κ:Nat)(a0:Int):Option (Bool):=
 bif (decide (a0≥(97:Int)))then
  bif (decide (a0≤(122:Int)))then
   some Bool.true
  else
   bif (decide (a0≥(65:Int)))then
    bif (decide (a0≤(90:Int)))then
     some Bool.true
    else
     bif (decide (a0≥(48:Int)))then
      bif (decide (a0≤(57:Int)))then
       some Bool.true
      else
       bif (a0==(95:Int))then
        some Bool.true
       else
        bif (a0==(45:Int))then
         some Bool.true
        else
         some (a0==(46:Int))
     else
      bif (a0==(95:Int))then
       some Bool.true
      else
       bif (a0==(45:Int))then
        some Bool.true
       else
        some (a0==(46:Int))
   else
    bif (decide (a0≥(48:Int)))then
     bif (decide (a0≤(57:Int)))then
      some Bool.true
     else
      bif (a0==(95:Int))then
       some Bool.true
      else
       bif (a0==(45:Int))then
        some Bool.true
       else
        some (a0==(46:Int))
    else
     bif (a0==(95:Int))then
      some Bool.true
     else
      bif (a0==(45:Int))then
       some Bool.true
      else
       some (a0==(46:Int))
 else
  bif (decide (a0≥(65:Int)))then
   bif (decide (a0≤(90:Int)))then
    some Bool.true
   else
    bif (decide (a0≥(48:Int)))then
     bif (decide (a0≤(57:Int)))then
      some Bool.true
     else
      bif (a0==(95:Int))then
       some Bool.true
      else
       bif (a0==(45:Int))then
        some Bool.true
       else
        some (a0==(46:Int))
    else
     bif (a0==(95:Int))then
      some Bool.true
     else
      bif (a0==(45:Int))then
       some Bool.true
      else
       some (a0==(46:Int))
  else
   bif (decide (a0≥(48:Int)))then
    bif (decide (a0≤(57:Int)))then
     some Bool.true
    else
     bif (a0==(95:Int))then
      some Bool.true
     else
      bif (a0==(45:Int))then
       some Bool.true
      else
       some (a0==(46:Int))
   else
    bif (a0==(95:Int))then
     some Bool.true
    else
     bif (a0==(45:Int))then
      some Bool.true
     else
      some (a0==(46:Int))
def wC(κ:Nat)(a0:ByteArray):Option (Bool):=
 bif ((((ByteArray.size a0):Nat):Int) !=(1:Int))then
  some Bool.false
 else
  Option.bind ((Array.toList (ByteArray.data a0))[(Int.toNat (0:Int))]?) fun x0=>
   Option.bind (Ev.Seat.wC.v0 κ (((UInt8.toNat x0):Nat):Int)) fun x1=>
    some x1
def qS.w0(κ:Nat)(rec:(ByteArray×Int)→Option ((ByteArray)⊕(Bool)))(a0:ByteArray)(a1:Int):Option ((ByteArray)⊕(Bool)):=
 bif (decide (a1<(((ByteArray.size a0):Nat):Int)))then
  bif ((((decide ((0:Int)≤(IntKind.wrap IntKind.i64 (a1+(1:Int)))))&&(decide ((IntKind.wrap IntKind.i64 (a1+(1:Int)))≤(((ByteArray.size a0):Nat):Int))))&&(decide ((0:Int)≤a1)))&&(decide (a1≤(IntKind.wrap IntKind.i64 (a1+(1:Int))))))then
   Option.bind (Ev.Seat.wC κ (ByteArray.extract a0 (Int.toNat a1) (Int.toNat (IntKind.wrap IntKind.i64 (a1+(1:Int)))))) fun x0=>
    bif (!x0)then
     some (.inr Bool.false)
    else
     rec (a0,(IntKind.wrap IntKind.i64 (a1+(1:Int))))
  else
   none
 else
  some (.inl a0)
def qS.l0(κ:Nat):Nat→(ByteArray×Int)→Option ((ByteArray)⊕(Bool))
 |0,_ =>none
 |k+1,(a0,a1)=>qS.w0 κ (qS.l0 κ k) a0 a1
def qS(κ:Nat)(a0:ByteArray):Option (Bool):=
 Option.bind (Ev.Seat.qS.l0 κ κ (a0,(0:Int))) fun x0=>
  match x0 with
  | .inl x1=>
   some (!(Ev.seq x1 (ByteArray.mk (List.toArray []))))
  | .inr x2=>
   some x2
def zq.v40(κ:Nat)(a0 a1:ByteArray)(a2 a3 a4 a5:Int)(a6:Bool):Option (ByteArray×ByteArray×Int×Int×Int×Int):=
 bif a6 then
  some (a0,a1,a2,(IntKind.wrap IntKind.i64 (a3+a5)),a4,a5)
 else
  some (a0,a1,a2,a3,a4,a5)
def zq.v39(κ:Nat)(a0 a1:ByteArray)(a2 a3 a4 a5:Int):Option (ByteArray×ByteArray×Int×Int×Int×Int):=
 bif (decide ((0:Int)≤(IntKind.wrap IntKind.i64 (a2+a4))))then
  Option.bind ((Array.toList (ByteArray.data a0))[(Int.toNat (IntKind.wrap IntKind.i64 (a2+a4)))]?) fun x0=>
   bif (decide ((0:Int)≤a5))then
    Option.bind ((Array.toList (ByteArray.data (ByteArray.mk (List.toArray ((48:UInt8)::((49:UInt8)::((50:UInt8)::((51:UInt8)::((52:UInt8)::((53:UInt8)::((54:UInt8)::((55:UInt8)::((56:UInt8)::((57:UInt8)::((97:UInt8)::((98:UInt8)::((99:UInt8)::((100:UInt8)::((101:UInt8)::((102:UInt8)::[]))))))))))))))))))))[(Int.toNat a5)]?) fun x1=>
     Option.bind (Ev.Seat.zq.v40 κ a0 a1 a2 a3 a4 a5 ((((UInt8.toNat x0):Nat):Int)==(((UInt8.toNat x1):Nat):Int))) fun x2=>
      some (x2.1,x2.2.1,x2.2.2.1,x2.2.2.2.1,x2.2.2.2.2.1,x2.2.2.2.2.2)
   else
    none
 else
  none
def zq.w38(κ:Nat)(rec:(ByteArray×ByteArray×Int×Int×Int×Int)→Option (ByteArray×ByteArray×Int×Int×Int))(a0 a1:ByteArray)(a2 a3 a4 a5:Int):Option (ByteArray×ByteArray×Int×Int×Int):=
 bif (decide (a5<(16:Int)))then
  Option.bind (Ev.Seat.zq.v39 κ a0 a1 a2 a3 a4 a5) fun x0=>
   rec (x0.1,x0.2.1,x0.2.2.1,x0.2.2.2.1,x0.2.2.2.2.1,(IntKind.wrap IntKind.i64 (x0.2.2.2.2.2+(1:Int))))
 else
  some (a0,a1,a2,a3,a4)
def zq.l38(κ:Nat):Nat→(ByteArray×ByteArray×Int×Int×Int×Int)→Option (ByteArray×ByteArray×Int×Int×Int)
 |0,_ =>none
 |k+1,(a0,a1,a2,a3,a4,a5)=>zq.w38 κ (zq.l38 κ k) a0 a1 a2 a3 a4 a5
def zq.w33(κ:Nat)(rec:(ByteArray×ByteArray×Int×Int×Int)→Option (ByteArray×ByteArray×Int×Int))(a0 a1:ByteArray)(a2 a3 a4:Int):Option (ByteArray×ByteArray×Int×Int):=
 bif (decide (a4<(2:Int)))then
  Option.bind (Ev.Seat.zq.l38 κ κ (a0,a1,a2,(IntKind.wrap IntKind.i64 ((16:Int)*a3)),a4,(0:Int))) fun x0=>
   rec (x0.1,x0.2.1,x0.2.2.1,x0.2.2.2.1,(IntKind.wrap IntKind.i64 (x0.2.2.2.2+(1:Int))))
 else
  some (a0,a1,a2,a3)
def zq.l33(κ:Nat):Nat→(ByteArray×ByteArray×Int×Int×Int)→Option (ByteArray×ByteArray×Int×Int)
 |0,_ =>none
 |k+1,(a0,a1,a2,a3,a4)=>zq.w33 κ (zq.l33 κ k) a0 a1 a2 a3 a4
def zq.w22(κ:Nat)(rec:(ByteArray×ByteArray×Int)→Option (ByteArray))(a0 a1:ByteArray)(a2:Int):Option (ByteArray):=
 bif (decide ((IntKind.wrap IntKind.i64 (a2+(1:Int)))<(((ByteArray.size a0):Nat):Int)))then
  Option.bind (Ev.Seat.zq.l33 κ κ (a0,a1,a2,(0:Int),(0:Int))) fun x0=>
   bif (Nat.ble ((ByteArray.size x0.2.1)+(ByteArray.size (ByteArray.mk (List.toArray (List.map (fun x=>(UInt8.ofNat (Int.toNat x))) ((IntKind.wrap IntKind.u8 x0.2.2.2)::[])))))) Ev.qL)then
    rec (x0.1,(x0.2.1++(ByteArray.mk (List.toArray (List.map (fun x=>(UInt8.ofNat (Int.toNat x))) ((IntKind.wrap IntKind.u8 x0.2.2.2)::[]))))),(IntKind.wrap IntKind.i64 (x0.2.2.1+(2:Int))))
   else
    none
 else
  some a1
def zq.l22(κ:Nat):Nat→(ByteArray×ByteArray×Int)→Option (ByteArray)
 |0,_ =>none
 |k+1,(a0,a1,a2)=>zq.w22 κ (zq.l22 κ k) a0 a1 a2
def zq(κ:Nat)(a0:ByteArray):Option (ByteArray):=
 Option.bind (Ev.Seat.zq.l22 κ κ (a0,(ByteArray.mk (List.toArray [])),(0:Int))) fun x0=>
  some x0
def qZ.w0(κ:Nat)(rec:(ByteArray×Int)→Option ((ByteArray)⊕(ByteArray×ByteArray)))(a0:ByteArray)(a1:Int):Option ((ByteArray)⊕(ByteArray×ByteArray)):=
 bif (decide (a1<(((ByteArray.size a0):Nat):Int)))then
  bif (decide ((0:Int)≤a1))then
   Option.bind ((Array.toList (ByteArray.data a0))[(Int.toNat a1)]?) fun x0=>
    bif ((((UInt8.toNat x0):Nat):Int)==(32:Int))then
     bif ((((decide ((0:Int)≤a1))&&(decide (a1≤(((ByteArray.size a0):Nat):Int))))&&(decide ((0:Int)≤(0:Int))))&&(decide ((0:Int)≤a1)))then
      bif (((decide ((((ByteArray.size a0):Nat):Int)≤(((ByteArray.size a0):Nat):Int)))&&(decide ((0:Int)≤(IntKind.wrap IntKind.i64 (a1+(1:Int))))))&&(decide ((IntKind.wrap IntKind.i64 (a1+(1:Int)))≤(((ByteArray.size a0):Nat):Int))))then
       some (.inr ((ByteArray.extract a0 (Int.toNat (0:Int)) (Int.toNat a1)),(ByteArray.extract a0 (Int.toNat (IntKind.wrap IntKind.i64 (a1+(1:Int)))) (Int.toNat (((ByteArray.size a0):Nat):Int)))))
      else
       none
     else
      none
    else
     rec (a0,(IntKind.wrap IntKind.i64 (a1+(1:Int))))
  else
   none
 else
  some (.inl a0)
def qZ.l0(κ:Nat):Nat→(ByteArray×Int)→Option ((ByteArray)⊕(ByteArray×ByteArray))
 |0,_ =>none
 |k+1,(a0,a1)=>qZ.w0 κ (qZ.l0 κ k) a0 a1
def qZ(κ:Nat)(a0:ByteArray):Option (ByteArray×ByteArray):=
 Option.bind (Ev.Seat.qZ.l0 κ κ (a0,(0:Int))) fun x0=>
  match x0 with
  | .inl x1=>
   some (x1,(ByteArray.mk (List.toArray [])))
  | .inr x2=>
   some (x2.1,x2.2)
def qV.w0(κ:Nat)(rec:((List zD)×(List zD)×Int)→Option ((Unit)⊕(Bool)))(a0 a1:List zD)(a2:Int):Option ((Unit)⊕(Bool)):=
 bif (decide (a2<(((List.length a0):Nat):Int)))then
  bif (decide ((0:Int)≤a2))then
   Option.bind (a0[(Int.toNat a2)]?) fun x0=>
    bif (decide ((0:Int)≤a2))then
     Option.bind (a1[(Int.toNat a2)]?) fun x1=>
      bif (!((Ev.seq (Ev.Seat.zD.name x0) (Ev.Seat.zD.name x1))&&(Ev.seq (Ev.Seat.zD.key x0) (Ev.Seat.zD.key x1))))then
       some (.inr Bool.false)
      else
       rec (a0,a1,(IntKind.wrap IntKind.i64 (a2+(1:Int))))
    else
     none
  else
   none
 else
  some (.inl ())
def qV.l0(κ:Nat):Nat→((List zD)×(List zD)×Int)→Option ((Unit)⊕(Bool))
 |0,_ =>none
 |k+1,(a0,a1,a2)=>qV.w0 κ (qV.l0 κ k) a0 a1 a2
def qV(κ:Nat)(a0 a1:List zD):Option (Bool):=
 bif ((((List.length a0):Nat):Int) !=(((List.length a1):Nat):Int))then
  some Bool.false
 else
  Option.bind (Ev.Seat.qV.l0 κ κ (a0,a1,(0:Int))) fun x0=>
   match x0 with
   | .inl x1=>
    some Bool.true
   | .inr x2=>
    some x2
def yn.v0(κ:Nat)(a0:Int)(a1:List ByteArray):Option (Int×Bool×(List ByteArray)):=
 bif (decide (a0<(0:Int)))then
  some (a0,Bool.true,a1)
 else
  some (a0,(decide (a0≥(((List.length a1):Nat):Int))),a1)
def yn(κ:Nat)(a0:Int):Option (ByteArray):=
 Option.bind (Ev.Seat.yn.v0 κ a0 ((ByteArray.mk (List.toArray ((108:UInt8)::((111:UInt8)::((99:UInt8)::((107:UInt8)::[]))))))::((ByteArray.mk (List.toArray ((117:UInt8)::((110:UInt8)::((108:UInt8)::((111:UInt8)::((99:UInt8)::((107:UInt8)::[]))))))))::((ByteArray.mk (List.toArray ((100:UInt8)::((105:UInt8)::((115:UInt8)::((99:UInt8)::((97:UInt8)::((114:UInt8)::((100:UInt8)::[])))))))))::((ByteArray.mk (List.toArray ((99:UInt8)::((104:UInt8)::((101:UInt8)::((99:UInt8)::((107:UInt8)::[])))))))::((ByteArray.mk (List.toArray ((99:UInt8)::((111:UInt8)::((110:UInt8)::((102:UInt8)::((105:UInt8)::((114:UInt8)::((109:UInt8)::[])))))))))::((ByteArray.mk (List.toArray ((99:UInt8)::((97:UInt8)::((110:UInt8)::((99:UInt8)::((101:UInt8)::((108:UInt8)::[]))))))))::((ByteArray.mk (List.toArray ((115:UInt8)::((97:UInt8)::((118:UInt8)::((101:UInt8)::[]))))))::((ByteArray.mk (List.toArray ((115:UInt8)::((101:UInt8)::((116:UInt8)::[])))))::((ByteArray.mk (List.toArray ((100:UInt8)::((101:UInt8)::((108:UInt8)::[])))))::((ByteArray.mk (List.toArray ((99:UInt8)::((111:UInt8)::((109:UInt8)::((109:UInt8)::((105:UInt8)::((116:UInt8)::[]))))))))::((ByteArray.mk (List.toArray ((114:UInt8)::((111:UInt8)::((108:UInt8)::((108:UInt8)::((98:UInt8)::((97:UInt8)::((99:UInt8)::((107:UInt8)::[]))))))))))::((ByteArray.mk (List.toArray ((112:UInt8)::((114:UInt8)::((117:UInt8)::((110:UInt8)::((101:UInt8)::[])))))))::((ByteArray.mk (List.toArray ((115:UInt8)::((104:UInt8)::((111:UInt8)::((119:UInt8)::[]))))))::((ByteArray.mk (List.toArray ((108:UInt8)::((111:UInt8)::((97:UInt8)::((100:UInt8)::[]))))))::((ByteArray.mk (List.toArray ((108:UInt8)::((111:UInt8)::((97:UInt8)::((100:UInt8)::[]))))))::((ByteArray.mk (List.toArray ((112:UInt8)::((97:UInt8)::((99:UInt8)::((107:UInt8)::((101:UInt8)::((116:UInt8)::[]))))))))::((ByteArray.mk (List.toArray ((116:UInt8)::((105:UInt8)::((99:UInt8)::((107:UInt8)::[]))))))::((ByteArray.mk (List.toArray ((110:UInt8)::((101:UInt8)::((120:UInt8)::((116:UInt8)::[]))))))::((ByteArray.mk (List.toArray ((100:UInt8)::((117:UInt8)::((109:UInt8)::((112:UInt8)::[]))))))::[])))))))))))))))))))) fun x0=>
  bif x0.2.1 then
   some (ByteArray.mk (List.toArray []))
  else
   bif ((decide ((0:Int)≤x0.1))&&(Nat.blt (Int.toNat x0.1) (List.length x0.2.2)))then
    Option.bind (x0.2.2[(Int.toNat x0.1)]?) fun x1=>
     some x1
   else
    none
def jN.v0(κ:Nat)(a0:Bool)(a1 a2:Int)(a3:List zD)(a4:ByteArray)(a5:Int)(a6 a7:Bool)(a8:ByteArray)(a9 a10:Int)(a11:ByteArray)(a12 a13:Int)(a14:List zD)(a15:ByteArray)(a16:Int)(a17 a18:Bool)(a19:ByteArray)(a20 a21:Int)(a22:ByteArray):Option (Bool):=
 bif a0 then
  bif (a1==a12)then
   bif (a2==a13)then
    bif (Ev.seq a4 a15)then
     bif (a5==a16)then
      bif (a6==a17)then
       bif (a7==a18)then
        bif (Ev.seq a8 a19)then
         bif (a9==a20)then
          bif (a10==a21)then
           some (Ev.seq a11 a22)
          else
           some Bool.false
         else
          some Bool.false
        else
         some Bool.false
       else
        some Bool.false
      else
       some Bool.false
     else
      some Bool.false
    else
     some Bool.false
   else
    some Bool.false
  else
   some Bool.false
 else
  some Bool.false
def jN(κ:Nat)(a0 a1:Int)(a2:List zD)(a3:ByteArray)(a4:Int)(a5 a6:Bool)(a7:ByteArray)(a8 a9:Int)(a10:ByteArray)(a11 a12:Int)(a13:List zD)(a14:ByteArray)(a15:Int)(a16 a17:Bool)(a18:ByteArray)(a19 a20:Int)(a21:ByteArray):Option (Bool):=
 Option.bind (Ev.Seat.qV κ a2 a13) fun x0=>
  Option.bind (Ev.Seat.jN.v0 κ x0 a0 a1 a2 a3 a4 a5 a6 a7 a8 a9 a10 a11 a12 a13 a14 a15 a16 a17 a18 a19 a20 a21) fun x1=>
   some x1
def za.v0(κ:Nat)(a0:Int)(a1:Bool)(a2 a3:Int)(a4:List zD)(a5:ByteArray)(a6:Int)(a7 a8:Bool)(a9:ByteArray)(a10 a11:Int)(a12:ByteArray)(a13 a14:Int)(a15:ByteArray)(a16:Int)(a17 a18:Bool)(a19:ByteArray)(a20 a21:Int)(a22:ByteArray)(a23 a24:Int)(a25:ByteArray)(a26:Int)(a27 a28:Bool)(a29:ByteArray)(a30 a31:Int)(a32:ByteArray):Option (Int×Int×Int×(List zD)×ByteArray×Int×Bool×Bool×ByteArray×Int×Int×ByteArray×Int×Int×ByteArray×Int×Bool×Bool×ByteArray×Int×Int×ByteArray×Int×Int×ByteArray×Int×Bool×Bool×ByteArray×Int×Int×ByteArray):=
 bif a1 then
  some (a0,a2,a3,a4,a5,a6,a7,a8,a9,a10,a11,a12,a13,a14,a15,a16,a17,a18,a19,a20,a21,a22,a23,a3,a25,a26,a27,a28,a29,a30,a31,a32)
 else
  some (a0,a2,a3,a4,a5,a6,a7,a8,a9,a10,a11,a12,a13,a14,a15,a16,a17,a18,a19,a20,a21,a22,a23,a24,a25,a26,a27,a28,a29,a30,a31,a32)
def za.v2(κ:Nat)(a0 a1 a2:Int)(a3:List zD)(a4:ByteArray)(a5:Int)(a6 a7:Bool)(a8:ByteArray)(a9 a10:Int)(a11:ByteArray)(a12 a13:Int)(a14:ByteArray)(a15:Int)(a16 a17:Bool)(a18:ByteArray)(a19 a20:Int)(a21:ByteArray)(a22 a23:Int)(a24:ByteArray)(a25:Int)(a26 a27:Bool)(a28:ByteArray)(a29 a30:Int)(a31:ByteArray):Option (Int×Bool×Int×Int×(List zD)×ByteArray×Int×Bool×Bool×ByteArray×Int×Int×ByteArray×Int×Int×ByteArray×Int×Bool×Bool×ByteArray×Int×Int×ByteArray×Int×Int×ByteArray×Int×Bool×Bool×ByteArray×Int×Int×ByteArray):=
 bif (a0==(7:Int))then
  some (a0,Bool.true,a1,a2,a3,a4,a5,a6,a7,a8,a9,a10,a11,a12,a13,a14,a15,a16,a17,a18,a19,a20,a21,a22,a23,a24,a25,a26,a27,a28,a29,a30,a31)
 else
  some (a0,(a0==(8:Int)),a1,a2,a3,a4,a5,a6,a7,a8,a9,a10,a11,a12,a13,a14,a15,a16,a17,a18,a19,a20,a21,a22,a23,a24,a25,a26,a27,a28,a29,a30,a31)
def za.v4(κ:Nat)(a0:Int)(a1:Bool)(a2 a3:Int)(a4:List zD)(a5:ByteArray)(a6:Int)(a7 a8:Bool)(a9:ByteArray)(a10 a11:Int)(a12:ByteArray)(a13 a14:Int)(a15:ByteArray)(a16:Int)(a17 a18:Bool)(a19:ByteArray)(a20 a21:Int)(a22:ByteArray)(a23 a24:Int)(a25:ByteArray)(a26:Int)(a27 a28:Bool)(a29:ByteArray)(a30 a31:Int)(a32:ByteArray):Option Ty5:=
 bif a1 then
  some (a0,a2,a3,a4,a5,a6,a7,a8,a9,a10,a11,a12,a13,a14,a15,a16,a17,a18,a19,a20,a21,a22,a23,a24,a4,a25,a26,a27,a28,a29,a30,a31,a32)
 else
  some (a0,a2,a3,a4,a5,a6,a7,a8,a9,a10,a11,a12,a13,a14,a15,a16,a17,a18,a19,a20,a21,a22,a23,a24,[],a25,a26,a27,a28,a29,a30,a31,a32)
def za.v6(κ:Nat)(a0:Int)(a1:Bool)(a2 a3:Int)(a4:List zD)(a5:ByteArray)(a6:Int)(a7 a8:Bool)(a9:ByteArray)(a10 a11:Int)(a12:ByteArray)(a13 a14:Int)(a15:ByteArray)(a16:Int)(a17 a18:Bool)(a19:ByteArray)(a20 a21:Int)(a22:ByteArray)(a23 a24:Int)(a25:List zD)(a26:ByteArray)(a27:Int)(a28 a29:Bool)(a30:ByteArray)(a31 a32:Int)(a33:ByteArray):Option Ty5:=
 bif a1 then
  some (a0,a2,a3,a4,a5,a6,a7,a8,a9,a10,a11,a12,a13,a14,a15,a16,a17,a18,a19,a20,a21,a22,a23,a24,a25,a5,a27,a28,a29,a30,a31,a32,a33)
 else
  some (a0,a2,a3,a4,a5,a6,a7,a8,a9,a10,a11,a12,a13,a14,a15,a16,a17,a18,a19,a20,a21,a22,a23,a24,a25,a26,a27,a28,a29,a30,a31,a32,a33)
def za.v8(κ:Nat)(a0 a1 a2:Int)(a3:List zD)(a4:ByteArray)(a5:Int)(a6 a7:Bool)(a8:ByteArray)(a9 a10:Int)(a11:ByteArray)(a12 a13:Int)(a14:ByteArray)(a15:Int)(a16 a17:Bool)(a18:ByteArray)(a19 a20:Int)(a21:ByteArray)(a22 a23:Int)(a24:List zD)(a25:ByteArray)(a26:Int)(a27 a28:Bool)(a29:ByteArray)(a30 a31:Int)(a32:ByteArray):Option zkp:=
 bif (decide (a0≥(9:Int)))then
  bif (decide (a0≤(12:Int)))then
   some (a0,Bool.true,a1,a2,a3,a4,a5,a6,a7,a8,a9,a10,a11,a12,a13,a14,a15,a16,a17,a18,a19,a20,a21,a22,a23,a24,a25,a26,a27,a28,a29,a30,a31,a32)
  else
   some (a0,(a0==(16:Int)),a1,a2,a3,a4,a5,a6,a7,a8,a9,a10,a11,a12,a13,a14,a15,a16,a17,a18,a19,a20,a21,a22,a23,a24,a25,a26,a27,a28,a29,a30,a31,a32)
 else
  some (a0,(a0==(16:Int)),a1,a2,a3,a4,a5,a6,a7,a8,a9,a10,a11,a12,a13,a14,a15,a16,a17,a18,a19,a20,a21,a22,a23,a24,a25,a26,a27,a28,a29,a30,a31,a32)
def za.v10(κ:Nat)(a0:Int)(a1:Bool)(a2 a3:Int)(a4:List zD)(a5:ByteArray)(a6:Int)(a7 a8:Bool)(a9:ByteArray)(a10 a11:Int)(a12:ByteArray)(a13 a14:Int)(a15:ByteArray)(a16:Int)(a17 a18:Bool)(a19:ByteArray)(a20 a21:Int)(a22:ByteArray)(a23 a24:Int)(a25:List zD)(a26:ByteArray)(a27:Int)(a28 a29:Bool)(a30:ByteArray)(a31 a32:Int)(a33:ByteArray):Option Ty5:=
 bif a1 then
  some (a0,a2,a3,a4,a5,a6,a7,a8,a9,a10,a11,a12,a13,a14,a15,a16,a17,a18,a19,a20,a21,a22,a23,a24,a25,a26,a6,a28,a29,a30,a31,a32,a33)
 else
  some (a0,a2,a3,a4,a5,a6,a7,a8,a9,a10,a11,a12,a13,a14,a15,a16,a17,a18,a19,a20,a21,a22,a23,a24,a25,a26,a27,a28,a29,a30,a31,a32,a33)
def za.v12(κ:Nat)(a0:Int)(a1:Bool)(a2 a3:Int)(a4:List zD)(a5:ByteArray)(a6:Int)(a7 a8:Bool)(a9:ByteArray)(a10 a11:Int)(a12:ByteArray)(a13 a14:Int)(a15:ByteArray)(a16:Int)(a17 a18:Bool)(a19:ByteArray)(a20 a21:Int)(a22:ByteArray)(a23 a24:Int)(a25:List zD)(a26:ByteArray)(a27:Int)(a28 a29:Bool)(a30:ByteArray)(a31 a32:Int)(a33:ByteArray):Option Ty5:=
 bif a1 then
  some (a0,a2,a3,a4,a5,a6,a7,a8,a9,a10,a11,a12,a13,a14,a15,a16,a17,a18,a19,a20,a21,a22,a23,a24,a25,a26,a27,a7,a8,a30,a31,a32,a33)
 else
  some (a0,a2,a3,a4,a5,a6,a7,a8,a9,a10,a11,a12,a13,a14,a15,a16,a17,a18,a19,a20,a21,a22,a23,a24,a25,a26,a27,a28,a29,a30,a31,a32,a33)
def za.v14(κ:Nat)(a0 a1 a2:Int)(a3:List zD)(a4:ByteArray)(a5:Int)(a6 a7:Bool)(a8:ByteArray)(a9 a10:Int)(a11:ByteArray)(a12 a13:Int)(a14:ByteArray)(a15:Int)(a16 a17:Bool)(a18:ByteArray)(a19 a20:Int)(a21:ByteArray)(a22 a23:Int)(a24:List zD)(a25:ByteArray)(a26:Int)(a27 a28:Bool)(a29:ByteArray)(a30 a31:Int)(a32:ByteArray):Option zkp:=
 bif (a0==(13:Int))then
  some (a0,Bool.true,a1,a2,a3,a4,a5,a6,a7,a8,a9,a10,a11,a12,a13,a14,a15,a16,a17,a18,a19,a20,a21,a22,a23,a24,a25,a26,a27,a28,a29,a30,a31,a32)
 else
  some (a0,(a0==(14:Int)),a1,a2,a3,a4,a5,a6,a7,a8,a9,a10,a11,a12,a13,a14,a15,a16,a17,a18,a19,a20,a21,a22,a23,a24,a25,a26,a27,a28,a29,a30,a31,a32)
def za.v16(κ:Nat)(a0:Int)(a1:Bool)(a2 a3:Int)(a4:List zD)(a5:ByteArray)(a6:Int)(a7 a8:Bool)(a9:ByteArray)(a10 a11:Int)(a12:ByteArray)(a13 a14:Int)(a15:ByteArray)(a16:Int)(a17 a18:Bool)(a19:ByteArray)(a20 a21:Int)(a22:ByteArray)(a23 a24:Int)(a25:List zD)(a26:ByteArray)(a27:Int)(a28 a29:Bool)(a30:ByteArray)(a31 a32:Int)(a33:ByteArray):Option Ty5:=
 bif a1 then
  some (a0,a2,a3,a4,a5,a6,a7,a8,a9,a10,a11,a12,a13,a14,a15,a16,a17,a18,a19,a20,a21,a22,a23,a24,a25,a26,a27,a28,a29,a30,a31,a32,a12)
 else
  some (a0,a2,a3,a4,a5,a6,a7,a8,a9,a10,a11,a12,a13,a14,a15,a16,a17,a18,a19,a20,a21,a22,a23,a24,a25,a26,a27,a28,a29,a30,a31,a32,a33)
def za.v18(κ:Nat)(a0 a1 a2:Int)(a3:List zD)(a4:ByteArray)(a5:Int)(a6 a7:Bool)(a8:ByteArray)(a9 a10:Int)(a11:ByteArray)(a12 a13:Int)(a14:ByteArray)(a15:Int)(a16 a17:Bool)(a18:ByteArray)(a19 a20:Int)(a21:ByteArray)(a22 a23:Int)(a24:List zD)(a25:ByteArray)(a26:Int)(a27 a28:Bool)(a29:ByteArray)(a30 a31:Int)(a32:ByteArray):Option zkp:=
 bif (a0==(15:Int))then
  some (a0,Bool.true,a1,a2,a3,a4,a5,a6,a7,a8,a9,a10,a11,a12,a13,a14,a15,a16,a17,a18,a19,a20,a21,a22,a23,a24,a25,a26,a27,a28,a29,a30,a31,a32)
 else
  some (a0,(decide (a0>(16:Int))),a1,a2,a3,a4,a5,a6,a7,a8,a9,a10,a11,a12,a13,a14,a15,a16,a17,a18,a19,a20,a21,a22,a23,a24,a25,a26,a27,a28,a29,a30,a31,a32)
def za.v20(κ:Nat)(a0:Int)(a1:Bool)(a2 a3:Int)(a4:List zD)(a5:ByteArray)(a6:Int)(a7 a8:Bool)(a9:ByteArray)(a10 a11:Int)(a12:ByteArray)(a13 a14:Int)(a15:ByteArray)(a16:Int)(a17 a18:Bool)(a19:ByteArray)(a20 a21:Int)(a22:ByteArray)(a23 a24:Int)(a25:List zD)(a26:ByteArray)(a27:Int)(a28 a29:Bool)(a30:ByteArray)(a31 a32:Int)(a33:ByteArray):Option Ty5:=
 bif a1 then
  some (a0,a2,a3,a4,a5,a6,a7,a8,a9,a10,a11,a12,a13,a14,a15,a16,a17,a18,a19,a20,a21,a22,a23,a24,a25,a26,a27,a28,a29,a9,a31,a32,a33)
 else
  some (a0,a2,a3,a4,a5,a6,a7,a8,a9,a10,a11,a12,a13,a14,a15,a16,a17,a18,a19,a20,a21,a22,a23,a24,a25,a26,a27,a28,a29,a30,a31,a32,a33)
def za.v22(κ:Nat)(a0:Bool)(a1 a2:Int)(a3:List zD)(a4:ByteArray)(a5:Int)(a6 a7:Bool)(a8:ByteArray)(a9 a10:Int)(a11:ByteArray)(a12 a13:Int)(a14:ByteArray)(a15:Int)(a16 a17:Bool)(a18:ByteArray)(a19 a20:Int)(a21:ByteArray)(a22 a23:Int)(a24:List zD)(a25:ByteArray)(a26:Int)(a27 a28:Bool)(a29:ByteArray)(a30 a31:Int)(a32:ByteArray):Option (Int×Int×ByteArray×Int×Bool×Bool×ByteArray×Int×Int×ByteArray×Int×Int×(List zD)×ByteArray×Int×Bool×Bool×ByteArray×Int×Int×ByteArray):=
 bif a0 then
  some (a12,a13,a14,a15,a16,a17,a18,a19,a20,a21,a22,a23,a24,a25,a26,a27,a28,a29,a9,a10,a32)
 else
  some (a12,a13,a14,a15,a16,a17,a18,a19,a20,a21,a22,a23,a24,a25,a26,a27,a28,a29,a30,a31,a32)
def za(κ:Nat)(a0 a1:Int)(a2:List zD)(a3:ByteArray)(a4:Int)(a5 a6:Bool)(a7:ByteArray)(a8 a9:Int)(a10:ByteArray):Option zj5:=
 Option.bind (Ev.Seat.za.v0 κ a0 (decide (a0<(15:Int))) a0 a1 a2 a3 a4 a5 a6 a7 a8 a9 a10 (0:Int) (0:Int) (ByteArray.mk (List.toArray [])) (0:Int) Bool.false Bool.false (ByteArray.mk (List.toArray [])) (0:Int) (0:Int) (ByteArray.mk (List.toArray [])) a0 (0:Int) (ByteArray.mk (List.toArray [])) (0:Int) Bool.false Bool.false (ByteArray.mk (List.toArray [])) (0:Int) (0:Int) (ByteArray.mk (List.toArray []))) fun x0=>
  Option.bind (Ev.Seat.za.v2 κ x0.1 x0.2.1 x0.2.2.1 x0.2.2.2.1 x0.2.2.2.2.1 x0.2.2.2.2.2.1 x0.2.2.2.2.2.2.1 x0.2.2.2.2.2.2.2.1 x0.2.2.2.2.2.2.2.2.1 x0.2.2.2.2.2.2.2.2.2.1 x0.2.2.2.2.2.2.2.2.2.2.1 x0.2.2.2.2.2.2.2.2.2.2.2.1 x0.2.2.2.2.2.2.2.2.2.2.2.2.1 x0.2.2.2.2.2.2.2.2.2.2.2.2.2.1 x0.2.2.2.2.2.2.2.2.2.2.2.2.2.2.1 x0.2.2.2.2.2.2.2.2.2.2.2.2.2.2.2.1 x0.2.2.2.2.2.2.2.2.2.2.2.2.2.2.2.2.1 x0.2.2.2.2.2.2.2.2.2.2.2.2.2.2.2.2.2.1 x0.2.2.2.2.2.2.2.2.2.2.2.2.2.2.2.2.2.2.1 x0.2.2.2.2.2.2.2.2.2.2.2.2.2.2.2.2.2.2.2.1 x0.2.2.2.2.2.2.2.2.2.2.2.2.2.2.2.2.2.2.2.2.1 x0.2.2.2.2.2.2.2.2.2.2.2.2.2.2.2.2.2.2.2.2.2.1 x0.2.2.2.2.2.2.2.2.2.2.2.2.2.2.2.2.2.2.2.2.2.2.1 x0.2.2.2.2.2.2.2.2.2.2.2.2.2.2.2.2.2.2.2.2.2.2.2.1 x0.2.2.2.2.2.2.2.2.2.2.2.2.2.2.2.2.2.2.2.2.2.2.2.2.1 x0.2.2.2.2.2.2.2.2.2.2.2.2.2.2.2.2.2.2.2.2.2.2.2.2.2.1 x0.2.2.2.2.2.2.2.2.2.2.2.2.2.2.2.2.2.2.2.2.2.2.2.2.2.2.1 x0.2.2.2.2.2.2.2.2.2.2.2.2.2.2.2.2.2.2.2.2.2.2.2.2.2.2.2.1 x0.2.2.2.2.2.2.2.2.2.2.2.2.2.2.2.2.2.2.2.2.2.2.2.2.2.2.2.2.1 x0.2.2.2.2.2.2.2.2.2.2.2.2.2.2.2.2.2.2.2.2.2.2.2.2.2.2.2.2.2.1 x0.2.2.2.2.2.2.2.2.2.2.2.2.2.2.2.2.2.2.2.2.2.2.2.2.2.2.2.2.2.2.1 x0.2.2.2.2.2.2.2.2.2.2.2.2.2.2.2.2.2.2.2.2.2.2.2.2.2.2.2.2.2.2.2) fun x1=>
   Option.bind (Ev.Seat.za.v4 κ x1.1 x1.2.1 x1.2.2.1 x1.2.2.2.1 x1.2.2.2.2.1 x1.2.2.2.2.2.1 x1.2.2.2.2.2.2.1 x1.2.2.2.2.2.2.2.1 x1.2.2.2.2.2.2.2.2.1 x1.2.2.2.2.2.2.2.2.2.1 x1.2.2.2.2.2.2.2.2.2.2.1 x1.2.2.2.2.2.2.2.2.2.2.2.1 x1.2.2.2.2.2.2.2.2.2.2.2.2.1 x1.2.2.2.2.2.2.2.2.2.2.2.2.2.1 x1.2.2.2.2.2.2.2.2.2.2.2.2.2.2.1 x1.2.2.2.2.2.2.2.2.2.2.2.2.2.2.2.1 x1.2.2.2.2.2.2.2.2.2.2.2.2.2.2.2.2.1 x1.2.2.2.2.2.2.2.2.2.2.2.2.2.2.2.2.2.1 x1.2.2.2.2.2.2.2.2.2.2.2.2.2.2.2.2.2.2.1 x1.2.2.2.2.2.2.2.2.2.2.2.2.2.2.2.2.2.2.2.1 x1.2.2.2.2.2.2.2.2.2.2.2.2.2.2.2.2.2.2.2.2.1 x1.2.2.2.2.2.2.2.2.2.2.2.2.2.2.2.2.2.2.2.2.2.1 x1.2.2.2.2.2.2.2.2.2.2.2.2.2.2.2.2.2.2.2.2.2.2.1 x1.2.2.2.2.2.2.2.2.2.2.2.2.2.2.2.2.2.2.2.2.2.2.2.1 x1.2.2.2.2.2.2.2.2.2.2.2.2.2.2.2.2.2.2.2.2.2.2.2.2.1 x1.2.2.2.2.2.2.2.2.2.2.2.2.2.2.2.2.2.2.2.2.2.2.2.2.2.1 x1.2.2.2.2.2.2.2.2.2.2.2.2.2.2.2.2.2.2.2.2.2.2.2.2.2.2.1 x1.2.2.2.2.2.2.2.2.2.2.2.2.2.2.2.2.2.2.2.2.2.2.2.2.2.2.2.1 x1.2.2.2.2.2.2.2.2.2.2.2.2.2.2.2.2.2.2.2.2.2.2.2.2.2.2.2.2.1 x1.2.2.2.2.2.2.2.2.2.2.2.2.2.2.2.2.2.2.2.2.2.2.2.2.2.2.2.2.2.1 x1.2.2.2.2.2.2.2.2.2.2.2.2.2.2.2.2.2.2.2.2.2.2.2.2.2.2.2.2.2.2.1 x1.2.2.2.2.2.2.2.2.2.2.2.2.2.2.2.2.2.2.2.2.2.2.2.2.2.2.2.2.2.2.2.1 x1.2.2.2.2.2.2.2.2.2.2.2.2.2.2.2.2.2.2.2.2.2.2.2.2.2.2.2.2.2.2.2.2) fun x2=>
    Option.bind (Ev.Seat.za.v6 κ x2.1 (x2.1==(7:Int)) x2.2.1 x2.2.2.1 x2.2.2.2.1 x2.2.2.2.2.1 x2.2.2.2.2.2.1 x2.2.2.2.2.2.2.1 x2.2.2.2.2.2.2.2.1 x2.2.2.2.2.2.2.2.2.1 x2.2.2.2.2.2.2.2.2.2.1 x2.2.2.2.2.2.2.2.2.2.2.1 x2.2.2.2.2.2.2.2.2.2.2.2.1 x2.2.2.2.2.2.2.2.2.2.2.2.2.1 x2.2.2.2.2.2.2.2.2.2.2.2.2.2.1 x2.2.2.2.2.2.2.2.2.2.2.2.2.2.2.1 x2.2.2.2.2.2.2.2.2.2.2.2.2.2.2.2.1 x2.2.2.2.2.2.2.2.2.2.2.2.2.2.2.2.2.1 x2.2.2.2.2.2.2.2.2.2.2.2.2.2.2.2.2.2.1 x2.2.2.2.2.2.2.2.2.2.2.2.2.2.2.2.2.2.2.1 x2.2.2.2.2.2.2.2.2.2.2.2.2.2.2.2.2.2.2.2.1 x2.2.2.2.2.2.2.2.2.2.2.2.2.2.2.2.2.2.2.2.2.1 x2.2.2.2.2.2.2.2.2.2.2.2.2.2.2.2.2.2.2.2.2.2.1 x2.2.2.2.2.2.2.2.2.2.2.2.2.2.2.2.2.2.2.2.2.2.2.1 x2.2.2.2.2.2.2.2.2.2.2.2.2.2.2.2.2.2.2.2.2.2.2.2.1 x2.2.2.2.2.2.2.2.2.2.2.2.2.2.2.2.2.2.2.2.2.2.2.2.2.1 x2.2.2.2.2.2.2.2.2.2.2.2.2.2.2.2.2.2.2.2.2.2.2.2.2.2.1 x2.2.2.2.2.2.2.2.2.2.2.2.2.2.2.2.2.2.2.2.2.2.2.2.2.2.2.1 x2.2.2.2.2.2.2.2.2.2.2.2.2.2.2.2.2.2.2.2.2.2.2.2.2.2.2.2.1 x2.2.2.2.2.2.2.2.2.2.2.2.2.2.2.2.2.2.2.2.2.2.2.2.2.2.2.2.2.1 x2.2.2.2.2.2.2.2.2.2.2.2.2.2.2.2.2.2.2.2.2.2.2.2.2.2.2.2.2.2.1 x2.2.2.2.2.2.2.2.2.2.2.2.2.2.2.2.2.2.2.2.2.2.2.2.2.2.2.2.2.2.2.1 x2.2.2.2.2.2.2.2.2.2.2.2.2.2.2.2.2.2.2.2.2.2.2.2.2.2.2.2.2.2.2.2.1 x2.2.2.2.2.2.2.2.2.2.2.2.2.2.2.2.2.2.2.2.2.2.2.2.2.2.2.2.2.2.2.2.2) fun x3=>
     Option.bind (Ev.Seat.za.v8 κ x3.1 x3.2.1 x3.2.2.1 x3.2.2.2.1 x3.2.2.2.2.1 x3.2.2.2.2.2.1 x3.2.2.2.2.2.2.1 x3.2.2.2.2.2.2.2.1 x3.2.2.2.2.2.2.2.2.1 x3.2.2.2.2.2.2.2.2.2.1 x3.2.2.2.2.2.2.2.2.2.2.1 x3.2.2.2.2.2.2.2.2.2.2.2.1 x3.2.2.2.2.2.2.2.2.2.2.2.2.1 x3.2.2.2.2.2.2.2.2.2.2.2.2.2.1 x3.2.2.2.2.2.2.2.2.2.2.2.2.2.2.1 x3.2.2.2.2.2.2.2.2.2.2.2.2.2.2.2.1 x3.2.2.2.2.2.2.2.2.2.2.2.2.2.2.2.2.1 x3.2.2.2.2.2.2.2.2.2.2.2.2.2.2.2.2.2.1 x3.2.2.2.2.2.2.2.2.2.2.2.2.2.2.2.2.2.2.1 x3.2.2.2.2.2.2.2.2.2.2.2.2.2.2.2.2.2.2.2.1 x3.2.2.2.2.2.2.2.2.2.2.2.2.2.2.2.2.2.2.2.2.1 x3.2.2.2.2.2.2.2.2.2.2.2.2.2.2.2.2.2.2.2.2.2.1 x3.2.2.2.2.2.2.2.2.2.2.2.2.2.2.2.2.2.2.2.2.2.2.1 x3.2.2.2.2.2.2.2.2.2.2.2.2.2.2.2.2.2.2.2.2.2.2.2.1 x3.2.2.2.2.2.2.2.2.2.2.2.2.2.2.2.2.2.2.2.2.2.2.2.2.1 x3.2.2.2.2.2.2.2.2.2.2.2.2.2.2.2.2.2.2.2.2.2.2.2.2.2.1 x3.2.2.2.2.2.2.2.2.2.2.2.2.2.2.2.2.2.2.2.2.2.2.2.2.2.2.1 x3.2.2.2.2.2.2.2.2.2.2.2.2.2.2.2.2.2.2.2.2.2.2.2.2.2.2.2.1 x3.2.2.2.2.2.2.2.2.2.2.2.2.2.2.2.2.2.2.2.2.2.2.2.2.2.2.2.2.1 x3.2.2.2.2.2.2.2.2.2.2.2.2.2.2.2.2.2.2.2.2.2.2.2.2.2.2.2.2.2.1 x3.2.2.2.2.2.2.2.2.2.2.2.2.2.2.2.2.2.2.2.2.2.2.2.2.2.2.2.2.2.2.1 x3.2.2.2.2.2.2.2.2.2.2.2.2.2.2.2.2.2.2.2.2.2.2.2.2.2.2.2.2.2.2.2.1 x3.2.2.2.2.2.2.2.2.2.2.2.2.2.2.2.2.2.2.2.2.2.2.2.2.2.2.2.2.2.2.2.2) fun x4=>
      Option.bind (Ev.Seat.za.v10 κ x4.1 x4.2.1 x4.2.2.1 x4.2.2.2.1 x4.2.2.2.2.1 x4.2.2.2.2.2.1 x4.2.2.2.2.2.2.1 x4.2.2.2.2.2.2.2.1 x4.2.2.2.2.2.2.2.2.1 x4.2.2.2.2.2.2.2.2.2.1 x4.2.2.2.2.2.2.2.2.2.2.1 x4.2.2.2.2.2.2.2.2.2.2.2.1 x4.2.2.2.2.2.2.2.2.2.2.2.2.1 x4.2.2.2.2.2.2.2.2.2.2.2.2.2.1 x4.2.2.2.2.2.2.2.2.2.2.2.2.2.2.1 x4.2.2.2.2.2.2.2.2.2.2.2.2.2.2.2.1 x4.2.2.2.2.2.2.2.2.2.2.2.2.2.2.2.2.1 x4.2.2.2.2.2.2.2.2.2.2.2.2.2.2.2.2.2.1 x4.2.2.2.2.2.2.2.2.2.2.2.2.2.2.2.2.2.2.1 x4.2.2.2.2.2.2.2.2.2.2.2.2.2.2.2.2.2.2.2.1 x4.2.2.2.2.2.2.2.2.2.2.2.2.2.2.2.2.2.2.2.2.1 x4.2.2.2.2.2.2.2.2.2.2.2.2.2.2.2.2.2.2.2.2.2.1 x4.2.2.2.2.2.2.2.2.2.2.2.2.2.2.2.2.2.2.2.2.2.2.1 x4.2.2.2.2.2.2.2.2.2.2.2.2.2.2.2.2.2.2.2.2.2.2.2.1 x4.2.2.2.2.2.2.2.2.2.2.2.2.2.2.2.2.2.2.2.2.2.2.2.2.1 x4.2.2.2.2.2.2.2.2.2.2.2.2.2.2.2.2.2.2.2.2.2.2.2.2.2.1 x4.2.2.2.2.2.2.2.2.2.2.2.2.2.2.2.2.2.2.2.2.2.2.2.2.2.2.1 x4.2.2.2.2.2.2.2.2.2.2.2.2.2.2.2.2.2.2.2.2.2.2.2.2.2.2.2.1 x4.2.2.2.2.2.2.2.2.2.2.2.2.2.2.2.2.2.2.2.2.2.2.2.2.2.2.2.2.1 x4.2.2.2.2.2.2.2.2.2.2.2.2.2.2.2.2.2.2.2.2.2.2.2.2.2.2.2.2.2.1 x4.2.2.2.2.2.2.2.2.2.2.2.2.2.2.2.2.2.2.2.2.2.2.2.2.2.2.2.2.2.2.1 x4.2.2.2.2.2.2.2.2.2.2.2.2.2.2.2.2.2.2.2.2.2.2.2.2.2.2.2.2.2.2.2.1 x4.2.2.2.2.2.2.2.2.2.2.2.2.2.2.2.2.2.2.2.2.2.2.2.2.2.2.2.2.2.2.2.2.1 x4.2.2.2.2.2.2.2.2.2.2.2.2.2.2.2.2.2.2.2.2.2.2.2.2.2.2.2.2.2.2.2.2.2) fun x5=>
       Option.bind (Ev.Seat.za.v12 κ x5.1 (x5.1==(12:Int)) x5.2.1 x5.2.2.1 x5.2.2.2.1 x5.2.2.2.2.1 x5.2.2.2.2.2.1 x5.2.2.2.2.2.2.1 x5.2.2.2.2.2.2.2.1 x5.2.2.2.2.2.2.2.2.1 x5.2.2.2.2.2.2.2.2.2.1 x5.2.2.2.2.2.2.2.2.2.2.1 x5.2.2.2.2.2.2.2.2.2.2.2.1 x5.2.2.2.2.2.2.2.2.2.2.2.2.1 x5.2.2.2.2.2.2.2.2.2.2.2.2.2.1 x5.2.2.2.2.2.2.2.2.2.2.2.2.2.2.1 x5.2.2.2.2.2.2.2.2.2.2.2.2.2.2.2.1 x5.2.2.2.2.2.2.2.2.2.2.2.2.2.2.2.2.1 x5.2.2.2.2.2.2.2.2.2.2.2.2.2.2.2.2.2.1 x5.2.2.2.2.2.2.2.2.2.2.2.2.2.2.2.2.2.2.1 x5.2.2.2.2.2.2.2.2.2.2.2.2.2.2.2.2.2.2.2.1 x5.2.2.2.2.2.2.2.2.2.2.2.2.2.2.2.2.2.2.2.2.1 x5.2.2.2.2.2.2.2.2.2.2.2.2.2.2.2.2.2.2.2.2.2.1 x5.2.2.2.2.2.2.2.2.2.2.2.2.2.2.2.2.2.2.2.2.2.2.1 x5.2.2.2.2.2.2.2.2.2.2.2.2.2.2.2.2.2.2.2.2.2.2.2.1 x5.2.2.2.2.2.2.2.2.2.2.2.2.2.2.2.2.2.2.2.2.2.2.2.2.1 x5.2.2.2.2.2.2.2.2.2.2.2.2.2.2.2.2.2.2.2.2.2.2.2.2.2.1 x5.2.2.2.2.2.2.2.2.2.2.2.2.2.2.2.2.2.2.2.2.2.2.2.2.2.2.1 x5.2.2.2.2.2.2.2.2.2.2.2.2.2.2.2.2.2.2.2.2.2.2.2.2.2.2.2.1 x5.2.2.2.2.2.2.2.2.2.2.2.2.2.2.2.2.2.2.2.2.2.2.2.2.2.2.2.2.1 x5.2.2.2.2.2.2.2.2.2.2.2.2.2.2.2.2.2.2.2.2.2.2.2.2.2.2.2.2.2.1 x5.2.2.2.2.2.2.2.2.2.2.2.2.2.2.2.2.2.2.2.2.2.2.2.2.2.2.2.2.2.2.1 x5.2.2.2.2.2.2.2.2.2.2.2.2.2.2.2.2.2.2.2.2.2.2.2.2.2.2.2.2.2.2.2.1 x5.2.2.2.2.2.2.2.2.2.2.2.2.2.2.2.2.2.2.2.2.2.2.2.2.2.2.2.2.2.2.2.2) fun x6=>
        Option.bind (Ev.Seat.za.v14 κ x6.1 x6.2.1 x6.2.2.1 x6.2.2.2.1 x6.2.2.2.2.1 x6.2.2.2.2.2.1 x6.2.2.2.2.2.2.1 x6.2.2.2.2.2.2.2.1 x6.2.2.2.2.2.2.2.2.1 x6.2.2.2.2.2.2.2.2.2.1 x6.2.2.2.2.2.2.2.2.2.2.1 x6.2.2.2.2.2.2.2.2.2.2.2.1 x6.2.2.2.2.2.2.2.2.2.2.2.2.1 x6.2.2.2.2.2.2.2.2.2.2.2.2.2.1 x6.2.2.2.2.2.2.2.2.2.2.2.2.2.2.1 x6.2.2.2.2.2.2.2.2.2.2.2.2.2.2.2.1 x6.2.2.2.2.2.2.2.2.2.2.2.2.2.2.2.2.1 x6.2.2.2.2.2.2.2.2.2.2.2.2.2.2.2.2.2.1 x6.2.2.2.2.2.2.2.2.2.2.2.2.2.2.2.2.2.2.1 x6.2.2.2.2.2.2.2.2.2.2.2.2.2.2.2.2.2.2.2.1 x6.2.2.2.2.2.2.2.2.2.2.2.2.2.2.2.2.2.2.2.2.1 x6.2.2.2.2.2.2.2.2.2.2.2.2.2.2.2.2.2.2.2.2.2.1 x6.2.2.2.2.2.2.2.2.2.2.2.2.2.2.2.2.2.2.2.2.2.2.1 x6.2.2.2.2.2.2.2.2.2.2.2.2.2.2.2.2.2.2.2.2.2.2.2.1 x6.2.2.2.2.2.2.2.2.2.2.2.2.2.2.2.2.2.2.2.2.2.2.2.2.1 x6.2.2.2.2.2.2.2.2.2.2.2.2.2.2.2.2.2.2.2.2.2.2.2.2.2.1 x6.2.2.2.2.2.2.2.2.2.2.2.2.2.2.2.2.2.2.2.2.2.2.2.2.2.2.1 x6.2.2.2.2.2.2.2.2.2.2.2.2.2.2.2.2.2.2.2.2.2.2.2.2.2.2.2.1 x6.2.2.2.2.2.2.2.2.2.2.2.2.2.2.2.2.2.2.2.2.2.2.2.2.2.2.2.2.1 x6.2.2.2.2.2.2.2.2.2.2.2.2.2.2.2.2.2.2.2.2.2.2.2.2.2.2.2.2.2.1 x6.2.2.2.2.2.2.2.2.2.2.2.2.2.2.2.2.2.2.2.2.2.2.2.2.2.2.2.2.2.2.1 x6.2.2.2.2.2.2.2.2.2.2.2.2.2.2.2.2.2.2.2.2.2.2.2.2.2.2.2.2.2.2.2.1 x6.2.2.2.2.2.2.2.2.2.2.2.2.2.2.2.2.2.2.2.2.2.2.2.2.2.2.2.2.2.2.2.2) fun x7=>
         Option.bind (Ev.Seat.za.v16 κ x7.1 x7.2.1 x7.2.2.1 x7.2.2.2.1 x7.2.2.2.2.1 x7.2.2.2.2.2.1 x7.2.2.2.2.2.2.1 x7.2.2.2.2.2.2.2.1 x7.2.2.2.2.2.2.2.2.1 x7.2.2.2.2.2.2.2.2.2.1 x7.2.2.2.2.2.2.2.2.2.2.1 x7.2.2.2.2.2.2.2.2.2.2.2.1 x7.2.2.2.2.2.2.2.2.2.2.2.2.1 x7.2.2.2.2.2.2.2.2.2.2.2.2.2.1 x7.2.2.2.2.2.2.2.2.2.2.2.2.2.2.1 x7.2.2.2.2.2.2.2.2.2.2.2.2.2.2.2.1 x7.2.2.2.2.2.2.2.2.2.2.2.2.2.2.2.2.1 x7.2.2.2.2.2.2.2.2.2.2.2.2.2.2.2.2.2.1 x7.2.2.2.2.2.2.2.2.2.2.2.2.2.2.2.2.2.2.1 x7.2.2.2.2.2.2.2.2.2.2.2.2.2.2.2.2.2.2.2.1 x7.2.2.2.2.2.2.2.2.2.2.2.2.2.2.2.2.2.2.2.2.1 x7.2.2.2.2.2.2.2.2.2.2.2.2.2.2.2.2.2.2.2.2.2.1 x7.2.2.2.2.2.2.2.2.2.2.2.2.2.2.2.2.2.2.2.2.2.2.1 x7.2.2.2.2.2.2.2.2.2.2.2.2.2.2.2.2.2.2.2.2.2.2.2.1 x7.2.2.2.2.2.2.2.2.2.2.2.2.2.2.2.2.2.2.2.2.2.2.2.2.1 x7.2.2.2.2.2.2.2.2.2.2.2.2.2.2.2.2.2.2.2.2.2.2.2.2.2.1 x7.2.2.2.2.2.2.2.2.2.2.2.2.2.2.2.2.2.2.2.2.2.2.2.2.2.2.1 x7.2.2.2.2.2.2.2.2.2.2.2.2.2.2.2.2.2.2.2.2.2.2.2.2.2.2.2.1 x7.2.2.2.2.2.2.2.2.2.2.2.2.2.2.2.2.2.2.2.2.2.2.2.2.2.2.2.2.1 x7.2.2.2.2.2.2.2.2.2.2.2.2.2.2.2.2.2.2.2.2.2.2.2.2.2.2.2.2.2.1 x7.2.2.2.2.2.2.2.2.2.2.2.2.2.2.2.2.2.2.2.2.2.2.2.2.2.2.2.2.2.2.1 x7.2.2.2.2.2.2.2.2.2.2.2.2.2.2.2.2.2.2.2.2.2.2.2.2.2.2.2.2.2.2.2.1 x7.2.2.2.2.2.2.2.2.2.2.2.2.2.2.2.2.2.2.2.2.2.2.2.2.2.2.2.2.2.2.2.2.1 x7.2.2.2.2.2.2.2.2.2.2.2.2.2.2.2.2.2.2.2.2.2.2.2.2.2.2.2.2.2.2.2.2.2) fun x8=>
          Option.bind (Ev.Seat.za.v18 κ x8.1 x8.2.1 x8.2.2.1 x8.2.2.2.1 x8.2.2.2.2.1 x8.2.2.2.2.2.1 x8.2.2.2.2.2.2.1 x8.2.2.2.2.2.2.2.1 x8.2.2.2.2.2.2.2.2.1 x8.2.2.2.2.2.2.2.2.2.1 x8.2.2.2.2.2.2.2.2.2.2.1 x8.2.2.2.2.2.2.2.2.2.2.2.1 x8.2.2.2.2.2.2.2.2.2.2.2.2.1 x8.2.2.2.2.2.2.2.2.2.2.2.2.2.1 x8.2.2.2.2.2.2.2.2.2.2.2.2.2.2.1 x8.2.2.2.2.2.2.2.2.2.2.2.2.2.2.2.1 x8.2.2.2.2.2.2.2.2.2.2.2.2.2.2.2.2.1 x8.2.2.2.2.2.2.2.2.2.2.2.2.2.2.2.2.2.1 x8.2.2.2.2.2.2.2.2.2.2.2.2.2.2.2.2.2.2.1 x8.2.2.2.2.2.2.2.2.2.2.2.2.2.2.2.2.2.2.2.1 x8.2.2.2.2.2.2.2.2.2.2.2.2.2.2.2.2.2.2.2.2.1 x8.2.2.2.2.2.2.2.2.2.2.2.2.2.2.2.2.2.2.2.2.2.1 x8.2.2.2.2.2.2.2.2.2.2.2.2.2.2.2.2.2.2.2.2.2.2.1 x8.2.2.2.2.2.2.2.2.2.2.2.2.2.2.2.2.2.2.2.2.2.2.2.1 x8.2.2.2.2.2.2.2.2.2.2.2.2.2.2.2.2.2.2.2.2.2.2.2.2.1 x8.2.2.2.2.2.2.2.2.2.2.2.2.2.2.2.2.2.2.2.2.2.2.2.2.2.1 x8.2.2.2.2.2.2.2.2.2.2.2.2.2.2.2.2.2.2.2.2.2.2.2.2.2.2.1 x8.2.2.2.2.2.2.2.2.2.2.2.2.2.2.2.2.2.2.2.2.2.2.2.2.2.2.2.1 x8.2.2.2.2.2.2.2.2.2.2.2.2.2.2.2.2.2.2.2.2.2.2.2.2.2.2.2.2.1 x8.2.2.2.2.2.2.2.2.2.2.2.2.2.2.2.2.2.2.2.2.2.2.2.2.2.2.2.2.2.1 x8.2.2.2.2.2.2.2.2.2.2.2.2.2.2.2.2.2.2.2.2.2.2.2.2.2.2.2.2.2.2.1 x8.2.2.2.2.2.2.2.2.2.2.2.2.2.2.2.2.2.2.2.2.2.2.2.2.2.2.2.2.2.2.2.1 x8.2.2.2.2.2.2.2.2.2.2.2.2.2.2.2.2.2.2.2.2.2.2.2.2.2.2.2.2.2.2.2.2) fun x9=>
           Option.bind (Ev.Seat.za.v20 κ x9.1 x9.2.1 x9.2.2.1 x9.2.2.2.1 x9.2.2.2.2.1 x9.2.2.2.2.2.1 x9.2.2.2.2.2.2.1 x9.2.2.2.2.2.2.2.1 x9.2.2.2.2.2.2.2.2.1 x9.2.2.2.2.2.2.2.2.2.1 x9.2.2.2.2.2.2.2.2.2.2.1 x9.2.2.2.2.2.2.2.2.2.2.2.1 x9.2.2.2.2.2.2.2.2.2.2.2.2.1 x9.2.2.2.2.2.2.2.2.2.2.2.2.2.1 x9.2.2.2.2.2.2.2.2.2.2.2.2.2.2.1 x9.2.2.2.2.2.2.2.2.2.2.2.2.2.2.2.1 x9.2.2.2.2.2.2.2.2.2.2.2.2.2.2.2.2.1 x9.2.2.2.2.2.2.2.2.2.2.2.2.2.2.2.2.2.1 x9.2.2.2.2.2.2.2.2.2.2.2.2.2.2.2.2.2.2.1 x9.2.2.2.2.2.2.2.2.2.2.2.2.2.2.2.2.2.2.2.1 x9.2.2.2.2.2.2.2.2.2.2.2.2.2.2.2.2.2.2.2.2.1 x9.2.2.2.2.2.2.2.2.2.2.2.2.2.2.2.2.2.2.2.2.2.1 x9.2.2.2.2.2.2.2.2.2.2.2.2.2.2.2.2.2.2.2.2.2.2.1 x9.2.2.2.2.2.2.2.2.2.2.2.2.2.2.2.2.2.2.2.2.2.2.2.1 x9.2.2.2.2.2.2.2.2.2.2.2.2.2.2.2.2.2.2.2.2.2.2.2.2.1 x9.2.2.2.2.2.2.2.2.2.2.2.2.2.2.2.2.2.2.2.2.2.2.2.2.2.1 x9.2.2.2.2.2.2.2.2.2.2.2.2.2.2.2.2.2.2.2.2.2.2.2.2.2.2.1 x9.2.2.2.2.2.2.2.2.2.2.2.2.2.2.2.2.2.2.2.2.2.2.2.2.2.2.2.1 x9.2.2.2.2.2.2.2.2.2.2.2.2.2.2.2.2.2.2.2.2.2.2.2.2.2.2.2.2.1 x9.2.2.2.2.2.2.2.2.2.2.2.2.2.2.2.2.2.2.2.2.2.2.2.2.2.2.2.2.2.1 x9.2.2.2.2.2.2.2.2.2.2.2.2.2.2.2.2.2.2.2.2.2.2.2.2.2.2.2.2.2.2.1 x9.2.2.2.2.2.2.2.2.2.2.2.2.2.2.2.2.2.2.2.2.2.2.2.2.2.2.2.2.2.2.2.1 x9.2.2.2.2.2.2.2.2.2.2.2.2.2.2.2.2.2.2.2.2.2.2.2.2.2.2.2.2.2.2.2.2.1 x9.2.2.2.2.2.2.2.2.2.2.2.2.2.2.2.2.2.2.2.2.2.2.2.2.2.2.2.2.2.2.2.2.2) fun x10=>
            Option.bind (Ev.Seat.za.v22 κ (x10.1==(15:Int)) x10.2.1 x10.2.2.1 x10.2.2.2.1 x10.2.2.2.2.1 x10.2.2.2.2.2.1 x10.2.2.2.2.2.2.1 x10.2.2.2.2.2.2.2.1 x10.2.2.2.2.2.2.2.2.1 x10.2.2.2.2.2.2.2.2.2.1 x10.2.2.2.2.2.2.2.2.2.2.1 x10.2.2.2.2.2.2.2.2.2.2.2.1 x10.2.2.2.2.2.2.2.2.2.2.2.2.1 x10.2.2.2.2.2.2.2.2.2.2.2.2.2.1 x10.2.2.2.2.2.2.2.2.2.2.2.2.2.2.1 x10.2.2.2.2.2.2.2.2.2.2.2.2.2.2.2.1 x10.2.2.2.2.2.2.2.2.2.2.2.2.2.2.2.2.1 x10.2.2.2.2.2.2.2.2.2.2.2.2.2.2.2.2.2.1 x10.2.2.2.2.2.2.2.2.2.2.2.2.2.2.2.2.2.2.1 x10.2.2.2.2.2.2.2.2.2.2.2.2.2.2.2.2.2.2.2.1 x10.2.2.2.2.2.2.2.2.2.2.2.2.2.2.2.2.2.2.2.2.1 x10.2.2.2.2.2.2.2.2.2.2.2.2.2.2.2.2.2.2.2.2.2.1 x10.2.2.2.2.2.2.2.2.2.2.2.2.2.2.2.2.2.2.2.2.2.2.1 x10.2.2.2.2.2.2.2.2.2.2.2.2.2.2.2.2.2.2.2.2.2.2.2.1 x10.2.2.2.2.2.2.2.2.2.2.2.2.2.2.2.2.2.2.2.2.2.2.2.2.1 x10.2.2.2.2.2.2.2.2.2.2.2.2.2.2.2.2.2.2.2.2.2.2.2.2.2.1 x10.2.2.2.2.2.2.2.2.2.2.2.2.2.2.2.2.2.2.2.2.2.2.2.2.2.2.1 x10.2.2.2.2.2.2.2.2.2.2.2.2.2.2.2.2.2.2.2.2.2.2.2.2.2.2.2.1 x10.2.2.2.2.2.2.2.2.2.2.2.2.2.2.2.2.2.2.2.2.2.2.2.2.2.2.2.2.1 x10.2.2.2.2.2.2.2.2.2.2.2.2.2.2.2.2.2.2.2.2.2.2.2.2.2.2.2.2.2.1 x10.2.2.2.2.2.2.2.2.2.2.2.2.2.2.2.2.2.2.2.2.2.2.2.2.2.2.2.2.2.2.1 x10.2.2.2.2.2.2.2.2.2.2.2.2.2.2.2.2.2.2.2.2.2.2.2.2.2.2.2.2.2.2.2.1 x10.2.2.2.2.2.2.2.2.2.2.2.2.2.2.2.2.2.2.2.2.2.2.2.2.2.2.2.2.2.2.2.2) fun x11=>
             some (x11.2.2.2.2.2.2.2.2.2.2.1,x11.2.2.2.2.2.2.2.2.2.2.2.1,x11.2.2.2.2.2.2.2.2.2.2.2.2.1,x11.2.2.2.2.2.2.2.2.2.2.2.2.2.1,x11.2.2.2.2.2.2.2.2.2.2.2.2.2.2.1,x11.2.2.2.2.2.2.2.2.2.2.2.2.2.2.2.1,x11.2.2.2.2.2.2.2.2.2.2.2.2.2.2.2.2.1,x11.2.2.2.2.2.2.2.2.2.2.2.2.2.2.2.2.2.1,x11.2.2.2.2.2.2.2.2.2.2.2.2.2.2.2.2.2.2.1,x11.2.2.2.2.2.2.2.2.2.2.2.2.2.2.2.2.2.2.2.1,x11.2.2.2.2.2.2.2.2.2.2.2.2.2.2.2.2.2.2.2.2)
def yA.v0(κ:Nat)(a0:ByteArray)(a1:Bool)(a2 a3:Int)(a4:List zD)(a5:ByteArray)(a6:Int)(a7 a8:Bool)(a9:ByteArray)(a10 a11:Int)(a12:ByteArray):Option (Bool×Int×Int×(List zD)×ByteArray×Int×Bool×Bool×ByteArray×Int×Int×ByteArray):=
 bif (Ev.seq a0 (ByteArray.mk (List.toArray [])))then
  some (Bool.true,a2,a3,a4,a5,a6,a7,a8,a9,a10,a11,a12)
 else
  bif (!a1)then
   some (Bool.true,a2,a3,a4,a5,a6,a7,a8,a9,a10,a11,a12)
  else
   bif (decide (a2<(15:Int)))then
    bif (decide (a3<(1:Int)))then
     some (Bool.true,a2,a3,a4,a5,a6,a7,a8,a9,a10,a11,a12)
    else
     some ((decide (a3>(9:Int))),a2,a3,a4,a5,a6,a7,a8,a9,a10,a11,a12)
   else
    some (Bool.false,a2,a3,a4,a5,a6,a7,a8,a9,a10,a11,a12)
def yA.v2(κ:Nat)(a0 a1:Bool)(a2 a3:Int)(a4:List zD)(a5:ByteArray)(a6:Int)(a7 a8:Bool)(a9:ByteArray)(a10 a11:Int)(a12:ByteArray):Option (Bool×Bool×Bool×Int×Int×(List zD)×ByteArray×Int×Bool×Bool×ByteArray×Int×Int×ByteArray):=
 bif (a2==(7:Int))then
  bif ((((List.length a4):Nat):Int)==(0:Int))then
   some (a0,a1,Bool.true,a2,a3,a4,a5,a6,a7,a8,a9,a10,a11,a12)
  else
   Option.bind (Ev.Seat.yR κ a4) fun x1=>
    some (a0,a1,(Ev.seq x1 (ByteArray.mk (List.toArray []))),a2,a3,a4,a5,a6,a7,a8,a9,a10,a11,a12)
 else
  bif (a2==(8:Int))then
   bif ((((List.length a4):Nat):Int)==(0:Int))then
    some (a0,a1,Bool.true,a2,a3,a4,a5,a6,a7,a8,a9,a10,a11,a12)
   else
    Option.bind (Ev.Seat.yR κ a4) fun x0=>
     some (a0,a1,(Ev.seq x0 (ByteArray.mk (List.toArray []))),a2,a3,a4,a5,a6,a7,a8,a9,a10,a11,a12)
  else
   some (a0,a1,Bool.false,a2,a3,a4,a5,a6,a7,a8,a9,a10,a11,a12)
def yA.v4(κ:Nat)(a0 a1:Bool)(a2 a3:Int)(a4:List zD)(a5:ByteArray)(a6:Int)(a7 a8:Bool)(a9:ByteArray)(a10 a11:Int)(a12:ByteArray):Option (Bool):=
 bif (a2 !=(7:Int))then
  bif (decide (a2<(15:Int)))then
   some Bool.true
  else
   bif (a2==(16:Int))then
    some Bool.true
   else
    some a0
 else
  bif a1 then
   bif (decide (a2<(15:Int)))then
    some Bool.true
   else
    bif (a2==(16:Int))then
     some Bool.true
    else
     some a0
  else
   some Bool.false
def yA(κ:Nat)(a0 a1:Int)(a2:List zD)(a3:ByteArray)(a4:Int)(a5 a6:Bool)(a7:ByteArray)(a8 a9:Int)(a10:ByteArray):Option (Bool):=
 Option.bind (Ev.Seat.yn κ a0) fun x0=>
  Option.bind (Ev.Seat.za κ a0 a1 a2 a3 a4 a5 a6 a7 a8 a9 a10) fun x1=>
   Option.bind (Ev.Seat.jN κ x1.1 x1.2.1 x1.2.2.1 x1.2.2.2.1 x1.2.2.2.2.1 x1.2.2.2.2.2.1 x1.2.2.2.2.2.2.1 x1.2.2.2.2.2.2.2.1 x1.2.2.2.2.2.2.2.2.1 x1.2.2.2.2.2.2.2.2.2.1 x1.2.2.2.2.2.2.2.2.2.2 a0 a1 a2 a3 a4 a5 a6 a7 a8 a9 a10) fun x2=>
    Option.bind (Ev.Seat.yA.v0 κ x0 x2 a0 a1 a2 a3 a4 a5 a6 a7 a8 a9 a10) fun x3=>
     bif x3.1 then
      some Bool.false
     else
      Option.bind (Ev.Seat.yD κ x3.2.2.2.2.2.2.2.2.1) fun x4=>
       Option.bind (Ev.Seat.qS κ x3.2.2.2.2.1) fun x5=>
        Option.bind (Ev.Seat.yA.v2 κ x4 x5 x3.2.1 x3.2.2.1 x3.2.2.2.1 x3.2.2.2.2.1 x3.2.2.2.2.2.1 x3.2.2.2.2.2.2.1 x3.2.2.2.2.2.2.2.1 x3.2.2.2.2.2.2.2.2.1 x3.2.2.2.2.2.2.2.2.2.1 x3.2.2.2.2.2.2.2.2.2.2.1 x3.2.2.2.2.2.2.2.2.2.2.2) fun x6=>
         bif x6.2.2.1 then
          some Bool.false
         else
          Option.bind (Ev.Seat.yA.v4 κ x6.1 x6.2.1 x6.2.2.2.1 x6.2.2.2.2.1 x6.2.2.2.2.2.1 x6.2.2.2.2.2.2.1 x6.2.2.2.2.2.2.2.1 x6.2.2.2.2.2.2.2.2.1 x6.2.2.2.2.2.2.2.2.2.1 x6.2.2.2.2.2.2.2.2.2.2.1 x6.2.2.2.2.2.2.2.2.2.2.2.1 x6.2.2.2.2.2.2.2.2.2.2.2.2.1 x6.2.2.2.2.2.2.2.2.2.2.2.2.2) fun x7=>
           some x7
def w7.w0(κ:Nat)(rec:(ByteArray×ByteArray×Int)→Option (ByteArray))(a0 a1:ByteArray)(a2:Int):Option (ByteArray):=
 bif (decide (a2<(((ByteArray.size a0):Nat):Int)))then
  bif (decide ((0:Int)≤a2))then
   Option.bind ((Array.toList (ByteArray.data a0))[(Int.toNat a2)]?) fun x0=>
    bif (decide ((0:Int)≤a2))then
     Option.bind ((Array.toList (ByteArray.data a0))[(Int.toNat a2)]?) fun x1=>
      bif ((((decide ((0:Int)≤(IntKind.wrap IntKind.i64 ((IntKind.wrap IntKind.i64 (Int.tdiv (IntKind.wrap IntKind.i64 (((UInt8.toNat x0):Nat):Int)) (16:Int)))+(1:Int)))))&&(decide ((IntKind.wrap IntKind.i64 ((IntKind.wrap IntKind.i64 (Int.tdiv (IntKind.wrap IntKind.i64 (((UInt8.toNat x0):Nat):Int)) (16:Int)))+(1:Int)))≤(((ByteArray.size (ByteArray.mk (List.toArray ((48:UInt8)::((49:UInt8)::((50:UInt8)::((51:UInt8)::((52:UInt8)::((53:UInt8)::((54:UInt8)::((55:UInt8)::((56:UInt8)::((57:UInt8)::((97:UInt8)::((98:UInt8)::((99:UInt8)::((100:UInt8)::((101:UInt8)::((102:UInt8)::[]))))))))))))))))))):Nat):Int))))&&(decide ((0:Int)≤(IntKind.wrap IntKind.i64 (Int.tdiv (IntKind.wrap IntKind.i64 (((UInt8.toNat x0):Nat):Int)) (16:Int))))))&&(decide ((IntKind.wrap IntKind.i64 (Int.tdiv (IntKind.wrap IntKind.i64 (((UInt8.toNat x0):Nat):Int)) (16:Int)))≤(IntKind.wrap IntKind.i64 ((IntKind.wrap IntKind.i64 (Int.tdiv (IntKind.wrap IntKind.i64 (((UInt8.toNat x0):Nat):Int)) (16:Int)))+(1:Int))))))then
       bif ((((decide ((0:Int)≤(IntKind.wrap IntKind.i64 ((Int.tmod (IntKind.wrap IntKind.i64 (((UInt8.toNat x1):Nat):Int)) (16:Int))+(1:Int)))))&&(decide ((IntKind.wrap IntKind.i64 ((Int.tmod (IntKind.wrap IntKind.i64 (((UInt8.toNat x1):Nat):Int)) (16:Int))+(1:Int)))≤(((ByteArray.size (ByteArray.mk (List.toArray ((48:UInt8)::((49:UInt8)::((50:UInt8)::((51:UInt8)::((52:UInt8)::((53:UInt8)::((54:UInt8)::((55:UInt8)::((56:UInt8)::((57:UInt8)::((97:UInt8)::((98:UInt8)::((99:UInt8)::((100:UInt8)::((101:UInt8)::((102:UInt8)::[]))))))))))))))))))):Nat):Int))))&&(decide ((0:Int)≤(Int.tmod (IntKind.wrap IntKind.i64 (((UInt8.toNat x1):Nat):Int)) (16:Int)))))&&(decide ((Int.tmod (IntKind.wrap IntKind.i64 (((UInt8.toNat x1):Nat):Int)) (16:Int))≤(IntKind.wrap IntKind.i64 ((Int.tmod (IntKind.wrap IntKind.i64 (((UInt8.toNat x1):Nat):Int)) (16:Int))+(1:Int))))))then
        bif (Nat.ble ((ByteArray.size (ByteArray.extract (ByteArray.mk (List.toArray ((48:UInt8)::((49:UInt8)::((50:UInt8)::((51:UInt8)::((52:UInt8)::((53:UInt8)::((54:UInt8)::((55:UInt8)::((56:UInt8)::((57:UInt8)::((97:UInt8)::((98:UInt8)::((99:UInt8)::((100:UInt8)::((101:UInt8)::((102:UInt8)::[])))))))))))))))))) (Int.toNat (IntKind.wrap IntKind.i64 (Int.tdiv (IntKind.wrap IntKind.i64 (((UInt8.toNat x0):Nat):Int)) (16:Int)))) (Int.toNat (IntKind.wrap IntKind.i64 ((IntKind.wrap IntKind.i64 (Int.tdiv (IntKind.wrap IntKind.i64 (((UInt8.toNat x0):Nat):Int)) (16:Int)))+(1:Int))))))+(ByteArray.size (ByteArray.extract (ByteArray.mk (List.toArray ((48:UInt8)::((49:UInt8)::((50:UInt8)::((51:UInt8)::((52:UInt8)::((53:UInt8)::((54:UInt8)::((55:UInt8)::((56:UInt8)::((57:UInt8)::((97:UInt8)::((98:UInt8)::((99:UInt8)::((100:UInt8)::((101:UInt8)::((102:UInt8)::[])))))))))))))))))) (Int.toNat (Int.tmod (IntKind.wrap IntKind.i64 (((UInt8.toNat x1):Nat):Int)) (16:Int))) (Int.toNat (IntKind.wrap IntKind.i64 ((Int.tmod (IntKind.wrap IntKind.i64 (((UInt8.toNat x1):Nat):Int)) (16:Int))+(1:Int))))))) Ev.qL)then
         bif (Nat.ble ((ByteArray.size a1)+(ByteArray.size ((ByteArray.extract (ByteArray.mk (List.toArray ((48:UInt8)::((49:UInt8)::((50:UInt8)::((51:UInt8)::((52:UInt8)::((53:UInt8)::((54:UInt8)::((55:UInt8)::((56:UInt8)::((57:UInt8)::((97:UInt8)::((98:UInt8)::((99:UInt8)::((100:UInt8)::((101:UInt8)::((102:UInt8)::[])))))))))))))))))) (Int.toNat (IntKind.wrap IntKind.i64 (Int.tdiv (IntKind.wrap IntKind.i64 (((UInt8.toNat x0):Nat):Int)) (16:Int)))) (Int.toNat (IntKind.wrap IntKind.i64 ((IntKind.wrap IntKind.i64 (Int.tdiv (IntKind.wrap IntKind.i64 (((UInt8.toNat x0):Nat):Int)) (16:Int)))+(1:Int)))))++(ByteArray.extract (ByteArray.mk (List.toArray ((48:UInt8)::((49:UInt8)::((50:UInt8)::((51:UInt8)::((52:UInt8)::((53:UInt8)::((54:UInt8)::((55:UInt8)::((56:UInt8)::((57:UInt8)::((97:UInt8)::((98:UInt8)::((99:UInt8)::((100:UInt8)::((101:UInt8)::((102:UInt8)::[])))))))))))))))))) (Int.toNat (Int.tmod (IntKind.wrap IntKind.i64 (((UInt8.toNat x1):Nat):Int)) (16:Int))) (Int.toNat (IntKind.wrap IntKind.i64 ((Int.tmod (IntKind.wrap IntKind.i64 (((UInt8.toNat x1):Nat):Int)) (16:Int))+(1:Int)))))))) Ev.qL)then
          rec (a0,(a1++((ByteArray.extract (ByteArray.mk (List.toArray ((48:UInt8)::((49:UInt8)::((50:UInt8)::((51:UInt8)::((52:UInt8)::((53:UInt8)::((54:UInt8)::((55:UInt8)::((56:UInt8)::((57:UInt8)::((97:UInt8)::((98:UInt8)::((99:UInt8)::((100:UInt8)::((101:UInt8)::((102:UInt8)::[])))))))))))))))))) (Int.toNat (IntKind.wrap IntKind.i64 (Int.tdiv (IntKind.wrap IntKind.i64 (((UInt8.toNat x0):Nat):Int)) (16:Int)))) (Int.toNat (IntKind.wrap IntKind.i64 ((IntKind.wrap IntKind.i64 (Int.tdiv (IntKind.wrap IntKind.i64 (((UInt8.toNat x0):Nat):Int)) (16:Int)))+(1:Int)))))++(ByteArray.extract (ByteArray.mk (List.toArray ((48:UInt8)::((49:UInt8)::((50:UInt8)::((51:UInt8)::((52:UInt8)::((53:UInt8)::((54:UInt8)::((55:UInt8)::((56:UInt8)::((57:UInt8)::((97:UInt8)::((98:UInt8)::((99:UInt8)::((100:UInt8)::((101:UInt8)::((102:UInt8)::[])))))))))))))))))) (Int.toNat (Int.tmod (IntKind.wrap IntKind.i64 (((UInt8.toNat x1):Nat):Int)) (16:Int))) (Int.toNat (IntKind.wrap IntKind.i64 ((Int.tmod (IntKind.wrap IntKind.i64 (((UInt8.toNat x1):Nat):Int)) (16:Int))+(1:Int))))))),(IntKind.wrap IntKind.i64 (a2+(1:Int))))
         else
          none
        else
         none
       else
        none
      else
       none
    else
     none
  else
   none
 else
  some a1
def w7.l0(κ:Nat):Nat→(ByteArray×ByteArray×Int)→Option (ByteArray)
 |0,_ =>none
 |k+1,(a0,a1,a2)=>w7.w0 κ (w7.l0 κ k) a0 a1 a2
def w7(κ:Nat)(a0:ByteArray):Option (ByteArray):=
 Option.bind (Ev.Seat.w7.l0 κ κ (a0,(ByteArray.mk (List.toArray [])),(0:Int))) fun x0=>
  some x0
def zL.v0(κ:Nat)(a0:ByteArray)(a1:Bool)(a2 a3:Int)(a4:List zD)(a5:ByteArray)(a6:Int)(a7 a8:Bool)(a9:ByteArray)(a10 a11:Int)(a12:ByteArray):Option (ByteArray×Int×Int×(List zD)×ByteArray×Int×Bool×Bool×ByteArray×Int×Int×ByteArray):=
 bif a1 then
  Option.bind (Ev.Seat.yV κ (IntKind.wrap IntKind.u64 a3)) fun x0=>
   bif (Nat.ble ((ByteArray.size x0)+(ByteArray.size (ByteArray.mk (List.toArray ((32:UInt8)::[]))))) Ev.qL)then
    bif (Nat.ble ((ByteArray.size (x0++(ByteArray.mk (List.toArray ((32:UInt8)::[])))))+(ByteArray.size a0)) Ev.qL)then
     some (((x0++(ByteArray.mk (List.toArray ((32:UInt8)::[]))))++a0),a2,a3,a4,a5,a6,a7,a8,a9,a10,a11,a12)
    else
     none
   else
    none
 else
  some (a0,a2,a3,a4,a5,a6,a7,a8,a9,a10,a11,a12)
def zL.v2(κ:Nat)(a0 a1 a2:ByteArray)(a3:Bool)(a4 a5:Int)(a6:List zD)(a7:ByteArray)(a8:Int)(a9 a10:Bool)(a11:ByteArray)(a12 a13:Int)(a14:ByteArray):Option (ByteArray×ByteArray×ByteArray×Int×Int×(List zD)×ByteArray×Int×Bool×Bool×ByteArray×Int×Int×ByteArray):=
 bif a3 then
  some (a0,a1,(ByteArray.mk (List.toArray ((32:UInt8)::((114:UInt8)::((117:UInt8)::((110:UInt8)::((110:UInt8)::((105:UInt8)::((110:UInt8)::((103:UInt8)::[])))))))))),a4,a5,a6,a7,a8,a9,a10,a11,a12,a13,a14)
 else
  some (a0,a1,a2,a4,a5,a6,a7,a8,a9,a10,a11,a12,a13,a14)
def zL.v4(κ:Nat)(a0 a1 a2 a3:ByteArray)(a4:Bool)(a5 a6:Int)(a7:List zD)(a8:ByteArray)(a9:Int)(a10 a11:Bool)(a12:ByteArray)(a13 a14:Int)(a15:ByteArray):Option (ByteArray×ByteArray×ByteArray×ByteArray×Int×Int×(List zD)×ByteArray×Int×Bool×Bool×ByteArray×Int×Int×ByteArray):=
 bif a4 then
  some (a0,a1,a2,(ByteArray.mk (List.toArray ((32:UInt8)::((98:UInt8)::((121:UInt8)::((116:UInt8)::((101:UInt8)::((115:UInt8)::[])))))))),a5,a6,a7,a8,a9,a10,a11,a12,a13,a14,a15)
 else
  some (a0,a1,a2,a3,a5,a6,a7,a8,a9,a10,a11,a12,a13,a14,a15)
def zL.v7(κ:Nat)(a0 a1 a2 a3:ByteArray)(a4:Int)(a5:Bool)(a6 a7:Int)(a8:List zD)(a9:ByteArray)(a10:Int)(a11 a12:Bool)(a13:ByteArray)(a14 a15:Int)(a16:ByteArray):Option (ByteArray×ByteArray×ByteArray×ByteArray×Int×Bool×Int×Int×(List zD)×ByteArray×Int×Bool×Bool×ByteArray×Int×Int×ByteArray):=
 bif a5 then
  some (a0,a1,a2,a3,a4,a5,a6,a7,a8,a9,a10,a11,a12,a13,a14,a15,a16)
 else
  some (a0,a1,a2,a3,a4,(a4==(16:Int)),a6,a7,a8,a9,a10,a11,a12,a13,a14,a15,a16)
def zL.v6(κ:Nat)(a0 a1 a2 a3:ByteArray)(a4:Int)(a5:Bool)(a6 a7:Int)(a8:List zD)(a9:ByteArray)(a10:Int)(a11 a12:Bool)(a13:ByteArray)(a14 a15:Int)(a16:ByteArray):Option (ByteArray×ByteArray×ByteArray×ByteArray×Int×Bool×Int×Int×(List zD)×ByteArray×Int×Bool×Bool×ByteArray×Int×Int×ByteArray):=
 bif a5 then
  some (a0,a1,a2,a3,a4,a5,a6,a7,a8,a9,a10,a11,a12,a13,a14,a15,a16)
 else
  Option.bind (Ev.Seat.zL.v7 κ a0 a1 a2 a3 a4 (a4==(11:Int)) a6 a7 a8 a9 a10 a11 a12 a13 a14 a15 a16) fun x0=>
   some (x0.1,x0.2.1,x0.2.2.1,x0.2.2.2.1,x0.2.2.2.2.1,x0.2.2.2.2.2.1,x0.2.2.2.2.2.2.1,x0.2.2.2.2.2.2.2.1,x0.2.2.2.2.2.2.2.2.1,x0.2.2.2.2.2.2.2.2.2.1,x0.2.2.2.2.2.2.2.2.2.2.1,x0.2.2.2.2.2.2.2.2.2.2.2.1,x0.2.2.2.2.2.2.2.2.2.2.2.2.1,x0.2.2.2.2.2.2.2.2.2.2.2.2.2.1,x0.2.2.2.2.2.2.2.2.2.2.2.2.2.2.1,x0.2.2.2.2.2.2.2.2.2.2.2.2.2.2.2.1,x0.2.2.2.2.2.2.2.2.2.2.2.2.2.2.2.2)
def zL.v10(κ:Nat)(a0:ByteArray)(a1:Int)(a2:Bool)(a3 a4:Int)(a5:List zD)(a6:ByteArray)(a7:Int)(a8 a9:Bool)(a10:ByteArray)(a11 a12:Int)(a13:ByteArray):Option (ByteArray×Bool×Int×Int×(List zD)×ByteArray×Int×Bool×Bool×ByteArray×Int×Int×ByteArray):=
 bif a2 then
  some (a0,a2,a3,a4,a5,a6,a7,a8,a9,a10,a11,a12,a13)
 else
  some (a0,(a1==(18:Int)),a3,a4,a5,a6,a7,a8,a9,a10,a11,a12,a13)
def zL(κ:Nat)(a0 a1:Int)(a2:List zD)(a3:ByteArray)(a4:Int)(a5 a6:Bool)(a7:ByteArray)(a8 a9:Int)(a10:ByteArray):Option (ByteArray):=
 Option.bind (Ev.Seat.yA κ a0 a1 a2 a3 a4 a5 a6 a7 a8 a9 a10) fun x0=>
  bif (!x0)then
   some (ByteArray.mk (List.toArray []))
  else
   Option.bind (Ev.Seat.yn κ a0) fun x1=>
    Option.bind (Ev.Seat.zL.v0 κ x1 (decide (a0<(15:Int))) a0 a1 a2 a3 a4 a5 a6 a7 a8 a9 a10) fun x2=>
     Option.bind (Ev.Seat.yV κ x2.2.2.2.2.2.1) fun x3=>
      bif (Nat.ble ((ByteArray.size (ByteArray.mk (List.toArray ((32:UInt8)::[]))))+(ByteArray.size x3)) Ev.qL)then
       Option.bind (Ev.Seat.zL.v2 κ x2.1 ((ByteArray.mk (List.toArray ((32:UInt8)::[])))++x3) (ByteArray.mk (List.toArray ((32:UInt8)::((99:UInt8)::((97:UInt8)::((110:UInt8)::((100:UInt8)::((105:UInt8)::((100:UInt8)::((97:UInt8)::((116:UInt8)::((101:UInt8)::[])))))))))))) x2.2.2.2.2.2.2.1 x2.2.1 x2.2.2.1 x2.2.2.2.1 x2.2.2.2.2.1 x2.2.2.2.2.2.1 x2.2.2.2.2.2.2.1 x2.2.2.2.2.2.2.2.1 x2.2.2.2.2.2.2.2.2.1 x2.2.2.2.2.2.2.2.2.2.1 x2.2.2.2.2.2.2.2.2.2.2.1 x2.2.2.2.2.2.2.2.2.2.2.2) fun x4=>
        Option.bind (Ev.Seat.zL.v4 κ x4.1 x4.2.1 x4.2.2.1 (ByteArray.mk (List.toArray ((32:UInt8)::((116:UInt8)::((101:UInt8)::((120:UInt8)::((116:UInt8)::[]))))))) x4.2.2.2.2.2.2.2.2.2.1 x4.2.2.2.1 x4.2.2.2.2.1 x4.2.2.2.2.2.1 x4.2.2.2.2.2.2.1 x4.2.2.2.2.2.2.2.1 x4.2.2.2.2.2.2.2.2.1 x4.2.2.2.2.2.2.2.2.2.1 x4.2.2.2.2.2.2.2.2.2.2.1 x4.2.2.2.2.2.2.2.2.2.2.2.1 x4.2.2.2.2.2.2.2.2.2.2.2.2.1 x4.2.2.2.2.2.2.2.2.2.2.2.2.2) fun x5=>
         bif (x5.2.2.2.2.1==(7:Int))then
          bif (Nat.ble ((ByteArray.size x5.1)+(ByteArray.size (ByteArray.mk (List.toArray ((32:UInt8)::[]))))) Ev.qL)then
           Option.bind (Ev.Seat.yR κ x5.2.2.2.2.2.2.1) fun x12=>
            bif (Nat.ble ((ByteArray.size (x5.1++(ByteArray.mk (List.toArray ((32:UInt8)::[])))))+(ByteArray.size x12)) Ev.qL)then
             bif (Nat.ble ((ByteArray.size ((x5.1++(ByteArray.mk (List.toArray ((32:UInt8)::[]))))++x12))+(ByteArray.size (ByteArray.mk (List.toArray ((32:UInt8)::[]))))) Ev.qL)then
              bif (Nat.ble ((ByteArray.size (((x5.1++(ByteArray.mk (List.toArray ((32:UInt8)::[]))))++x12)++(ByteArray.mk (List.toArray ((32:UInt8)::[])))))+(ByteArray.size x5.2.2.2.2.2.2.2.1)) Ev.qL)then
               some ((((x5.1++(ByteArray.mk (List.toArray ((32:UInt8)::[]))))++x12)++(ByteArray.mk (List.toArray ((32:UInt8)::[]))))++x5.2.2.2.2.2.2.2.1)
              else
               none
             else
              none
            else
             none
          else
           none
         else
          bif (x5.2.2.2.2.1==(8:Int))then
           bif (Nat.ble ((ByteArray.size x5.1)+(ByteArray.size (ByteArray.mk (List.toArray ((32:UInt8)::[]))))) Ev.qL)then
            Option.bind (Ev.Seat.yR κ x5.2.2.2.2.2.2.1) fun x11=>
             bif (Nat.ble ((ByteArray.size (x5.1++(ByteArray.mk (List.toArray ((32:UInt8)::[])))))+(ByteArray.size x11)) Ev.qL)then
              some ((x5.1++(ByteArray.mk (List.toArray ((32:UInt8)::[]))))++x11)
             else
              none
           else
            none
          else
           bif (x5.2.2.2.2.1==(9:Int))then
            bif (x5.2.2.2.2.2.2.2.2.1==(0:Int))then
             some x5.1
            else
             bif (Nat.ble ((ByteArray.size x5.1)+(ByteArray.size x5.2.1)) Ev.qL)then
              some (x5.1++x5.2.1)
             else
              none
           else
            Option.bind (Ev.Seat.zL.v6 κ x5.1 x5.2.1 x5.2.2.1 x5.2.2.2.1 x5.2.2.2.2.1 (x5.2.2.2.2.1==(10:Int)) x5.2.2.2.2.1 x5.2.2.2.2.2.1 x5.2.2.2.2.2.2.1 x5.2.2.2.2.2.2.2.1 x5.2.2.2.2.2.2.2.2.1 x5.2.2.2.2.2.2.2.2.2.1 x5.2.2.2.2.2.2.2.2.2.2.1 x5.2.2.2.2.2.2.2.2.2.2.2.1 x5.2.2.2.2.2.2.2.2.2.2.2.2.1 x5.2.2.2.2.2.2.2.2.2.2.2.2.2.1 x5.2.2.2.2.2.2.2.2.2.2.2.2.2.2) fun x6=>
             bif x6.2.2.2.2.2.1 then
              bif (Nat.ble ((ByteArray.size x6.1)+(ByteArray.size x6.2.1)) Ev.qL)then
               some (x6.1++x6.2.1)
              else
               none
             else
              bif (x6.2.2.2.2.1==(12:Int))then
               bif (Nat.ble ((ByteArray.size x6.1)+(ByteArray.size x6.2.2.1)) Ev.qL)then
                bif (Nat.ble ((ByteArray.size (x6.1++x6.2.2.1))+(ByteArray.size x6.2.2.2.1)) Ev.qL)then
                 bif (Nat.ble ((ByteArray.size ((x6.1++x6.2.2.1)++x6.2.2.2.1))+(ByteArray.size x6.2.1)) Ev.qL)then
                  some (((x6.1++x6.2.2.1)++x6.2.2.2.1)++x6.2.1)
                 else
                  none
                else
                 none
               else
                none
              else
               bif (x6.2.2.2.2.1==(13:Int))then
                bif (Nat.ble ((ByteArray.size x6.1)+(ByteArray.size (ByteArray.mk (List.toArray ((32:UInt8)::((116:UInt8)::((101:UInt8)::((120:UInt8)::((116:UInt8)::((32:UInt8)::[])))))))))) Ev.qL)then
                 bif (Nat.ble ((ByteArray.size (x6.1++(ByteArray.mk (List.toArray ((32:UInt8)::((116:UInt8)::((101:UInt8)::((120:UInt8)::((116:UInt8)::((32:UInt8)::[]))))))))))+(ByteArray.size x6.2.2.2.2.2.2.2.2.2.2.2.2.2.2.2.2)) Ev.qL)then
                  some ((x6.1++(ByteArray.mk (List.toArray ((32:UInt8)::((116:UInt8)::((101:UInt8)::((120:UInt8)::((116:UInt8)::((32:UInt8)::[])))))))))++x6.2.2.2.2.2.2.2.2.2.2.2.2.2.2.2.2)
                 else
                  none
                else
                 none
               else
                bif (x6.2.2.2.2.1==(14:Int))then
                 bif (Nat.ble ((ByteArray.size x6.1)+(ByteArray.size (ByteArray.mk (List.toArray ((32:UInt8)::((98:UInt8)::((121:UInt8)::((116:UInt8)::((101:UInt8)::((115:UInt8)::((32:UInt8)::[]))))))))))) Ev.qL)then
                  Option.bind (Ev.Seat.w7 κ x6.2.2.2.2.2.2.2.2.2.2.2.2.2.2.2.2) fun x10=>
                   bif (Nat.ble ((ByteArray.size (x6.1++(ByteArray.mk (List.toArray ((32:UInt8)::((98:UInt8)::((121:UInt8)::((116:UInt8)::((101:UInt8)::((115:UInt8)::((32:UInt8)::[])))))))))))+(ByteArray.size x10)) Ev.qL)then
                    some ((x6.1++(ByteArray.mk (List.toArray ((32:UInt8)::((98:UInt8)::((121:UInt8)::((116:UInt8)::((101:UInt8)::((115:UInt8)::((32:UInt8)::[]))))))))))++x10)
                   else
                    none
                 else
                  none
                else
                 bif (x6.2.2.2.2.1==(15:Int))then
                  bif (Nat.ble ((ByteArray.size x6.1)+(ByteArray.size (ByteArray.mk (List.toArray ((32:UInt8)::[]))))) Ev.qL)then
                   bif (Nat.ble ((ByteArray.size (x6.1++(ByteArray.mk (List.toArray ((32:UInt8)::[])))))+(ByteArray.size x6.2.2.2.2.2.2.2.2.2.2.2.2.2.1)) Ev.qL)then
                    bif (Nat.ble ((ByteArray.size ((x6.1++(ByteArray.mk (List.toArray ((32:UInt8)::[]))))++x6.2.2.2.2.2.2.2.2.2.2.2.2.2.1))+(ByteArray.size (ByteArray.mk (List.toArray ((32:UInt8)::[]))))) Ev.qL)then
                     Option.bind (Ev.Seat.yV κ x6.2.2.2.2.2.2.2.2.2.2.2.2.2.2.1) fun x8=>
                      bif (Nat.ble ((ByteArray.size (((x6.1++(ByteArray.mk (List.toArray ((32:UInt8)::[]))))++x6.2.2.2.2.2.2.2.2.2.2.2.2.2.1)++(ByteArray.mk (List.toArray ((32:UInt8)::[])))))+(ByteArray.size x8)) Ev.qL)then
                       bif (Nat.ble ((ByteArray.size ((((x6.1++(ByteArray.mk (List.toArray ((32:UInt8)::[]))))++x6.2.2.2.2.2.2.2.2.2.2.2.2.2.1)++(ByteArray.mk (List.toArray ((32:UInt8)::[]))))++x8))+(ByteArray.size (ByteArray.mk (List.toArray ((32:UInt8)::[]))))) Ev.qL)then
                        Option.bind (Ev.Seat.yV κ x6.2.2.2.2.2.2.2.2.2.2.2.2.2.2.2.1) fun x9=>
                         bif (Nat.ble ((ByteArray.size (((((x6.1++(ByteArray.mk (List.toArray ((32:UInt8)::[]))))++x6.2.2.2.2.2.2.2.2.2.2.2.2.2.1)++(ByteArray.mk (List.toArray ((32:UInt8)::[]))))++x8)++(ByteArray.mk (List.toArray ((32:UInt8)::[])))))+(ByteArray.size x9)) Ev.qL)then
                          some ((((((x6.1++(ByteArray.mk (List.toArray ((32:UInt8)::[]))))++x6.2.2.2.2.2.2.2.2.2.2.2.2.2.1)++(ByteArray.mk (List.toArray ((32:UInt8)::[]))))++x8)++(ByteArray.mk (List.toArray ((32:UInt8)::[]))))++x9)
                         else
                          none
                       else
                        none
                      else
                       none
                    else
                     none
                   else
                    none
                  else
                   none
                 else
                  Option.bind (Ev.Seat.zL.v10 κ x6.1 x6.2.2.2.2.1 (x6.2.2.2.2.1==(17:Int)) x6.2.2.2.2.2.2.1 x6.2.2.2.2.2.2.2.1 x6.2.2.2.2.2.2.2.2.1 x6.2.2.2.2.2.2.2.2.2.1 x6.2.2.2.2.2.2.2.2.2.2.1 x6.2.2.2.2.2.2.2.2.2.2.2.1 x6.2.2.2.2.2.2.2.2.2.2.2.2.1 x6.2.2.2.2.2.2.2.2.2.2.2.2.2.1 x6.2.2.2.2.2.2.2.2.2.2.2.2.2.2.1 x6.2.2.2.2.2.2.2.2.2.2.2.2.2.2.2.1 x6.2.2.2.2.2.2.2.2.2.2.2.2.2.2.2.2) fun x7=>
                   bif x7.2.1 then
                    bif (Nat.ble ((ByteArray.size x7.1)+(ByteArray.size (ByteArray.mk (List.toArray ((32:UInt8)::[]))))) Ev.qL)then
                     bif (Nat.ble ((ByteArray.size (x7.1++(ByteArray.mk (List.toArray ((32:UInt8)::[])))))+(ByteArray.size x7.2.2.2.2.2.2.2.2.2.1)) Ev.qL)then
                      some ((x7.1++(ByteArray.mk (List.toArray ((32:UInt8)::[]))))++x7.2.2.2.2.2.2.2.2.2.1)
                     else
                      none
                    else
                     none
                   else
                    some x7.1
      else
       none
def zB.v1(κ:Nat)(a0 a1 a2 a3 a4:ByteArray)(a5 a6:Int)(a7:Bool)(a8 a9:Int)(a10:ByteArray)(a11:Int)(a12 a13:Bool)(a14:ByteArray)(a15 a16:Int)(a17:ByteArray)(a18 a19:Int)(a20:ByteArray)(a21:Int)(a22 a23:Bool)(a24:ByteArray)(a25 a26:Int)(a27:ByteArray):Option zhF:=
 bif a7 then
  some (a0,a1,a2,a3,a4,a5,a6,a7,a8,a9,a10,a11,a12,a13,a14,a15,a16,a17,a18,a19,a20,a21,a22,a23,a24,a25,a26,a27)
 else
  some (a0,a1,a2,a3,a4,a5,a6,(a6==(8:Int)),a8,a9,a10,a11,a12,a13,a14,a15,a16,a17,a18,a19,a20,a21,a22,a23,a24,a25,a26,a27)
def zB.v6(κ:Nat)(a0 a1 a2 a3 a4:ByteArray)(a5 a6:Int)(a7:Bool)(a8 a9:Int)(a10:ByteArray)(a11:Int)(a12 a13:Bool)(a14:ByteArray)(a15 a16:Int)(a17:ByteArray)(a18 a19:Int)(a20:ByteArray)(a21:Int)(a22 a23:Bool)(a24:ByteArray)(a25 a26:Int)(a27:ByteArray):Option zhF:=
 bif a7 then
  some (a0,a1,a2,a3,a4,a5,a6,a7,a8,a9,a10,a11,a12,a13,a14,a15,a16,a17,a18,a19,a20,a21,a22,a23,a24,a25,a26,a27)
 else
  some (a0,a1,a2,a3,a4,a5,a6,(a6==(16:Int)),a8,a9,a10,a11,a12,a13,a14,a15,a16,a17,a18,a19,a20,a21,a22,a23,a24,a25,a26,a27)
def zB.v5(κ:Nat)(a0 a1 a2 a3 a4:ByteArray)(a5 a6:Int)(a7:Bool)(a8 a9:Int)(a10:ByteArray)(a11:Int)(a12 a13:Bool)(a14:ByteArray)(a15 a16:Int)(a17:ByteArray)(a18 a19:Int)(a20:ByteArray)(a21:Int)(a22 a23:Bool)(a24:ByteArray)(a25 a26:Int)(a27:ByteArray):Option zhF:=
 bif a7 then
  some (a0,a1,a2,a3,a4,a5,a6,a7,a8,a9,a10,a11,a12,a13,a14,a15,a16,a17,a18,a19,a20,a21,a22,a23,a24,a25,a26,a27)
 else
  Option.bind (Ev.Seat.zB.v6 κ a0 a1 a2 a3 a4 a5 a6 (a6==(11:Int)) a8 a9 a10 a11 a12 a13 a14 a15 a16 a17 a18 a19 a20 a21 a22 a23 a24 a25 a26 a27) fun x0=>
   some (x0.1,x0.2.1,x0.2.2.1,x0.2.2.2.1,x0.2.2.2.2.1,x0.2.2.2.2.2.1,x0.2.2.2.2.2.2.1,x0.2.2.2.2.2.2.2.1,x0.2.2.2.2.2.2.2.2.1,x0.2.2.2.2.2.2.2.2.2.1,x0.2.2.2.2.2.2.2.2.2.2.1,x0.2.2.2.2.2.2.2.2.2.2.2.1,x0.2.2.2.2.2.2.2.2.2.2.2.2.1,x0.2.2.2.2.2.2.2.2.2.2.2.2.2.1,x0.2.2.2.2.2.2.2.2.2.2.2.2.2.2.1,x0.2.2.2.2.2.2.2.2.2.2.2.2.2.2.2.1,x0.2.2.2.2.2.2.2.2.2.2.2.2.2.2.2.2.1,x0.2.2.2.2.2.2.2.2.2.2.2.2.2.2.2.2.2.1,x0.2.2.2.2.2.2.2.2.2.2.2.2.2.2.2.2.2.2.1,x0.2.2.2.2.2.2.2.2.2.2.2.2.2.2.2.2.2.2.2.1,x0.2.2.2.2.2.2.2.2.2.2.2.2.2.2.2.2.2.2.2.2.1,x0.2.2.2.2.2.2.2.2.2.2.2.2.2.2.2.2.2.2.2.2.2.1,x0.2.2.2.2.2.2.2.2.2.2.2.2.2.2.2.2.2.2.2.2.2.2.1,x0.2.2.2.2.2.2.2.2.2.2.2.2.2.2.2.2.2.2.2.2.2.2.2.1,x0.2.2.2.2.2.2.2.2.2.2.2.2.2.2.2.2.2.2.2.2.2.2.2.2.1,x0.2.2.2.2.2.2.2.2.2.2.2.2.2.2.2.2.2.2.2.2.2.2.2.2.2.1,x0.2.2.2.2.2.2.2.2.2.2.2.2.2.2.2.2.2.2.2.2.2.2.2.2.2.2.1,x0.2.2.2.2.2.2.2.2.2.2.2.2.2.2.2.2.2.2.2.2.2.2.2.2.2.2.2)
def zB.v4(κ:Nat)(a0 a1 a2 a3 a4:ByteArray)(a5 a6:Int)(a7:Bool)(a8 a9:Int)(a10:ByteArray)(a11:Int)(a12 a13:Bool)(a14:ByteArray)(a15 a16:Int)(a17:ByteArray)(a18 a19:Int)(a20:ByteArray)(a21:Int)(a22 a23:Bool)(a24:ByteArray)(a25 a26:Int)(a27:ByteArray):Option zhF:=
 bif a7 then
  some (a0,a1,a2,a3,a4,a5,a6,a7,a8,a9,a10,a11,a12,a13,a14,a15,a16,a17,a18,a19,a20,a21,a22,a23,a24,a25,a26,a27)
 else
  Option.bind (Ev.Seat.zB.v5 κ a0 a1 a2 a3 a4 a5 a6 (a6==(10:Int)) a8 a9 a10 a11 a12 a13 a14 a15 a16 a17 a18 a19 a20 a21 a22 a23 a24 a25 a26 a27) fun x0=>
   some (x0.1,x0.2.1,x0.2.2.1,x0.2.2.2.1,x0.2.2.2.2.1,x0.2.2.2.2.2.1,x0.2.2.2.2.2.2.1,x0.2.2.2.2.2.2.2.1,x0.2.2.2.2.2.2.2.2.1,x0.2.2.2.2.2.2.2.2.2.1,x0.2.2.2.2.2.2.2.2.2.2.1,x0.2.2.2.2.2.2.2.2.2.2.2.1,x0.2.2.2.2.2.2.2.2.2.2.2.2.1,x0.2.2.2.2.2.2.2.2.2.2.2.2.2.1,x0.2.2.2.2.2.2.2.2.2.2.2.2.2.2.1,x0.2.2.2.2.2.2.2.2.2.2.2.2.2.2.2.1,x0.2.2.2.2.2.2.2.2.2.2.2.2.2.2.2.2.1,x0.2.2.2.2.2.2.2.2.2.2.2.2.2.2.2.2.2.1,x0.2.2.2.2.2.2.2.2.2.2.2.2.2.2.2.2.2.2.1,x0.2.2.2.2.2.2.2.2.2.2.2.2.2.2.2.2.2.2.2.1,x0.2.2.2.2.2.2.2.2.2.2.2.2.2.2.2.2.2.2.2.2.1,x0.2.2.2.2.2.2.2.2.2.2.2.2.2.2.2.2.2.2.2.2.2.1,x0.2.2.2.2.2.2.2.2.2.2.2.2.2.2.2.2.2.2.2.2.2.2.1,x0.2.2.2.2.2.2.2.2.2.2.2.2.2.2.2.2.2.2.2.2.2.2.2.1,x0.2.2.2.2.2.2.2.2.2.2.2.2.2.2.2.2.2.2.2.2.2.2.2.2.1,x0.2.2.2.2.2.2.2.2.2.2.2.2.2.2.2.2.2.2.2.2.2.2.2.2.2.1,x0.2.2.2.2.2.2.2.2.2.2.2.2.2.2.2.2.2.2.2.2.2.2.2.2.2.2.1,x0.2.2.2.2.2.2.2.2.2.2.2.2.2.2.2.2.2.2.2.2.2.2.2.2.2.2.2)
def zB.v15(κ:Nat)(a0:ByteArray)(a1:Int)(a2:Bool)(a3 a4:Int)(a5:ByteArray)(a6:Int)(a7 a8:Bool)(a9:ByteArray)(a10 a11:Int)(a12:ByteArray)(a13 a14:Int)(a15:ByteArray)(a16:Int)(a17 a18:Bool)(a19:ByteArray)(a20 a21:Int)(a22:ByteArray):Option (ByteArray×Bool×Int×Int×ByteArray×Int×Bool×Bool×ByteArray×Int×Int×ByteArray×Int×Int×ByteArray×Int×Bool×Bool×ByteArray×Int×Int×ByteArray):=
 bif a2 then
  some (a0,a2,a3,a4,a5,a6,a7,a8,a9,a10,a11,a12,a13,a14,a15,a16,a17,a18,a19,a20,a21,a22)
 else
  some (a0,(a1==(18:Int)),a3,a4,a5,a6,a7,a8,a9,a10,a11,a12,a13,a14,a15,a16,a17,a18,a19,a20,a21,a22)
def zB.v17(κ:Nat)(a0:ByteArray)(a1:Bool)(a2 a3:Int)(a4:ByteArray)(a5:Int)(a6 a7:Bool)(a8:ByteArray)(a9 a10:Int)(a11:ByteArray)(a12 a13:Int)(a14:ByteArray)(a15:Int)(a16 a17:Bool)(a18:ByteArray)(a19 a20:Int)(a21:ByteArray):Option zcO:=
 bif a1 then
  some (a2,a3,a4,a5,a6,a7,a0,a9,a10,a11,a12,a13,a14,a15,a16,a17,a18,a19,a20,a21)
 else
  some (a2,a3,a4,a5,a6,a7,a8,a9,a10,a11,a12,a13,a14,a15,a16,a17,a18,a19,a20,a21)
def zB.v14(κ:Nat)(a0 a1 a2 a3:ByteArray)(a4:Int)(a5:Bool)(a6 a7:Int)(a8:ByteArray)(a9:Int)(a10 a11:Bool)(a12:ByteArray)(a13 a14:Int)(a15:ByteArray)(a16 a17:Int)(a18:ByteArray)(a19:Int)(a20 a21:Bool)(a22:ByteArray)(a23 a24:Int)(a25:ByteArray):Option zcO:=
 bif a5 then
  Option.bind (Ev.Seat.yw κ a2) fun x2=>
   Option.bind (Ev.Seat.yw κ a3) fun x3=>
    some (a6,a7,a8,a9,a10,a11,a1,x2.1,x3.1,a15,a16,a17,a18,a19,a20,a21,a22,a23,a24,a25)
 else
  Option.bind (Ev.Seat.zB.v15 κ a0 a4 (a4==(17:Int)) a6 a7 a8 a9 a10 a11 a12 a13 a14 a15 a16 a17 a18 a19 a20 a21 a22 a23 a24 a25) fun x0=>
   Option.bind (Ev.Seat.zB.v17 κ x0.1 x0.2.1 x0.2.2.1 x0.2.2.2.1 x0.2.2.2.2.1 x0.2.2.2.2.2.1 x0.2.2.2.2.2.2.1 x0.2.2.2.2.2.2.2.1 x0.2.2.2.2.2.2.2.2.1 x0.2.2.2.2.2.2.2.2.2.1 x0.2.2.2.2.2.2.2.2.2.2.1 x0.2.2.2.2.2.2.2.2.2.2.2.1 x0.2.2.2.2.2.2.2.2.2.2.2.2.1 x0.2.2.2.2.2.2.2.2.2.2.2.2.2.1 x0.2.2.2.2.2.2.2.2.2.2.2.2.2.2.1 x0.2.2.2.2.2.2.2.2.2.2.2.2.2.2.2.1 x0.2.2.2.2.2.2.2.2.2.2.2.2.2.2.2.2.1 x0.2.2.2.2.2.2.2.2.2.2.2.2.2.2.2.2.2.1 x0.2.2.2.2.2.2.2.2.2.2.2.2.2.2.2.2.2.2.1 x0.2.2.2.2.2.2.2.2.2.2.2.2.2.2.2.2.2.2.2.1 x0.2.2.2.2.2.2.2.2.2.2.2.2.2.2.2.2.2.2.2.2.1 x0.2.2.2.2.2.2.2.2.2.2.2.2.2.2.2.2.2.2.2.2.2) fun x1=>
    some (x1.1,x1.2.1,x1.2.2.1,x1.2.2.2.1,x1.2.2.2.2.1,x1.2.2.2.2.2.1,x1.2.2.2.2.2.2.1,x1.2.2.2.2.2.2.2.1,x1.2.2.2.2.2.2.2.2.1,x1.2.2.2.2.2.2.2.2.2.1,x1.2.2.2.2.2.2.2.2.2.2.1,x1.2.2.2.2.2.2.2.2.2.2.2.1,x1.2.2.2.2.2.2.2.2.2.2.2.2.1,x1.2.2.2.2.2.2.2.2.2.2.2.2.2.1,x1.2.2.2.2.2.2.2.2.2.2.2.2.2.2.1,x1.2.2.2.2.2.2.2.2.2.2.2.2.2.2.2.1,x1.2.2.2.2.2.2.2.2.2.2.2.2.2.2.2.2.1,x1.2.2.2.2.2.2.2.2.2.2.2.2.2.2.2.2.2.1,x1.2.2.2.2.2.2.2.2.2.2.2.2.2.2.2.2.2.2.1,x1.2.2.2.2.2.2.2.2.2.2.2.2.2.2.2.2.2.2.2)
def zB.v13(κ:Nat)(a0 a1 a2 a3 a4:ByteArray)(a5:Int)(a6:Bool)(a7 a8:Int)(a9:ByteArray)(a10:Int)(a11 a12:Bool)(a13:ByteArray)(a14 a15:Int)(a16:ByteArray)(a17 a18:Int)(a19:ByteArray)(a20:Int)(a21 a22:Bool)(a23:ByteArray)(a24 a25:Int)(a26:ByteArray):Option zcO:=
 bif a6 then
  Option.bind (Ev.Seat.zq κ a2) fun x1=>
   some (a7,a8,a9,a10,a11,a12,a13,a14,a15,x1,a17,a18,a19,a20,a21,a22,a23,a24,a25,a26)
 else
  Option.bind (Ev.Seat.zB.v14 κ a0 a1 a3 a4 a5 (a5==(15:Int)) a7 a8 a9 a10 a11 a12 a13 a14 a15 a16 a17 a18 a19 a20 a21 a22 a23 a24 a25 a26) fun x0=>
   some (x0.1,x0.2.1,x0.2.2.1,x0.2.2.2.1,x0.2.2.2.2.1,x0.2.2.2.2.2.1,x0.2.2.2.2.2.2.1,x0.2.2.2.2.2.2.2.1,x0.2.2.2.2.2.2.2.2.1,x0.2.2.2.2.2.2.2.2.2.1,x0.2.2.2.2.2.2.2.2.2.2.1,x0.2.2.2.2.2.2.2.2.2.2.2.1,x0.2.2.2.2.2.2.2.2.2.2.2.2.1,x0.2.2.2.2.2.2.2.2.2.2.2.2.2.1,x0.2.2.2.2.2.2.2.2.2.2.2.2.2.2.1,x0.2.2.2.2.2.2.2.2.2.2.2.2.2.2.2.1,x0.2.2.2.2.2.2.2.2.2.2.2.2.2.2.2.2.1,x0.2.2.2.2.2.2.2.2.2.2.2.2.2.2.2.2.2.1,x0.2.2.2.2.2.2.2.2.2.2.2.2.2.2.2.2.2.2.1,x0.2.2.2.2.2.2.2.2.2.2.2.2.2.2.2.2.2.2.2)
def zB.v12(κ:Nat)(a0 a1 a2 a3 a4:ByteArray)(a5:Int)(a6:Bool)(a7 a8:Int)(a9:ByteArray)(a10:Int)(a11 a12:Bool)(a13:ByteArray)(a14 a15:Int)(a16:ByteArray)(a17 a18:Int)(a19:ByteArray)(a20:Int)(a21 a22:Bool)(a23:ByteArray)(a24 a25:Int)(a26:ByteArray):Option zcO:=
 bif a6 then
  some (a7,a8,a9,a10,a11,a12,a13,a14,a15,a2,a17,a18,a19,a20,a21,a22,a23,a24,a25,a26)
 else
  Option.bind (Ev.Seat.zB.v13 κ a0 a1 a2 a3 a4 a5 (a5==(14:Int)) a7 a8 a9 a10 a11 a12 a13 a14 a15 a16 a17 a18 a19 a20 a21 a22 a23 a24 a25 a26) fun x0=>
   some (x0.1,x0.2.1,x0.2.2.1,x0.2.2.2.1,x0.2.2.2.2.1,x0.2.2.2.2.2.1,x0.2.2.2.2.2.2.1,x0.2.2.2.2.2.2.2.1,x0.2.2.2.2.2.2.2.2.1,x0.2.2.2.2.2.2.2.2.2.1,x0.2.2.2.2.2.2.2.2.2.2.1,x0.2.2.2.2.2.2.2.2.2.2.2.1,x0.2.2.2.2.2.2.2.2.2.2.2.2.1,x0.2.2.2.2.2.2.2.2.2.2.2.2.2.1,x0.2.2.2.2.2.2.2.2.2.2.2.2.2.2.1,x0.2.2.2.2.2.2.2.2.2.2.2.2.2.2.2.1,x0.2.2.2.2.2.2.2.2.2.2.2.2.2.2.2.2.1,x0.2.2.2.2.2.2.2.2.2.2.2.2.2.2.2.2.2.1,x0.2.2.2.2.2.2.2.2.2.2.2.2.2.2.2.2.2.2.1,x0.2.2.2.2.2.2.2.2.2.2.2.2.2.2.2.2.2.2.2)
def zB.v11(κ:Nat)(a0 a1 a2 a3 a4:ByteArray)(a5:Int)(a6:Bool)(a7 a8:Int)(a9:ByteArray)(a10:Int)(a11 a12:Bool)(a13:ByteArray)(a14 a15:Int)(a16:ByteArray)(a17 a18:Int)(a19:ByteArray)(a20:Int)(a21 a22:Bool)(a23:ByteArray)(a24 a25:Int)(a26:ByteArray):Option zcO:=
 bif a6 then
  Option.bind (Ev.Seat.yw κ a4) fun x1=>
   some (a7,a8,a9,x1.1,(Ev.seq a1 (ByteArray.mk (List.toArray ((114:UInt8)::((117:UInt8)::((110:UInt8)::((110:UInt8)::((105:UInt8)::((110:UInt8)::((103:UInt8)::[])))))))))),(Ev.seq a3 (ByteArray.mk (List.toArray ((98:UInt8)::((121:UInt8)::((116:UInt8)::((101:UInt8)::((115:UInt8)::[])))))))),a13,a14,a15,a16,a17,a18,a19,a20,a21,a22,a23,a24,a25,a26)
 else
  Option.bind (Ev.Seat.zB.v12 κ a0 a1 a2 a3 a4 a5 (a5==(13:Int)) a7 a8 a9 a10 a11 a12 a13 a14 a15 a16 a17 a18 a19 a20 a21 a22 a23 a24 a25 a26) fun x0=>
   some (x0.1,x0.2.1,x0.2.2.1,x0.2.2.2.1,x0.2.2.2.2.1,x0.2.2.2.2.2.1,x0.2.2.2.2.2.2.1,x0.2.2.2.2.2.2.2.1,x0.2.2.2.2.2.2.2.2.1,x0.2.2.2.2.2.2.2.2.2.1,x0.2.2.2.2.2.2.2.2.2.2.1,x0.2.2.2.2.2.2.2.2.2.2.2.1,x0.2.2.2.2.2.2.2.2.2.2.2.2.1,x0.2.2.2.2.2.2.2.2.2.2.2.2.2.1,x0.2.2.2.2.2.2.2.2.2.2.2.2.2.2.1,x0.2.2.2.2.2.2.2.2.2.2.2.2.2.2.2.1,x0.2.2.2.2.2.2.2.2.2.2.2.2.2.2.2.2.1,x0.2.2.2.2.2.2.2.2.2.2.2.2.2.2.2.2.2.1,x0.2.2.2.2.2.2.2.2.2.2.2.2.2.2.2.2.2.2.1,x0.2.2.2.2.2.2.2.2.2.2.2.2.2.2.2.2.2.2.2)
def zB.v10(κ:Nat)(a0 a1 a2 a3 a4:ByteArray)(a5 a6:Int)(a7:Bool)(a8 a9:Int)(a10:ByteArray)(a11:Int)(a12 a13:Bool)(a14:ByteArray)(a15 a16:Int)(a17:ByteArray)(a18 a19:Int)(a20:ByteArray)(a21:Int)(a22 a23:Bool)(a24:ByteArray)(a25 a26:Int)(a27:ByteArray):Option zcO:=
 bif a7 then
  some (a8,a9,a10,a5,a12,a13,a14,a15,a16,a17,a18,a19,a20,a21,a22,a23,a24,a25,a26,a27)
 else
  Option.bind (Ev.Seat.zB.v11 κ a0 a1 a2 a3 a4 a6 (a6==(12:Int)) a8 a9 a10 a11 a12 a13 a14 a15 a16 a17 a18 a19 a20 a21 a22 a23 a24 a25 a26 a27) fun x0=>
   some (x0.1,x0.2.1,x0.2.2.1,x0.2.2.2.1,x0.2.2.2.2.1,x0.2.2.2.2.2.1,x0.2.2.2.2.2.2.1,x0.2.2.2.2.2.2.2.1,x0.2.2.2.2.2.2.2.2.1,x0.2.2.2.2.2.2.2.2.2.1,x0.2.2.2.2.2.2.2.2.2.2.1,x0.2.2.2.2.2.2.2.2.2.2.2.1,x0.2.2.2.2.2.2.2.2.2.2.2.2.1,x0.2.2.2.2.2.2.2.2.2.2.2.2.2.1,x0.2.2.2.2.2.2.2.2.2.2.2.2.2.2.1,x0.2.2.2.2.2.2.2.2.2.2.2.2.2.2.2.1,x0.2.2.2.2.2.2.2.2.2.2.2.2.2.2.2.2.1,x0.2.2.2.2.2.2.2.2.2.2.2.2.2.2.2.2.2.1,x0.2.2.2.2.2.2.2.2.2.2.2.2.2.2.2.2.2.2.1,x0.2.2.2.2.2.2.2.2.2.2.2.2.2.2.2.2.2.2.2)
def zB.v3(κ:Nat)(a0 a1 a2 a3 a4:ByteArray)(a5 a6:Int)(a7:Bool)(a8 a9:Int)(a10:ByteArray)(a11:Int)(a12 a13:Bool)(a14:ByteArray)(a15 a16:Int)(a17:ByteArray)(a18 a19:Int)(a20:ByteArray)(a21:Int)(a22 a23:Bool)(a24:ByteArray)(a25 a26:Int)(a27:ByteArray):Option (Int×Int×ByteArray×Int×Bool×Bool×ByteArray×Int×Int×ByteArray×Int×Int×ByteArray×Int×Bool×Bool×ByteArray×Int×Int×ByteArray×(List zD)):=
 bif a7 then
  Option.bind (Ev.Seat.z6 κ a1) fun x2=>
   some (a8,a9,a2,a11,a12,a13,a14,a15,a16,a17,a18,a19,a20,a21,a22,a23,a24,a25,a26,a27,x2.2.2)
 else
  Option.bind (Ev.Seat.zB.v4 κ a0 a1 a2 a3 a4 a5 a6 (a6==(9:Int)) a8 a9 a10 a11 a12 a13 a14 a15 a16 a17 a18 a19 a20 a21 a22 a23 a24 a25 a26 a27) fun x0=>
   Option.bind (Ev.Seat.zB.v10 κ x0.1 x0.2.1 x0.2.2.1 x0.2.2.2.1 x0.2.2.2.2.1 x0.2.2.2.2.2.1 x0.2.2.2.2.2.2.1 x0.2.2.2.2.2.2.2.1 x0.2.2.2.2.2.2.2.2.1 x0.2.2.2.2.2.2.2.2.2.1 x0.2.2.2.2.2.2.2.2.2.2.1 x0.2.2.2.2.2.2.2.2.2.2.2.1 x0.2.2.2.2.2.2.2.2.2.2.2.2.1 x0.2.2.2.2.2.2.2.2.2.2.2.2.2.1 x0.2.2.2.2.2.2.2.2.2.2.2.2.2.2.1 x0.2.2.2.2.2.2.2.2.2.2.2.2.2.2.2.1 x0.2.2.2.2.2.2.2.2.2.2.2.2.2.2.2.2.1 x0.2.2.2.2.2.2.2.2.2.2.2.2.2.2.2.2.2.1 x0.2.2.2.2.2.2.2.2.2.2.2.2.2.2.2.2.2.2.1 x0.2.2.2.2.2.2.2.2.2.2.2.2.2.2.2.2.2.2.2.1 x0.2.2.2.2.2.2.2.2.2.2.2.2.2.2.2.2.2.2.2.2.1 x0.2.2.2.2.2.2.2.2.2.2.2.2.2.2.2.2.2.2.2.2.2.1 x0.2.2.2.2.2.2.2.2.2.2.2.2.2.2.2.2.2.2.2.2.2.2.1 x0.2.2.2.2.2.2.2.2.2.2.2.2.2.2.2.2.2.2.2.2.2.2.2.1 x0.2.2.2.2.2.2.2.2.2.2.2.2.2.2.2.2.2.2.2.2.2.2.2.2.1 x0.2.2.2.2.2.2.2.2.2.2.2.2.2.2.2.2.2.2.2.2.2.2.2.2.2.1 x0.2.2.2.2.2.2.2.2.2.2.2.2.2.2.2.2.2.2.2.2.2.2.2.2.2.2.1 x0.2.2.2.2.2.2.2.2.2.2.2.2.2.2.2.2.2.2.2.2.2.2.2.2.2.2.2) fun x1=>
    some (x1.1,x1.2.1,x1.2.2.1,x1.2.2.2.1,x1.2.2.2.2.1,x1.2.2.2.2.2.1,x1.2.2.2.2.2.2.1,x1.2.2.2.2.2.2.2.1,x1.2.2.2.2.2.2.2.2.1,x1.2.2.2.2.2.2.2.2.2.1,x1.2.2.2.2.2.2.2.2.2.2.1,x1.2.2.2.2.2.2.2.2.2.2.2.1,x1.2.2.2.2.2.2.2.2.2.2.2.2.1,x1.2.2.2.2.2.2.2.2.2.2.2.2.2.1,x1.2.2.2.2.2.2.2.2.2.2.2.2.2.2.1,x1.2.2.2.2.2.2.2.2.2.2.2.2.2.2.2.1,x1.2.2.2.2.2.2.2.2.2.2.2.2.2.2.2.2.1,x1.2.2.2.2.2.2.2.2.2.2.2.2.2.2.2.2.2.1,x1.2.2.2.2.2.2.2.2.2.2.2.2.2.2.2.2.2.2.1,x1.2.2.2.2.2.2.2.2.2.2.2.2.2.2.2.2.2.2.2,[])
def zB.v0(κ:Nat)(a0 a1 a2 a3 a4:ByteArray)(a5 a6 a7 a8:Int)(a9:ByteArray)(a10:Int)(a11 a12:Bool)(a13:ByteArray)(a14 a15:Int)(a16:ByteArray)(a17 a18:Int)(a19:ByteArray)(a20:Int)(a21 a22:Bool)(a23:ByteArray)(a24 a25:Int)(a26:ByteArray):Option (Int×Int×ByteArray×Int×Bool×Bool×ByteArray×Int×Int×ByteArray×Int×Int×ByteArray×Int×Bool×Bool×ByteArray×Int×Int×ByteArray×(List zD)):=
 Option.bind (Ev.Seat.zB.v1 κ a0 a1 a2 a3 a4 a5 a6 (a6==(7:Int)) a7 a8 a9 a10 a11 a12 a13 a14 a15 a16 a17 a18 a19 a20 a21 a22 a23 a24 a25 a26) fun x0=>
  Option.bind (Ev.Seat.zB.v3 κ x0.1 x0.2.1 x0.2.2.1 x0.2.2.2.1 x0.2.2.2.2.1 x0.2.2.2.2.2.1 x0.2.2.2.2.2.2.1 x0.2.2.2.2.2.2.2.1 x0.2.2.2.2.2.2.2.2.1 x0.2.2.2.2.2.2.2.2.2.1 x0.2.2.2.2.2.2.2.2.2.2.1 x0.2.2.2.2.2.2.2.2.2.2.2.1 x0.2.2.2.2.2.2.2.2.2.2.2.2.1 x0.2.2.2.2.2.2.2.2.2.2.2.2.2.1 x0.2.2.2.2.2.2.2.2.2.2.2.2.2.2.1 x0.2.2.2.2.2.2.2.2.2.2.2.2.2.2.2.1 x0.2.2.2.2.2.2.2.2.2.2.2.2.2.2.2.2.1 x0.2.2.2.2.2.2.2.2.2.2.2.2.2.2.2.2.2.1 x0.2.2.2.2.2.2.2.2.2.2.2.2.2.2.2.2.2.2.1 x0.2.2.2.2.2.2.2.2.2.2.2.2.2.2.2.2.2.2.2.1 x0.2.2.2.2.2.2.2.2.2.2.2.2.2.2.2.2.2.2.2.2.1 x0.2.2.2.2.2.2.2.2.2.2.2.2.2.2.2.2.2.2.2.2.2.1 x0.2.2.2.2.2.2.2.2.2.2.2.2.2.2.2.2.2.2.2.2.2.2.1 x0.2.2.2.2.2.2.2.2.2.2.2.2.2.2.2.2.2.2.2.2.2.2.2.1 x0.2.2.2.2.2.2.2.2.2.2.2.2.2.2.2.2.2.2.2.2.2.2.2.2.1 x0.2.2.2.2.2.2.2.2.2.2.2.2.2.2.2.2.2.2.2.2.2.2.2.2.2.1 x0.2.2.2.2.2.2.2.2.2.2.2.2.2.2.2.2.2.2.2.2.2.2.2.2.2.2.1 x0.2.2.2.2.2.2.2.2.2.2.2.2.2.2.2.2.2.2.2.2.2.2.2.2.2.2.2) fun x1=>
   some (x1.1,x1.2.1,x1.2.2.1,x1.2.2.2.1,x1.2.2.2.2.1,x1.2.2.2.2.2.1,x1.2.2.2.2.2.2.1,x1.2.2.2.2.2.2.2.1,x1.2.2.2.2.2.2.2.2.1,x1.2.2.2.2.2.2.2.2.2.1,x1.2.2.2.2.2.2.2.2.2.2.1,x1.2.2.2.2.2.2.2.2.2.2.2.1,x1.2.2.2.2.2.2.2.2.2.2.2.2.1,x1.2.2.2.2.2.2.2.2.2.2.2.2.2.1,x1.2.2.2.2.2.2.2.2.2.2.2.2.2.2.1,x1.2.2.2.2.2.2.2.2.2.2.2.2.2.2.2.1,x1.2.2.2.2.2.2.2.2.2.2.2.2.2.2.2.2.1,x1.2.2.2.2.2.2.2.2.2.2.2.2.2.2.2.2.2.1,x1.2.2.2.2.2.2.2.2.2.2.2.2.2.2.2.2.2.2.1,x1.2.2.2.2.2.2.2.2.2.2.2.2.2.2.2.2.2.2.2.1,x1.2.2.2.2.2.2.2.2.2.2.2.2.2.2.2.2.2.2.2.2)
def zB(κ:Nat)(a0 a1:Int)(a2:ByteArray)(a3:Int)(a4 a5:Bool)(a6:ByteArray)(a7 a8:Int)(a9 a10:ByteArray):Option zj5:=
 Option.bind (Ev.Seat.qZ κ a10) fun x0=>
  Option.bind (Ev.Seat.qZ κ x0.2) fun x1=>
   Option.bind (Ev.Seat.yw κ x0.1) fun x2=>
    Option.bind (Ev.Seat.zB.v0 κ a10 x0.1 x0.2 x1.1 x1.2 x2.1 a0 a0 a1 a2 a3 a4 a5 a6 a7 a8 a9 (0:Int) (0:Int) (ByteArray.mk (List.toArray [])) (0:Int) Bool.false Bool.false (ByteArray.mk (List.toArray [])) (0:Int) (0:Int) (ByteArray.mk (List.toArray []))) fun x3=>
     Option.bind (Ev.Seat.za κ x3.1 x3.2.1 x3.2.2.2.2.2.2.2.2.2.2.2.2.2.2.2.2.2.2.2.2 x3.2.2.1 x3.2.2.2.1 x3.2.2.2.2.1 x3.2.2.2.2.2.1 x3.2.2.2.2.2.2.1 x3.2.2.2.2.2.2.2.1 x3.2.2.2.2.2.2.2.2.1 x3.2.2.2.2.2.2.2.2.2.1) fun x4=>
      some (x4.1,x4.2.1,x4.2.2.1,x4.2.2.2.1,x4.2.2.2.2.1,x4.2.2.2.2.2.1,x4.2.2.2.2.2.2.1,x4.2.2.2.2.2.2.2.1,x4.2.2.2.2.2.2.2.2.1,x4.2.2.2.2.2.2.2.2.2.1,x4.2.2.2.2.2.2.2.2.2.2)
def yU.v5(κ:Nat)(a0:ByteArray)(a1:Int)(a2 a3:ByteArray)(a4:Bool)(a5 a6:Int)(a7:ByteArray)(a8:Int)(a9 a10:Bool)(a11:ByteArray)(a12 a13:Int)(a14:ByteArray)(a15 a16:Int)(a17:ByteArray)(a18:Int)(a19 a20:Bool)(a21:ByteArray)(a22 a23:Int)(a24:ByteArray):Option (ByteArray×Int×ByteArray×ByteArray×Int×Int×ByteArray×Int×Bool×Bool×ByteArray×Int×Int×ByteArray×Int×Int×ByteArray×Int×Bool×Bool×ByteArray×Int×Int×ByteArray):=
 bif a4 then
  Option.bind (Ev.Seat.yw κ a2) fun x0=>
   Option.bind (Ev.Seat.qZ κ a3) fun x1=>
    some (a0,a1,x1.1,x1.2,a5,a6,a7,a8,a9,a10,a11,a12,a13,a14,a15,(IntKind.wrap IntKind.i64 (bif Bool.false then(if((99:Int)>x0.1)then(99:Int)else x0.1)else(if((99:Int)<x0.1)then(99:Int)else x0.1))),a17,a18,a19,a20,a21,a22,a23,a24)
 else
  some (a0,a1,a2,a3,a5,a6,a7,a8,a9,a10,a11,a12,a13,a14,a15,a16,a17,a18,a19,a20,a21,a22,a23,a24)
def yU.v7(κ:Nat)(a0:ByteArray)(a1:Int)(a2:ByteArray)(a3 a4:Int)(a5:ByteArray)(a6:Int)(a7 a8:Bool)(a9:ByteArray)(a10 a11:Int)(a12:ByteArray)(a13 a14:Int)(a15:List zD)(a16:ByteArray)(a17:Int)(a18 a19:Bool)(a20:ByteArray)(a21 a22:Int)(a23:ByteArray):Option (ByteArray×Int×Bool×Int×Int×ByteArray×Int×Bool×Bool×ByteArray×Int×Int×ByteArray×Int×Int×(List zD)×ByteArray×Int×Bool×Bool×ByteArray×Int×Int×ByteArray):=
 Option.bind (Ev.Seat.yn κ a1) fun x0=>
  bif (Ev.seq a2 x0)then
   Option.bind (Ev.Seat.yA κ a13 a14 a15 a16 a17 a18 a19 a20 a21 a22 a23) fun x1=>
    bif x1 then
     Option.bind (Ev.Seat.zL κ a13 a14 a15 a16 a17 a18 a19 a20 a21 a22 a23) fun x2=>
      some (a0,a1,(Ev.seq x2 a0),a3,a4,a5,a6,a7,a8,a9,a10,a11,a12,a13,a14,a15,a16,a17,a18,a19,a20,a21,a22,a23)
    else
     some (a0,a1,Bool.false,a3,a4,a5,a6,a7,a8,a9,a10,a11,a12,a13,a14,a15,a16,a17,a18,a19,a20,a21,a22,a23)
  else
   some (a0,a1,Bool.false,a3,a4,a5,a6,a7,a8,a9,a10,a11,a12,a13,a14,a15,a16,a17,a18,a19,a20,a21,a22,a23)
def yU.w4(κ:Nat)(rec:(ByteArray×Int×Int×Int×ByteArray×Int×Bool×Bool×ByteArray×Int×Int×ByteArray)→Option (zke⊕zkB))(a0:ByteArray)(a1 a2 a3:Int)(a4:ByteArray)(a5:Int)(a6 a7:Bool)(a8:ByteArray)(a9 a10:Int)(a11:ByteArray):Option (zke⊕zkB):=
 bif (decide (a1<(19:Int)))then
  Option.bind (Ev.Seat.qZ κ a0) fun x0=>
   Option.bind (Ev.Seat.yU.v5 κ a0 a1 x0.1 x0.2 (decide (a1<(15:Int))) a2 a3 a4 a5 a6 a7 a8 a9 a10 a11 a1 (0:Int) (ByteArray.mk (List.toArray [])) (0:Int) Bool.false Bool.false (ByteArray.mk (List.toArray [])) (0:Int) (0:Int) (ByteArray.mk (List.toArray []))) fun x1=>
    Option.bind (Ev.Seat.zB κ x1.2.2.2.2.2.2.2.2.2.2.2.2.2.2.1 x1.2.2.2.2.2.2.2.2.2.2.2.2.2.2.2.1 x1.2.2.2.2.2.2.2.2.2.2.2.2.2.2.2.2.1 x1.2.2.2.2.2.2.2.2.2.2.2.2.2.2.2.2.2.1 x1.2.2.2.2.2.2.2.2.2.2.2.2.2.2.2.2.2.2.1 x1.2.2.2.2.2.2.2.2.2.2.2.2.2.2.2.2.2.2.2.1 x1.2.2.2.2.2.2.2.2.2.2.2.2.2.2.2.2.2.2.2.2.1 x1.2.2.2.2.2.2.2.2.2.2.2.2.2.2.2.2.2.2.2.2.2.1 x1.2.2.2.2.2.2.2.2.2.2.2.2.2.2.2.2.2.2.2.2.2.2.1 x1.2.2.2.2.2.2.2.2.2.2.2.2.2.2.2.2.2.2.2.2.2.2.2 x1.2.2.2.1) fun x2=>
     Option.bind (Ev.Seat.yU.v7 κ x1.1 x1.2.1 x1.2.2.1 x1.2.2.2.2.1 x1.2.2.2.2.2.1 x1.2.2.2.2.2.2.1 x1.2.2.2.2.2.2.2.1 x1.2.2.2.2.2.2.2.2.1 x1.2.2.2.2.2.2.2.2.2.1 x1.2.2.2.2.2.2.2.2.2.2.1 x1.2.2.2.2.2.2.2.2.2.2.2.1 x1.2.2.2.2.2.2.2.2.2.2.2.2.1 x1.2.2.2.2.2.2.2.2.2.2.2.2.2.1 x2.1 x2.2.1 x2.2.2.1 x2.2.2.2.1 x2.2.2.2.2.1 x2.2.2.2.2.2.1 x2.2.2.2.2.2.2.1 x2.2.2.2.2.2.2.2.1 x2.2.2.2.2.2.2.2.2.1 x2.2.2.2.2.2.2.2.2.2.1 x2.2.2.2.2.2.2.2.2.2.2) fun x3=>
      bif x3.2.2.1 then
       some (.inr ((0:Int),x3.2.2.2.2.2.2.2.2.2.2.2.2.2.1,x3.2.2.2.2.2.2.2.2.2.2.2.2.2.2.1,x3.2.2.2.2.2.2.2.2.2.2.2.2.2.2.2.1,x3.2.2.2.2.2.2.2.2.2.2.2.2.2.2.2.2.1,x3.2.2.2.2.2.2.2.2.2.2.2.2.2.2.2.2.2.1,x3.2.2.2.2.2.2.2.2.2.2.2.2.2.2.2.2.2.2.1,x3.2.2.2.2.2.2.2.2.2.2.2.2.2.2.2.2.2.2.2.1,x3.2.2.2.2.2.2.2.2.2.2.2.2.2.2.2.2.2.2.2.2.1,x3.2.2.2.2.2.2.2.2.2.2.2.2.2.2.2.2.2.2.2.2.2.1,x3.2.2.2.2.2.2.2.2.2.2.2.2.2.2.2.2.2.2.2.2.2.2.1,x3.2.2.2.2.2.2.2.2.2.2.2.2.2.2.2.2.2.2.2.2.2.2.2))
      else
       rec (x3.1,(IntKind.wrap IntKind.i64 (x3.2.1+(1:Int))),x3.2.2.2.1,x3.2.2.2.2.1,x3.2.2.2.2.2.1,x3.2.2.2.2.2.2.1,x3.2.2.2.2.2.2.2.1,x3.2.2.2.2.2.2.2.2.1,x3.2.2.2.2.2.2.2.2.2.1,x3.2.2.2.2.2.2.2.2.2.2.1,x3.2.2.2.2.2.2.2.2.2.2.2.1,x3.2.2.2.2.2.2.2.2.2.2.2.2.1)
 else
  some (.inl (a2,a3,a4,a5,a6,a7,a8,a9,a10,a11))
def yU.l4(κ:Nat):Nat→(ByteArray×Int×Int×Int×ByteArray×Int×Bool×Bool×ByteArray×Int×Int×ByteArray)→Option (zke⊕zkB)
 |0,_ =>none
 |k+1,(a0,a1,a2,a3,a4,a5,a6,a7,a8,a9,a10,a11)=>yU.w4 κ (yU.l4 κ k) a0 a1 a2 a3 a4 a5 a6 a7 a8 a9 a10 a11
def yU(κ:Nat)(a0:ByteArray):Option (Int×Int×(List zD)×ByteArray×Int×Bool×Bool×ByteArray×Int×Int×ByteArray×Int):=
 Option.bind (Ev.Seat.yU.l4 κ κ (a0,(0:Int),(0:Int),(0:Int),(ByteArray.mk (List.toArray [])),(0:Int),Bool.false,Bool.false,(ByteArray.mk (List.toArray [])),(0:Int),(0:Int),(ByteArray.mk (List.toArray [])))) fun x0=>
  match x0 with
  | .inl x1=>
   some ((0:Int),(0:Int),[],(ByteArray.mk (List.toArray [])),(0:Int),Bool.false,Bool.false,(ByteArray.mk (List.toArray [])),(0:Int),(0:Int),(ByteArray.mk (List.toArray [])),(40:Int))
  | .inr x2=>
   some (x2.2.1,x2.2.2.1,x2.2.2.2.1,x2.2.2.2.2.1,x2.2.2.2.2.2.1,x2.2.2.2.2.2.2.1,x2.2.2.2.2.2.2.2.1,x2.2.2.2.2.2.2.2.2.1,x2.2.2.2.2.2.2.2.2.2.1,x2.2.2.2.2.2.2.2.2.2.2.1,x2.2.2.2.2.2.2.2.2.2.2.2,x2.1)
def zVp(κ:Nat)(a0 a1:Int)(a2:List zD)(a3:ByteArray)(a4:Int)(a5 a6:Bool)(a7:ByteArray)(a8 a9:Int)(a10:List Int):Option zj5:=
 some (a0,a1,a2,a3,a4,a5,a6,a7,a8,a9,(ByteArray.mk (List.toArray (List.map (fun x=>(UInt8.ofNat (Int.toNat x))) a10))))
def yb.v0(κ:Nat)(a0:ByteArray)(a1 a2 a3 a4:Int)(a5:List zD)(a6:ByteArray)(a7:Int)(a8 a9:Bool)(a10:ByteArray)(a11 a12:Int)(a13:List Int)(a14 a15:Int)(a16:List zD)(a17:ByteArray)(a18:Int)(a19 a20:Bool)(a21:ByteArray)(a22 a23:Int)(a24:ByteArray):Option (ByteArray×Int×Bool×Int×Int×(List zD)×ByteArray×Int×Bool×Bool×ByteArray×Int×Int×(List Int)):=
 Option.bind (Ev.Seat.jN κ a3 a4 a5 a6 a7 a8 a9 a10 a11 a12 (ByteArray.mk (List.toArray (List.map (fun x=>(UInt8.ofNat (Int.toNat x))) a13))) a14 a15 a16 a17 a18 a19 a20 a21 a22 a23 a24) fun x0=>
  bif (!x0)then
   some (a0,a1,Bool.true,a3,a4,a5,a6,a7,a8,a9,a10,a11,a12,a13)
  else
   some (a0,a1,(a1 !=a2),a3,a4,a5,a6,a7,a8,a9,a10,a11,a12,a13)
def yb.v2(κ:Nat)(a0:ByteArray)(a1 a2 a3:Int)(a4:List zD)(a5:ByteArray)(a6:Int)(a7 a8:Bool)(a9:ByteArray)(a10 a11:Int)(a12:List Int):Option (Bool):=
 bif (a1 !=(0:Int))then
  some Bool.true
 else
  Option.bind (Ev.Seat.kL κ a2 a3 a4 a5 a6 a7 a8 a9 a10 a11 a12) fun x0=>
   bif (Ev.seq x0 a0)then
    Option.bind (Ev.Seat.qy κ a2 a3 a4 a5 a6 a7 a8 a9 a10 a11 a12) fun x1=>
     some x1
   else
    some Bool.false
def yb(κ:Nat)(a0:ByteArray):Option (Bool):=
 Option.bind (Ev.Seat.kV κ) fun x0=>
  bif (!x0)then
   some Bool.false
  else
   bif (decide ((((ByteArray.size a0):Nat):Int)>(4000:Int)))then
    some Bool.true
   else
    Option.bind (Ev.Seat.yL κ a0) fun x1=>
     Option.bind (Ev.Seat.yU κ a0) fun x2=>
      Option.bind (Ev.Seat.yb.v0 κ a0 x1.2.2.2.2.2.2.2.2.2.2.2 x2.2.2.2.2.2.2.2.2.2.2.2 x1.1 x1.2.1 x1.2.2.1 x1.2.2.2.1 x1.2.2.2.2.1 x1.2.2.2.2.2.1 x1.2.2.2.2.2.2.1 x1.2.2.2.2.2.2.2.1 x1.2.2.2.2.2.2.2.2.1 x1.2.2.2.2.2.2.2.2.2.1 x1.2.2.2.2.2.2.2.2.2.2.1 x2.1 x2.2.1 x2.2.2.1 x2.2.2.2.1 x2.2.2.2.2.1 x2.2.2.2.2.2.1 x2.2.2.2.2.2.2.1 x2.2.2.2.2.2.2.2.1 x2.2.2.2.2.2.2.2.2.1 x2.2.2.2.2.2.2.2.2.2.1 x2.2.2.2.2.2.2.2.2.2.2.1) fun x3=>
       bif x3.2.2.1 then
        some Bool.false
       else
        Option.bind (Ev.Seat.yb.v2 κ x3.1 x3.2.1 x3.2.2.2.1 x3.2.2.2.2.1 x3.2.2.2.2.2.1 x3.2.2.2.2.2.2.1 x3.2.2.2.2.2.2.2.1 x3.2.2.2.2.2.2.2.2.1 x3.2.2.2.2.2.2.2.2.2.1 x3.2.2.2.2.2.2.2.2.2.2.1 x3.2.2.2.2.2.2.2.2.2.2.2.1 x3.2.2.2.2.2.2.2.2.2.2.2.2.1 x3.2.2.2.2.2.2.2.2.2.2.2.2.2) fun x4=>
         some x4
end Go.Proofs.YtdoifigogbdodaaGreatDoor.Ev.Seat
