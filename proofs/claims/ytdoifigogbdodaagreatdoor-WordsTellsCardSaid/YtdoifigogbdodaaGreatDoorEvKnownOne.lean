import Derived.Test.YtdoifigogbdodaaGreatDoorEvPlain
set_option linter.unusedVariables false
set_option linter.unusedSimpArgs false
set_option maxHeartbeats 1000000
namespace Go.Proofs.YtdoifigogbdodaaGreatDoor.Ev.Seat
open Go Ev Go.Proofs
noncomputable def znH(κ:Nat):qK T:=(zay (zbU (zdx zmH κ) κ) κ).zct []
theorem zWV(κ:Nat)(m:Int):ql Tryz.prog C (G m) (znH κ):=(zaC κ m (zaZ κ m (zce κ m zgr))).zct
def kk0:List Sh:=[.s,.i .i64,.i .i64,.i .i64]
def kk1:List Sh:=[.q9 74 (.s),.q9 89 (.agg [])]
def kk2:List Sh:=[.q9 78 (.agg []),.q9 74 (.s)]
def kk3:List Sh:=[.q9 74 (.s),.q9 82 (.fn 40 [] [])]
def kk4:List kq:=[.row 55 true,.cells 55 none [.s,.s]]
def kk5:List kq:=[.cells 94 none [.pn,.own 1],.row 5 true]
def kk6:List kq:=[.cells 94 none [.ptr 0 0,.own 1],.row 5 true]
def kk7:List kq:=[.cells 115 none kk0]
def kk8:List Sh:=[.q9 78 (.agg []),.q9 74 (.s),.q9 68 (.agg [])]
def kk9:List Sh:=[.q9 78 (.agg []),.q9 74 (.s),.q9 79 (.agg [])]
def zgZ:List Sh:=[.q9 78 (.agg []),.q9 74 (.s),.q9 82 (.fn 40 [] [])]
def zgJ:List kq:=[.cells 115 none kk0,.row 55 true]
def zfh:List Sh:=[.q9 78 (.agg []),.q9 74 (.s),.q9 74 (.s),.q9 88 (.agg [])]
def zhU:List Sh:=[.q9 78 (.agg []),.q9 74 (.s),.q9 74 (.s),.q9 87 (.agg [])]
def zft:List Sh:=[.q9 78 (.agg []),.q9 74 (.s),.q9 79 (.agg []),.q9 80 (.agg [])]
def zUe:List Sh:=[.i .i64,.i .i64,.qG,.s,.i .u64,.b,.b,.s,.i .u64,.i .u64,.s]
def zJt:List Sh:=[.i .i64,.i .i64,.sl 55,.s,.i .u64,.b,.b,.s,.i .u64,.i .u64,.s]
def zgv:List kq:=[.cells 94 none [.ptr 0 0,.own 2],.cells 55 none [.s,.s],.row 5 true]
def zhL:List kq:=[.cells 115 none kk0,.cells 55 none [.s,.s]]
def zkz:List Sh:=[.i .i64,.i .i64,.qG,.s,.i .u64,.b,.b,.s,.i .u64,.i .u64,.qG]
def wH:List Sh:=[.i .i64,.i .i64,.sl 55,.s,.i .u64,.b,.b,.s,.i .u64,.i .u64,.sl 5]
def zjj:List Sh:=[.agg zJt]
def zf1:List Sh:=[.q9 74 (.s),.q9 89 (.agg []),.q9 82 (.fn 43 [] []),.q9 82 (.fn 44 [] [])]
def zhe:List Sh:=[.agg wH]
def zEY:List kq:=[.cells 32 none zJt]
def vv:List kq:=[.cells 26 none zkz]
def qe:List kq:=[.cells 26 none wH]
def zfs:List Sh:=[.q9 78 (.agg []),.q9 74 (.s),.q9 86 (.agg [.s,.s,.fn 41 [] []]),.q9 86 (.agg [.s,.s,.fn 42 [] []]),.q9 82 (.fn 40 [] [])]
def zgO:List kq:=[.cells 26 none wH,.row 9 true,.cells 20 none kk1]
def zgk:List kq:=[.cells 26 none wH,.row 9 true,.cells 20 none kk2]
def zhM:List kq:=[.cells 26 none wH,.row 9 true,.cells 20 none kk3]
def zoU:List Sh:=[.agg wH,.agg wH]
def zcC:List kq:=[.cells 26 none wH,.row 9 true,.cells 20 none kk8]
def zcp:List kq:=[.cells 26 none wH,.row 9 true,.cells 20 none kk9]
def uk:List kq:=[.cells 32 none zUe,.cells 32 none zUe]
def zk1:List kq:=[.cells 32 none zUe,.cells 32 none zJt]
def zcE:List kq:=[.cells 26 none wH,.row 9 true,.cells 20 none zgZ]
def pg:List kq:=[.cells 26 none wH,.cells 26 none wH]
def zYe:List kq:=[.cells 26 none wH,.row 9 true,.cells 20 none zfh]
def zXQ:List kq:=[.cells 26 none wH,.row 9 true,.cells 20 none zhU]
def zYM:List kq:=[.cells 26 none wH,.row 9 true,.cells 20 none zft]
def zYt:List kq:=[.cells 26 none wH,.row 9 true,.cells 20 none zf1]
def zdr:List kq:=[.cells 26 none wH,.cells 26 none wH,.cells 20 none kk1]
def zeV:List kq:=[.cells 26 none wH,.cells 26 none wH,.cells 20 none kk2]
def zeN:List kq:=[.cells 26 none wH,.cells 26 none wH,.cells 20 none kk3]
def zaS:List kq:=[.cells 26 none wH,.cells 26 none wH,.cells 20 none kk8]
def zaN:List kq:=[.cells 26 none wH,.cells 26 none wH,.cells 20 none kk9]
def zU0:List kq:=[.cells 26 none wH,.row 9 true,.cells 20 none zfs]
def zZm:List kq:=[.cells 26 none wH,.cells 26 none wH,.cells 20 none zgZ]
def zeH:List kq:=[.cells 32 none zJt,.cells 32 none zUe,.cells 32 none zUe]
def zEW:List kq:=[.cells 32 none zJt,.cells 32 none zUe,.cells 32 none zJt]
def zW5:List kq:=[.cells 26 none wH,.cells 26 none wH,.cells 20 none zfh]
def zWO:List kq:=[.cells 26 none wH,.cells 26 none wH,.cells 20 none zhU]
def zWD:List kq:=[.cells 26 none wH,.cells 26 none wH,.cells 20 none zft]
def zWj:List kq:=[.cells 26 none wH,.cells 26 none wH,.cells 20 none zf1]
def zTl:List kq:=[.cells 26 none wH,.cells 26 none wH,.cells 20 none zfs]
def xx0:Ex T→zp T:=(xN (zW 0 [2]) [] (zW 0 [2]) (zW 0 [1000000]))
theorem zKv{m:Int}(x:Ex T):ze C (G m) 0 (xx0 x):=(ye zF (yK) zF zF) x
def xx1:Ex T→zp T:=(xN (zW 1 []) [] (zW 1 []) (zW 1 [1000000]))
theorem zfH{m:Int}(x:Ex T):ze C (G m) 1 (xx1 x):=(ye zF (yK) zF zF) x
def xx2:Ex T→zp T:=(xN (zW 2 []) [] (zW 2 []) (zW 2 [1000000]))
theorem zc7{m:Int}(x:Ex T):ze C (G m) 2 (xx2 x):=(ye zF (yK) zF zF) x
def xx3:Ex T→zp T:=(xN (zW 0 [3,5,12,13,14,32]) [(1,(zW 0 [3,12,13,14])),(0,(zW 0 [3]))] (zW 0 [2]) (zW 0 [1000000]))
theorem zeP{m:Int}(x:Ex T):ze C (G m) 0 (xx3 x):=(ye zF (yC zF (yC zF (yK))) zF zF) x
def xx4:Ex T→zp T:=(xN (zW 0 [3,12,13,14]) [(1,(zW 0 [3,12,13,14])),(0,(zW 0 [3]))] (zW 0 [2]) (zW 0 [1000000]))
theorem zd4{m:Int}(x:Ex T):ze C (G m) 0 (xx4 x):=(ye zF (yC zF (yC zF (yK))) zF zF) x
def xx5:Ex T→zp T:=(xN (zW 0 [3,12,13,14]) [(0,(zW 0 [3]))] (zW 0 [2]) (zW 0 [1000000]))
theorem zem{m:Int}(x:Ex T):ze C (G m) 0 (xx5 x):=(ye zF (yC zF (yK)) zF zF) x
def xx6:Ex T→zp T:=(xN (zW 0 [3]) [] (zW 0 [2]) (zW 0 [1000000]))
theorem zTF{m:Int}(x:Ex T):ze C (G m) 0 (xx6 x):=(ye zF (yK) zF zF) x
def nn0:zp T:=(jO (zW 0 [3,12,13,14]) (jO (zYI 0 1 [] 5) (zW 0 [3,12,13,14])))
theorem zk3{m:Int}:ze C (G m) 0 nn0:=(y7 zF (y7 zTD zF))
def xx7:Ex T→zp T:=(xN (zW 0 [4]) [] (zW 0 [4]) (zW 0 [1000000]))
theorem zZc{m:Int}(x:Ex T):ze C (G m) 0 (xx7 x):=(ye zF (yK) zF zF) x
def xx8:Ex T→zp T:=(xN (zW 1 [0,3,4]) [] (zW 1 [2]) (zW 1 [1000000]))
theorem zkH{m:Int}(x:Ex T):ze C (G m) 1 (xx8 x):=(ye zF (yK) zF zF) x
def xx9:Ex T→zp T:=(xN (zW 1 [0,4,14]) [] (zW 1 [4]) (zW 1 [1000000]))
theorem zlJ{m:Int}(x:Ex T):ze C (G m) 1 (xx9 x):=(ye zF (yK) zF zF) x
def znN:Ex T→zp T:=(xN (zW 1 [0,4]) [] (zW 1 [4]) (zW 1 [1000000]))
theorem zgc{m:Int}(x:Ex T):ze C (G m) 1 (znN x):=(ye zF (yK) zF zF) x
def znP:Ex T→zp T:=(xN (zW 1 [4,5]) [] (zW 1 [4]) (zW 1 [1000000]))
theorem zg1{m:Int}(x:Ex T):ze C (G m) 1 (znP x):=(ye zF (yK) zF zF) x
def znl:Ex T→zp T:=(xN (zW 0 [5,6,28]) [(0,(zW 0 [5,6]))] (zW 0 [2,3,4]) (zW 0 [1000000]))
theorem zfq{m:Int}(x:Ex T):ze C (G m) 0 (znl x):=(ye zF (yC zF (yK)) zF zF) x
def zlj:Ex T→zp T:=(xN (zW 0 [5,6]) [] (zW 0 [2,3,4]) (zW 0 [1000000]))
theorem zgx{m:Int}(x:Ex T):ze C (G m) 0 (zlj x):=(ye zF (yK) zF zF) x
def zZh:Ex T→zp T:=(xN (zW 0 [0,5,6]) [(0,(zW 0 []))] (zW 0 [2]) (zW 0 [1000000]))
theorem zFk{m:Int}(x:Ex T):ze C (G m) 0 (zZh x):=(ye zF (yC zF (yK)) zF zF) x
def nn1:zp T:=(jO (zW 0 [3,6,7,8]) (jO (zYI 0 1 [] 5) (zW 0 [3,6,7,8])))
theorem zjz{m:Int}:ze C (G m) 0 nn1:=(y7 zF (y7 zTD zF))
def we:Ex T→zp T:=(xN (jO (zW 0 [1,4,13,14,15]) (jO (slC 0 2 [] 55) (jO (slC 0 10 [] 5) (zW 0 [1,4,13,14,15])))) [(0,(zW 0 [4]))] (zW 0 [2,3]) (zW 0 [1000000]))
theorem yN{m:Int}(x:Ex T):ze C (G m) 0 (we x):=(ye (y7 zF (y7 (xV zY) (y7 (xV zY) zF))) (yC zF (yK)) zF zF) x
def wk:zp T:=(jO (zW 0 [1,4,13,14,15]) (jO (slC 0 2 [] 55) (jO (slC 0 10 [] 5) (zW 0 [1,4,13,14,15]))))
theorem yp{m:Int}:ze C (G m) 0 wk:=(y7 zF (y7 (xV zY) (y7 (xV zY) zF)))
def znB:Ex T→zp T:=(xN (zW 0 [0,4,5,6,7,32]) [(1,(zW 0 [0,4,5])),(0,(zW 0 [4]))] (zW 0 [2,3]) (zW 0 [1000000]))
theorem zhD{m:Int}(x:Ex T):ze C (G m) 0 (znB x):=(ye zF (yC zF (yC zF (yK))) zF zF) x
def zm0:Ex T→zp T:=(xN (zW 0 [4]) [] (zW 0 [2,3]) (zW 0 [1000000]))
theorem zhG{m:Int}(x:Ex T):ze C (G m) 0 (zm0 x):=(ye zF (yK) zF zF) x
def nn3:zp T:=(jO (zSn 4 [] 5) (zW 0 [0,4,5]))
theorem zki{m:Int}:ze C (G m) 0 nn3:=(y7 zFb zF)
def wb:Ex T→zp T:=(xN (jO (zW 0 [0,1,4,6,7,21,22,23]) (jO (slC 0 2 [] 55) (jO (slC 0 10 [] 5) (jO (slC 1 2 [] 55) (jO (slC 1 10 [] 5) (zW 0 [0,1,4,6,7,21,22,23])))))) [(0,(zW 0 [4,6]))] (zW 0 [4,5]) (zW 0 [1000000]))
theorem yO{m:Int}(x:Ex T):ze C (G m) 0 (wb x):=(ye (y7 zF (y7 (xV zY) (y7 (xV zY) (y7 (xV zY) (y7 (xV zY) zF))))) (yC zF (yK)) zF zF) x
def wm:zp T:=(jO (zW 0 [0,1,4,6,7,21,22,23]) (jO (slC 0 2 [] 55) (jO (slC 0 10 [] 5) (jO (slC 1 2 [] 55) (jO (slC 1 10 [] 5) (zW 0 [0,1,4,6,7,21,22,23]))))))
theorem yo{m:Int}:ze C (G m) 0 wm:=(y7 zF (y7 (xV zY) (y7 (xV zY) (y7 (xV zY) (y7 (xV zY) zF)))))
def zmq:Ex T→zp T:=(xN (zW 0 [4,5]) [] (zW 0 [4,5]) (zW 0 [1000000]))
theorem zgQ{m:Int}(x:Ex T):ze C (G m) 0 (zmq x):=(ye zF (yK) zF zF) x
def zky:Ex T→zp T:=(xN (zW 0 []) [] (zW 0 [4]) (zW 0 [1000000]))
theorem zbd{m:Int}(x:Ex T):ze C (G m) 0 (zky x):=(ye zF (yK) zF zF) x
def zmi:Ex T→zp T:=(xN (zW 0 [0,2,4,5,23]) [(1,(zW 0 [0,2,4])),(0,(zW 0 [2]))] (zW 0 [2,3]) (zW 0 [1000000]))
theorem zga{m:Int}(x:Ex T):ze C (G m) 0 (zmi x):=(ye zF (yC zF (yC zF (yK))) zF zF) x
def zkL:Ex T→zp T:=(xN (zW 0 [2]) [] (zW 0 [2,3]) (zW 0 [1000000]))
theorem zaz{m:Int}(x:Ex T):ze C (G m) 0 (zkL x):=(ye zF (yK) zF zF) x
def znt:Ex T→zp T:=(xN (zW 0 [0]) [] (zW 0 [0]) (zW 0 [1000000]))
theorem zfn{m:Int}(x:Ex T):ze C (G m) 0 (znt x):=(ye zF (yK) zF zF) x
def zmN:Ex T→zp T:=(xN (zW 0 [0,3,4]) [(1,(zW 0 [0,3])),(0,(zW 0 [0]))] (zW 0 [2]) (zW 0 [1000000]))
theorem zgB{m:Int}(x:Ex T):ze C (G m) 0 (zmN x):=(ye zF (yC zF (yC zF (yK))) zF zF) x
def zmw:Ex T→zp T:=(xN (zW 0 [0,3,44]) [(1,(zW 0 [0,3])),(0,(zW 0 [0]))] (zW 0 [2]) (zW 0 [1000000]))
theorem zgL{m:Int}(x:Ex T):ze C (G m) 0 (zmw x):=(ye zF (yC zF (yC zF (yK))) zF zF) x
def zlG:Ex T→zp T:=(xN (zW 0 [0]) [] (zW 0 [2]) (zW 0 [1000000]))
theorem zbC{m:Int}(x:Ex T):ze C (G m) 0 (zlG x):=(ye zF (yK) zF zF) x
def zlc:Ex T→zp T:=(xN (zW 0 [0,3,4,6,38]) [(1,(zW 0 [0,3,4])),(0,(zW 0 [0,3]))] (zW 0 [2]) (zW 0 [1000000]))
theorem zfx{m:Int}(x:Ex T):ze C (G m) 0 (zlc x):=(ye zF (yC zF (yC zF (yK))) zF zF) x
def znZ:Ex T→zp T:=(xN (zW 0 [0,3,4]) [(1,(zW 0 [0,3,4])),(0,(zW 0 [0,3]))] (zW 0 [2]) (zW 0 [1000000]))
theorem zgD{m:Int}(x:Ex T):ze C (G m) 0 (znZ x):=(ye zF (yC zF (yC zF (yK))) zF zF) x
def zni:Ex T→zp T:=(xN (zW 0 [0,3,4]) [(0,(zW 0 [0,3]))] (zW 0 [2]) (zW 0 [1000000]))
theorem zgM{m:Int}(x:Ex T):ze C (G m) 0 (zni x):=(ye zF (yC zF (yK)) zF zF) x
def znT:Ex T→zp T:=(xN (zW 0 [0,3]) [] (zW 0 [2]) (zW 0 [1000000]))
theorem zgG{m:Int}(x:Ex T):ze C (G m) 0 (znT x):=(ye zF (yK) zF zF) x
def zmQ:Ex T→zp T:=(xN (zW 0 [0,1,38]) [(0,(zW 0 [1]))] (zW 0 [4]) (zW 0 [1000000]))
theorem zgW{m:Int}(x:Ex T):ze C (G m) 0 (zmQ x):=(ye zF (yC zF (yK)) zF zF) x
def zmE:Ex T→zp T:=(xN (zW 0 [1]) [] (zW 0 [4]) (zW 0 [1000000]))
theorem zf5{m:Int}(x:Ex T):ze C (G m) 0 (zmE x):=(ye zF (yK) zF zF) x
def zng:Ex T→zp T:=(xN (zW 0 [0,5,6,20]) [(0,(zW 0 [5]))] (zW 0 [2,3,4]) (zW 0 [1000000]))
theorem zfy{m:Int}(x:Ex T):ze C (G m) 0 (zng x):=(ye zF (yC zF (yK)) zF zF) x
def zlm:Ex T→zp T:=(xN (zW 0 [0,5,6,30]) [(1,(zW 0 [0,5,6])),(0,(zW 0 [5]))] (zW 0 [2,3,4]) (zW 0 [1000000]))
theorem zgP{m:Int}(x:Ex T):ze C (G m) 0 (zlm x):=(ye zF (yC zF (yC zF (yK))) zF zF) x
def znq:Ex T→zp T:=(xN (zW 0 [0,5,6,8,62]) [(1,(zW 0 [0,5,6])),(0,(zW 0 [5]))] (zW 0 [2,3,4]) (zW 0 [1000000]))
theorem zhN{m:Int}(x:Ex T):ze C (G m) 0 (znq x):=(ye zF (yC zF (yC zF (yK))) zF zF) x
def zm5:Ex T→zp T:=(xN (zW 0 [0,5,7,8,89]) [(1,(zW 0 [0,5,6])),(0,(zW 0 [5]))] (zW 0 [2,3,4]) (zW 0 [1000000]))
theorem zg6{m:Int}(x:Ex T):ze C (G m) 0 (zm5 x):=(ye zF (yC zF (yC zF (yK))) zF zF) x
def znF:Ex T→zp T:=(xN (zW 0 [0,5,6,8]) [(1,(zW 0 [0,5,6])),(0,(zW 0 [5]))] (zW 0 [2,3,4]) (zW 0 [1000000]))
theorem zfp{m:Int}(x:Ex T):ze C (G m) 0 (znF x):=(ye zF (yC zF (yC zF (yK))) zF zF) x
def zmf:Ex T→zp T:=(xN (zW 0 [5]) [] (zW 0 [2,3,4]) (zW 0 [1000000]))
theorem zhT{m:Int}(x:Ex T):ze C (G m) 0 (zmf x):=(ye zF (yK) zF zF) x
def nn5:zp T:=(jO (zSn 5 [] 55) (zW 0 [0,5,6]))
theorem zj3{m:Int}:ze C (G m) 0 nn5:=(y7 zFb zF)
def zlh:Ex T→zp T:=(xN (zW 0 [0,4,5,13]) [(0,(zW 0 [0,4]))] (zW 0 [2,3]) (zW 0 [1000000]))
theorem zhH{m:Int}(x:Ex T):ze C (G m) 0 (zlh x):=(ye zF (yC zF (yK)) zF zF) x
def zlf:Ex T→zp T:=(xN (zW 0 [0,4]) [] (zW 0 [2,3]) (zW 0 [1000000]))
theorem zf3{m:Int}(x:Ex T):ze C (G m) 0 (zlf x):=(ye zF (yK) zF zF) x
def znj:Ex T→zp T:=(xN (zW 0 [0,3,4,5,6,7]) [(5,(zW 0 [0,3,4,5,6,7])),(4,(zW 0 [0,3,4,5,6])),(3,(zW 0 [0,3,4,5,6])),(2,(zW 0 [0,3,4,5])),(1,(zW 0 [0,3,4])),(0,(zW 0 [3]))] (zW 0 [2]) (zW 0 [1000000]))
theorem zfk{m:Int}(x:Ex T):ze C (G m) 0 (znj x):=(ye zF (yC zF (yC zF (yC zF (yC zF (yC zF (yC zF (yK))))))) zF zF) x
def zno:Ex T→zp T:=(xN (zW 0 [0,3,4,5,6,7]) [(4,(zW 0 [0,3,4,5,6])),(3,(zW 0 [0,3,4,5,6])),(2,(zW 0 [0,3,4,5])),(1,(zW 0 [0,3,4])),(0,(zW 0 [3]))] (zW 0 [2]) (zW 0 [1000000]))
theorem zf2{m:Int}(x:Ex T):ze C (G m) 0 (zno x):=(ye zF (yC zF (yC zF (yC zF (yC zF (yC zF (yK)))))) zF zF) x
def znC:Ex T→zp T:=(xN (zW 0 [0,3,4,5,6]) [(3,(zW 0 [0,3,4,5,6])),(2,(zW 0 [0,3,4,5])),(1,(zW 0 [0,3,4])),(0,(zW 0 [3]))] (zW 0 [2]) (zW 0 [1000000]))
theorem zhg{m:Int}(x:Ex T):ze C (G m) 0 (znC x):=(ye zF (yC zF (yC zF (yC zF (yC zF (yK))))) zF zF) x
def zmB:Ex T→zp T:=(xN (zW 0 [0,3,4,5]) [(1,(zW 0 [0,3,4])),(0,(zW 0 [3]))] (zW 0 [2]) (zW 0 [1000000]))
theorem zhB{m:Int}(x:Ex T):ze C (G m) 0 (zmB x):=(ye zF (yC zF (yC zF (yK))) zF zF) x
def zmh:Ex T→zp T:=(xN (zW 0 [0]) [] (zW 0 [2,3]) (zW 0 [1000000]))
theorem zf6{m:Int}(x:Ex T):ze C (G m) 0 (zmh x):=(ye zF (yK) zF zF) x
def znY:Ex T→zp T:=(xN (zW 0 [0,3,12]) [] (zW 0 [2]) (zW 0 [1000000]))
theorem zhY{m:Int}(x:Ex T):ze C (G m) 0 (znY x):=(ye zF (yK) zF zF) x
def zaG:Ex T→zp T:=(xN (zW 0 [1,2,3,4]) [] (zW 0 [2]) (zW 0 [1000000]))
theorem zF1{m:Int}(x:Ex T):ze C (G m) 0 (zaG x):=(ye zF (yK) zF zF) x
def znd:Ex T→zp T:=(xN (zW 0 [1,2,3,4,19]) [] (zW 0 [2]) (zW 0 [1000000]))
theorem zfg{m:Int}(x:Ex T):ze C (G m) 0 (znd x):=(ye zF (yK) zF zF) x
def zmI:Ex T→zp T:=(xN (jO (zW 0 [1,2,3,4]) (jO (slC 2 2 [] 55) (zW 0 [1,2,3,4]))) [] (zW 0 [2]) (zW 0 [1000000]))
theorem zhA{m:Int}(x:Ex T):ze C (G m) 0 (zmI x):=(ye (y7 zF (y7 (xV zY) zF)) (yK) zF zF) x
def znV:Ex T→zp T:=(xN (zW 0 [1,2,3,4,37]) [] (zW 0 [2]) (zW 0 [1000000]))
theorem zgg{m:Int}(x:Ex T):ze C (G m) 0 (znV x):=(ye zF (yK) zF zF) x
def zm3:Ex T→zp T:=(xN (zW 0 [1,2,3,4,54]) [] (zW 0 [2]) (zW 0 [1000000]))
theorem zgd{m:Int}(x:Ex T):ze C (G m) 0 (zm3 x):=(ye zF (yK) zF zF) x
def zlz:Ex T→zp T:=(xN (zW 0 [1,2,3,4,63]) [] (zW 0 [2]) (zW 0 [1000000]))
theorem zgs{m:Int}(x:Ex T):ze C (G m) 0 (zlz x):=(ye zF (yK) zF zF) x
def zlX:Ex T→zp T:=(xN (zW 0 [2,4]) [] (zW 0 [2]) (zW 0 [1000000]))
theorem zhK{m:Int}(x:Ex T):ze C (G m) 0 (zlX x):=(ye zF (yK) zF zF) x
def znn:Ex T→zp T:=(xN (zW 0 [1,34]) [] (zW 0 [2]) (zW 0 [1000000]))
theorem zfc{m:Int}(x:Ex T):ze C (G m) 0 (znn x):=(ye zF (yK) zF zF) x
def zmu:Ex T→zp T:=(xN (zW 0 [1,5,6,60]) [] (zW 0 [2]) (zW 0 [1000000]))
theorem zfd{m:Int}(x:Ex T):ze C (G m) 0 (zmu x):=(ye zF (yK) zF zF) x
def zlp:Ex T→zp T:=(xN (zW 0 [1,4]) [] (zW 0 [2]) (zW 0 [1000000]))
theorem zhS{m:Int}(x:Ex T):ze C (G m) 0 (zlp x):=(ye zF (yK) zF zF) x
def znQ:Ex T→zp T:=(xN (zW 0 [1,4,5,6]) [] (zW 0 [2]) (zW 0 [1000000]))
theorem zhE{m:Int}(x:Ex T):ze C (G m) 0 (znQ x):=(ye zF (yK) zF zF) x
def zmR:Ex T→zp T:=(xN (zW 0 [1,4,5,6,7]) [] (zW 0 [2]) (zW 0 [1000000]))
theorem zgU{m:Int}(x:Ex T):ze C (G m) 0 (zmR x):=(ye zF (yK) zF zF) x
def zjv:Ex T→zp T:=(xN (zW 0 [1,4,5,6,7,34,64]) [(0,(zW 0 [4]))] (zW 0 [2]) (zW 0 [1000000]))
theorem za8{m:Int}(x:Ex T):ze C (G m) 0 (zjv x):=(ye zF (yC zF (yK)) zF zF) x
def nn6:zp T:=(zW 0 [1,4,5,6,7,34,64])
theorem zeo{m:Int}:ze C (G m) 0 nn6:=zF
def zmb:Ex T→zp T:=(xN (zW 0 [1,4,112]) [(0,(zW 0 [4]))] (zW 0 [2]) (zW 0 [1000000]))
theorem zgF{m:Int}(x:Ex T):ze C (G m) 0 (zmb x):=(ye zF (yC zF (yK)) zF zF) x
def znh:Ex T→zp T:=(xN (zW 0 [1,2,4,5,6,7,8,9,36,37]) [(0,(zW 0 [2,4]))] (zW 0 [4]) (zW 0 [1000000]))
theorem zf7{m:Int}(x:Ex T):ze C (G m) 0 (znh x):=(ye zF (yC zF (yK)) zF zF) x
def nn7:zp T:=(zW 0 [1,2,4,5,6,7,8,9,36,37])
theorem ze0{m:Int}:ze C (G m) 0 nn7:=zF
def zfv:Ex T→zp T:=(xN (zW 0 [1,2,4,5,6,7,8,9,36,50]) [(0,(zW 0 [2,4]))] (zW 0 [4]) (zW 0 [1000000]))
theorem zWU{m:Int}(x:Ex T):ze C (G m) 0 (zfv x):=(ye zF (yC zF (yK)) zF zF) x
def nn8:zp T:=(zW 0 [1,2,4,5,6,7,8,9,36,50])
theorem zW2{m:Int}:ze C (G m) 0 nn8:=zF
def zmp:Ex T→zp T:=(xN (zW 0 [1,2,4,99]) [(0,(zW 0 [2,4]))] (zW 0 [4]) (zW 0 [1000000]))
theorem zgT{m:Int}(x:Ex T):ze C (G m) 0 (zmp x):=(ye zF (yC zF (yK)) zF zF) x
def zZ3:Ex T→zp T:=(xN (zW 0 [2,4]) [(0,(zW 0 [2,4]))] (zW 0 [4]) (zW 0 [1000000]))
theorem zFp{m:Int}(x:Ex T):ze C (G m) 0 (zZ3 x):=(ye zF (yC zF (yK)) zF zF) x
def nn9:zp T:=(zW 0 [1,2,4,5,7,8,36,81])
theorem zkR{m:Int}:ze C (G m) 0 nn9:=zF
def zkn:zp T:=(zW 0 [1,2,4,5,6,7,8,36,76])
theorem zhi{m:Int}:ze C (G m) 0 zkn:=zF
def zkC:zp T:=(zW 0 [1,2,4,5,6,7,8,36,72])
theorem zgo{m:Int}:ze C (G m) 0 zkC:=zF
def zkv:zp T:=(zW 0 [1,2,4,5,6,7,8,36,57])
theorem zhc{m:Int}:ze C (G m) 0 zkv:=zF
def zl3:Ex T→zp T:=(xN (zW 0 [2,4]) [] (zW 0 [4]) (zW 0 [1000000]))
theorem zhh{m:Int}(x:Ex T):ze C (G m) 0 (zl3 x):=(ye zF (yK) zF zF) x
def zkX:zp T:=(zW 0 [1,2,4,5,6,7,8,9,36])
theorem zgu{m:Int}:ze C (G m) 0 zkX:=zF
def zl5:Ex T→zp T:=(xN (jO (zW 0 [2,4]) (jO (zYI 0 2 [] 55) (zW 0 [2,4]))) [(0,(zW 0 [2,4]))] (zW 0 [4]) (zW 0 [1000000]))
theorem zg0{m:Int}(x:Ex T):ze C (G m) 0 (zl5 x):=(ye (y7 zF (y7 zTD zF)) (yC zF (yK)) zF zF) x
def zl6:Ex T→zp T:=(xN (zW 0 [0,2,4,5,6,7]) [(1,(zW 0 [0,2,4])),(0,(zW 0 [2]))] (zW 0 [2,3]) (zW 0 [1000000]))
theorem zhf{m:Int}(x:Ex T):ze C (G m) 0 (zl6 x):=(ye zF (yC zF (yC zF (yK))) zF zF) x
def zlo:Ex T→zp T:=(xN (zW 0 [0,2,4,7,57]) [(1,(zW 0 [0,2,4])),(0,(zW 0 [2]))] (zW 0 [2,3]) (zW 0 [1000000]))
theorem zhl{m:Int}(x:Ex T):ze C (G m) 0 (zlo x):=(ye zF (yC zF (yC zF (yK))) zF zF) x
def zmc:Ex T→zp T:=(xN (zW 0 [0,4,5,33]) [] (zW 0 [2]) (zW 0 [1000000]))
theorem zf4{m:Int}(x:Ex T):ze C (G m) 0 (zmc x):=(ye zF (yK) zF zF) x
def xF:=yi (T:=T) [⟨[(0,.s)],[],[]⟩] [⟨.normal,⟨[(2,.b)],[],[]⟩⟩]
theorem zGl:zN xF:=zQ _ _
theorem zGR(κ:Nat)(m:Int):zP Tryz.prog C (G m) Tryz.f48.ntmps 0 (zG (.reg 1) (zC Tryz.f48)) (xF.cut (zW 0 [0]) (fun a0=>yQ.v0 κ a0)):=
 Piece.join zGl zY mixed (zWV κ m) zF zKv (cut:=zS) (X:=xx0) (zI (l:=[]) (by kernel_rfl) (all_nil)) (fun s=>by kernel_rfl)
def gL(κ:Nat):Cut T:=xF.cut (zW 0 [0]) (fun a0=>yQ.v0 κ a0)
theorem zFC(κ:Nat)(m:Int):zP Tryz.prog C (G m) Tryz.f48.ntmps 0 (zG (.reg 1) (zC Tryz.f48)) (gL κ):=zGR κ m
def zNx(κ:Nat):Key→Option (Cut T):=zh zS (.reg 1) (gL κ)
def bU:=vB (T:=T) [.s] [] [⟨false,.b,[]⟩]
theorem zJa:zo bU:=zw _ _ _
theorem zRT(κ:Nat)(m:Int):wM Tryz.prog C (G m) 48 (bU.entry (fun a0=>yQ κ a0)):=
 Spec.ok zJa zY mixed (zWV κ m) (cut:=(zNx κ)) (NR:=(zW 0 [0])) (NP:=(zW 0 [0])) (nB:=0) Tryz.func48 (c:=(zC Tryz.f48)) (by kernel_rfl) (by kernel_rfl) (fun i=>by kernel_rfl) zF zF (zI (l:=[(zG (.reg 1) (zC Tryz.f48),gL κ)]) (by kernel_rfl) (all_cons (zFC κ m) (all_nil))) (fun i=>by kernel_rfl)
noncomputable def zmU(κ:Nat):qK T:=(znH κ).zj 48 bU (fun a0=>yQ κ a0)
theorem zXB(κ:Nat)(m:Int):ql Tryz.prog C (G m) (zmU κ):=(zWV κ m).zj (zRT κ m)
def wN:=yi (T:=T) [⟨[(0,.ptr 0 0),(6,.b)],[.cells 94 none [.pn,.qG]],[]⟩] [⟨.normal,⟨[],[.cells 94 none [.ptr 0 0,.qG]],[]⟩⟩]
theorem gG:zN wN:=zQ _ _
theorem gM(κ:Nat)(m:Int):zP Tryz.prog C (G m) Tryz.f62.ntmps 1 (zG (.cnd 6 2) (zC Tryz.f62)) (wN.cut (zW 1 [0,6]) (fun a0=>qY.v0 κ a0)):=
 Piece.join gG zY mixed (zXB κ m) zF zfH (cut:=zS) (X:=xx1) (zI (l:=[]) (by kernel_rfl) (all_nil)) (fun s=>by kernel_rfl)
def wD(κ:Nat):Cut T:=wN.cut (zW 1 [0,6]) (fun a0=>qY.v0 κ a0)
theorem ka(κ:Nat)(m:Int):zP Tryz.prog C (G m) Tryz.f62.ntmps 1 (zG (.cnd 6 2) (zC Tryz.f62)) (wD κ):=gM κ m
def gi(κ:Nat):Key→Option (Cut T):=zh zS (.cnd 6 2) (wD κ)
def wW:=vB (T:=T) [.ptr 0 0] [.cells 94 none [.pn,.qG]] [⟨false,.qu [],[.cells 94 none [.ptr 0 0,.qG]]⟩]
theorem gS:zo wW:=zw _ _ _
theorem pD(κ:Nat)(m:Int):wM Tryz.prog C (G m) 62 (wW.entry (fun _ =>qY κ)):=
 Spec.ok gS zY mixed (zXB κ m) (cut:=(gi κ)) (NR:=(zW 1 [0])) (NP:=(zW 1 [0])) (nB:=1) Tryz.func62 (c:=(zC Tryz.f62)) (by kernel_rfl) (by kernel_rfl) (fun i=>by kernel_rfl) zF zF (zI (l:=[(zG (.cnd 6 2) (zC Tryz.f62),wD κ)]) (by kernel_rfl) (all_cons (ka κ m) (all_nil))) (fun i=>by kernel_rfl)
noncomputable def zlw(κ:Nat):qK T:=(zmU κ).zj 62 wW (fun _ =>qY κ)
theorem zWi(κ:Nat)(m:Int):ql Tryz.prog C (G m) (zlw κ):=(zXB κ m).zj (pD κ m)
def q6:=yi (T:=T) [⟨[(0,.ptr 0 0),(6,.b)],kk6,[]⟩] [⟨.normal,⟨[],kk6,[]⟩⟩]
theorem kI:zN q6:=zQ _ _
theorem kK(κ:Nat)(m:Int):zP Tryz.prog C (G m) Tryz.f62.ntmps 2 (zG (.cnd 6 2) (zC Tryz.f62)) (q6.cut (zW 2 [0,6]) (cur _ (qP.v0 κ))):=
 Piece.join kI zY mixed (zWi κ m) zF zc7 (cut:=zS) (X:=xx2) (zI (l:=[]) (by kernel_rfl) (all_nil)) (fun s=>by kernel_rfl)
def qx(κ:Nat):Cut T:=q6.cut (zW 2 [0,6]) (cur _ (qP.v0 κ))
theorem jx(κ:Nat)(m:Int):zP Tryz.prog C (G m) Tryz.f62.ntmps 2 (zG (.cnd 6 2) (zC Tryz.f62)) (qx κ):=kK κ m
def gJ(κ:Nat):Key→Option (Cut T):=zh zS (.cnd 6 2) (qx κ)
def wF:=vB (T:=T) [.ptr 0 0] kk6 [⟨false,.qu [],kk6⟩]
theorem kb:zo wF:=zw _ _ _
theorem uG(κ:Nat)(m:Int):wM Tryz.prog C (G m) 62 (wF.entry (fun a0=>qP κ a0)):=
 Spec.ok kb zY mixed (zWi κ m) (cut:=(gJ κ)) (NR:=(zW 2 [0])) (NP:=(zW 2 [0])) (nB:=2) Tryz.func62 (c:=(zC Tryz.f62)) (by kernel_rfl) (by kernel_rfl) (fun i=>by kernel_rfl) zF zF (zI (l:=[(zG (.cnd 6 2) (zC Tryz.f62),qx κ)]) (by kernel_rfl) (all_cons (jx κ m) (all_nil))) (fun i=>by kernel_rfl)
noncomputable def znJ(κ:Nat):qK T:=(zlw κ).zj 62 wF (fun a0=>qP κ a0)
theorem zag(κ:Nat)(m:Int):ql Tryz.prog C (G m) (znJ κ):=(zWi κ m).zj (uG κ m)
def qt:=vB (T:=T) [.ptr 0 0,.s] kk6 [⟨false,.qu [.i .i64,.if0],kk6⟩]
theorem kD:zo qt:=zw _ _ _
theorem gD(κ:Nat)(m:Int):wM Tryz.prog C (G m) 51 (qt.entry (cur _ (yd κ))):=
 Spec.ok kD zY mixed (zag κ m) (cut:=zS) (NR:=(zW 2 [0])) (NP:=(zW 2 [0])) (nB:=2) Tryz.func51 (c:=(zC Tryz.f51)) (by kernel_rfl) (by kernel_rfl) (fun i=>by kernel_rfl) zF zF (zI (l:=[]) (by kernel_rfl) (all_nil)) (fun i=>by kernel_rfl)
noncomputable def zmX(κ:Nat):qK T:=(znJ κ).zj 51 qt (cur _ (yd κ))
theorem zWn(κ:Nat)(m:Int):ql Tryz.prog C (G m) (zmX κ):=(zag κ m).zj (gD κ m)
def q7:=yi (T:=T) [⟨[(0,.ptr 0 0),(6,.b)],kk5,[]⟩] [⟨.normal,⟨[],kk6,[]⟩⟩]
theorem kR:zN q7:=zQ _ _
theorem kJ(κ:Nat)(m:Int):zP Tryz.prog C (G m) Tryz.f62.ntmps 2 (zG (.cnd 6 2) (zC Tryz.f62)) (q7.cut (zW 2 [0,6]) (cur _ (qQ.v0 κ))):=
 Piece.join kR zY mixed (zWn κ m) zF zc7 (cut:=zS) (X:=xx2) (zI (l:=[]) (by kernel_rfl) (all_nil)) (fun s=>by kernel_rfl)
def qw(κ:Nat):Cut T:=q7.cut (zW 2 [0,6]) (cur _ (qQ.v0 κ))
theorem kB(κ:Nat)(m:Int):zP Tryz.prog C (G m) Tryz.f62.ntmps 2 (zG (.cnd 6 2) (zC Tryz.f62)) (qw κ):=kJ κ m
def k9(κ:Nat):Key→Option (Cut T):=zh zS (.cnd 6 2) (qw κ)
def wK:=vB (T:=T) [.ptr 0 0] kk5 [⟨false,.qu [],kk6⟩]
theorem kZ:zo wK:=zw _ _ _
theorem xH(κ:Nat)(m:Int):wM Tryz.prog C (G m) 62 (wK.entry (fun a0=>qQ κ a0)):=
 Spec.ok kZ zY mixed (zWn κ m) (cut:=(k9 κ)) (NR:=(zW 2 [0])) (NP:=(zW 2 [0])) (nB:=2) Tryz.func62 (c:=(zC Tryz.f62)) (by kernel_rfl) (by kernel_rfl) (fun i=>by kernel_rfl) zF zF (zI (l:=[(zG (.cnd 6 2) (zC Tryz.f62),qw κ)]) (by kernel_rfl) (all_cons (kB κ m) (all_nil))) (fun i=>by kernel_rfl)
noncomputable def zmx(κ:Nat):qK T:=(zmX κ).zj 62 wK (fun a0=>qQ κ a0)
theorem zbW(κ:Nat)(m:Int):ql Tryz.prog C (G m) (zmx κ):=(zWn κ m).zj (xH κ m)
def qv:=vB (T:=T) [.ptr 0 0,.s] kk5 [⟨false,.qu [.i .i64,.if0],kk6⟩]
theorem jw:zo qv:=zw _ _ _
theorem gK(κ:Nat)(m:Int):wM Tryz.prog C (G m) 51 (qv.entry (cur _ (qD κ))):=
 Spec.ok jw zY mixed (zbW κ m) (cut:=zS) (NR:=(zW 2 [0])) (NP:=(zW 2 [0])) (nB:=2) Tryz.func51 (c:=(zC Tryz.f51)) (by kernel_rfl) (by kernel_rfl) (fun i=>by kernel_rfl) zF zF (zI (l:=[]) (by kernel_rfl) (all_nil)) (fun i=>by kernel_rfl)
noncomputable def zmj(κ:Nat):qK T:=(zmx κ).zj 51 qv (cur _ (qD κ))
theorem pb(κ:Nat)(m:Int):ql Tryz.prog C (G m) (zmj κ):=(zbW κ m).zj (gK κ m)
def vC:=vB (T:=T) [.ptr 0 0] kk5 [⟨false,.s,[.cells 94 none [.pn,.any],.dead]⟩]
theorem da:zo vC:=zw _ _ _
theorem zBK(κ:Nat)(m:Int):wM Tryz.prog C (G m) 52 (vC.entry (fun a0=>y2 κ a0)):=
 Spec.ok da zY mixed (pb κ m) (cut:=zS) (NR:=(zW 2 [0])) (NP:=(zW 2 [0])) (nB:=2) Tryz.func52 (c:=(zC Tryz.f52)) (by kernel_rfl) (by kernel_rfl) (fun i=>by kernel_rfl) zF zF (zI (l:=[]) (by kernel_rfl) (all_nil)) (fun i=>by kernel_rfl)
noncomputable def zlW(κ:Nat):qK T:=(zmj κ).zj 52 vC (fun a0=>y2 κ a0)
theorem za7(κ:Nat)(m:Int):ql Tryz.prog C (G m) (zlW κ):=(pb κ m).zj (zBK κ m)
def wh:=vB (T:=T) [.ptr 0 0] kk6 [⟨false,.s,[.cells 94 none [.ptr 0 0,.any],.dead]⟩]
theorem xB:zo wh:=zw _ _ _
theorem pj(κ:Nat)(m:Int):wM Tryz.prog C (G m) 52 (wh.entry (fun a0=>qM κ a0)):=
 Spec.ok xB zY mixed (za7 κ m) (cut:=zS) (NR:=(zW 2 [0])) (NP:=(zW 2 [0])) (nB:=2) Tryz.func52 (c:=(zC Tryz.f52)) (by kernel_rfl) (by kernel_rfl) (fun i=>by kernel_rfl) zF zF (zI (l:=[]) (by kernel_rfl) (all_nil)) (fun i=>by kernel_rfl)
noncomputable def znX(κ:Nat):qK T:=(zlW κ).zj 52 wh (fun a0=>qM κ a0)
theorem za2(κ:Nat)(m:Int):ql Tryz.prog C (G m) (znX κ):=(za7 κ m).zj (pj κ m)
def zAI:=yi (T:=T) [⟨[(3,.ptr 0 0),(5,.ptr 1 0),(12,.sl 55),(13,.i .i64),(14,.i .i64)],[.cells 94 none [.pn,.own 2],.cells 55 none [.s,.s],.row 5 true],[]⟩] [⟨.normal,⟨[(3,.ptr 0 0),(5,.ptr 1 0),(12,.sl 55),(13,.i .i64),(14,.i .i64),(32,.b)],[.cells 94 none [.pn,.own 2],.cells 55 none [.s,.s],.row 5 true],[]⟩⟩]
theorem zMC:zN zAI:=zQ _ _
theorem zNv(κ:Nat)(m:Int):zP Tryz.prog C (G m) Tryz.f46.ntmps 0 (zG (.reg 9) (zC Tryz.f46)) (zAI.cut (zW 0 [3,5,12,13,14]) (cur _ (zl.v25 κ))):=
 Piece.join zMC zY mixed (pb κ m) zF zeP (cut:=zS) (X:=xx3) (zI (l:=[]) (by kernel_rfl) (all_nil)) (fun s=>by kernel_rfl)
def bp(κ:Nat):Cut T:=zAI.cut (zW 0 [3,5,12,13,14]) (cur _ (zl.v25 κ))
theorem zJz(κ:Nat)(m:Int):zP Tryz.prog C (G m) Tryz.f46.ntmps 0 (zG (.reg 9) (zC Tryz.f46)) (bp κ):=zNv κ m
def zEK(κ:Nat):Key→Option (Cut T):=zh zS (.reg 9) (bp κ)
def zAa:=yi (T:=T) [⟨[(3,.ptr 0 0),(5,.ptr 1 0),(12,.sl 55),(13,.i .i64),(14,.i .i64),(39,.b)],zgv,[]⟩] [⟨.normal,⟨[(3,.ptr 0 0),(12,.sl 55),(13,.i .i64),(14,.i .i64)],kk6,[]⟩⟩]
theorem zMW:zN zAa:=zQ _ _
theorem zNW(κ:Nat)(m:Int):zP Tryz.prog C (G m) Tryz.f46.ntmps 0 (zG (.cnd 39 14) (zC Tryz.f46)) (zAa.cut (zW 0 [3,5,12,13,14,39]) (cur _ (zl.v27 κ))):=
 Piece.join zMW zY mixed (pb κ m) zF zd4 (cut:=(zEK κ)) (X:=xx4) (zI (l:=[]) (by kernel_rfl) (all_nil)) (fun s=>by kernel_rfl)
def bE(κ:Nat):Cut T:=zAa.cut (zW 0 [3,5,12,13,14,39]) (cur _ (zl.v27 κ))
theorem zI0(κ:Nat)(m:Int):zP Tryz.prog C (G m) Tryz.f46.ntmps 0 (zG (.cnd 39 14) (zC Tryz.f46)) (bE κ):=zNW κ m
def zRe(κ:Nat):Key→Option (Cut T):=zh (zEK κ) (.cnd 39 14) (bE κ)
def zAo:=yi (T:=T) [⟨[(3,.ptr 0 0),(12,.sl 55),(13,.i .i64),(14,.i .i64)],kk5,[]⟩] [⟨.normal,⟨[(3,.ptr 0 0),(12,.sl 55),(13,.i .i64),(14,.i .i64)],kk6,[]⟩⟩,⟨.ret,⟨[(2,.s)],[],[]⟩⟩]
theorem zN3:zN zAo:=zQ _ _
theorem zNg(κ:Nat)(m:Int):zP Tryz.prog C (G m) Tryz.f46.ntmps 0 (zG (.blk 1) (zC Tryz.f46)) (zAo.cut (zW 0 [3,12,13,14]) (cur _ (zl.v24 κ))):=
 Piece.join zN3 zY mixed (pb κ m) zF zem (cut:=(zRe κ)) (X:=xx5) (zI (l:=[(zG (.reg 9) (zC Tryz.f46),bp κ),(zG (.cnd 39 14) (zC Tryz.f46),bE κ)]) (by kernel_rfl) (all_cons (zJz κ m) (all_cons (zI0 κ m) (all_nil)))) (fun s=>by kernel_rfl)
def zAb:=yi (T:=T) [⟨[(3,.ptr 0 0),(5,.ptr 1 0),(12,.sl 55),(13,.i .i64),(14,.i .i64)],zgv,[]⟩] [⟨.normal,⟨[(3,.ptr 0 0),(5,.ptr 1 0),(12,.sl 55),(13,.i .i64),(14,.i .i64),(32,.b)],zgv,[]⟩⟩]
theorem zNN:zN zAb:=zQ _ _
theorem zOC(κ:Nat)(m:Int):zP Tryz.prog C (G m) Tryz.f46.ntmps 0 (zG (.reg 9) (zC Tryz.f46)) (zAb.cut (zW 0 [3,5,12,13,14]) (cur _ (zl.v30 κ))):=
 Piece.join zNN zY mixed (pb κ m) zF zeP (cut:=zS) (X:=xx3) (zI (l:=[]) (by kernel_rfl) (all_nil)) (fun s=>by kernel_rfl)
def bo(κ:Nat):Cut T:=zAb.cut (zW 0 [3,5,12,13,14]) (cur _ (zl.v30 κ))
theorem zLS(κ:Nat)(m:Int):zP Tryz.prog C (G m) Tryz.f46.ntmps 0 (zG (.reg 9) (zC Tryz.f46)) (bo κ):=zOC κ m
def zEI(κ:Nat):Key→Option (Cut T):=zh zS (.reg 9) (bo κ)
def zAK:=yi (T:=T) [⟨[(3,.ptr 0 0),(5,.ptr 1 0),(12,.sl 55),(13,.i .i64),(14,.i .i64),(39,.b)],zgv,[]⟩] [⟨.normal,⟨[(3,.ptr 0 0),(12,.sl 55),(13,.i .i64),(14,.i .i64)],kk6,[]⟩⟩]
theorem zNi:zN zAK:=zQ _ _
theorem zMJ(κ:Nat)(m:Int):zP Tryz.prog C (G m) Tryz.f46.ntmps 0 (zG (.cnd 39 14) (zC Tryz.f46)) (zAK.cut (zW 0 [3,5,12,13,14,39]) (cur _ (zl.v32 κ))):=
 Piece.join zNi zY mixed (pb κ m) zF zd4 (cut:=(zEI κ)) (X:=xx4) (zI (l:=[]) (by kernel_rfl) (all_nil)) (fun s=>by kernel_rfl)
def de(κ:Nat):Cut T:=zAK.cut (zW 0 [3,5,12,13,14,39]) (cur _ (zl.v32 κ))
theorem zKQ(κ:Nat)(m:Int):zP Tryz.prog C (G m) Tryz.f46.ntmps 0 (zG (.cnd 39 14) (zC Tryz.f46)) (de κ):=zMJ κ m
def zQ8(κ:Nat):Key→Option (Cut T):=zh (zEI κ) (.cnd 39 14) (de κ)
def zAN:=yi (T:=T) [⟨[(3,.ptr 0 0),(12,.sl 55),(13,.i .i64),(14,.i .i64)],kk6,[]⟩] [⟨.normal,⟨[(3,.ptr 0 0),(12,.sl 55),(13,.i .i64),(14,.i .i64)],kk6,[]⟩⟩,⟨.ret,⟨[(2,.s)],[],[]⟩⟩]
theorem zNk:zN zAN:=zQ _ _
theorem zOB(κ:Nat)(m:Int):zP Tryz.prog C (G m) Tryz.f46.ntmps 0 (zG (.blk 1) (zC Tryz.f46)) (zAN.cut (zW 0 [3,12,13,14]) (cur _ (zl.v29 κ))):=
 Piece.join zNk zY mixed (pb κ m) zF zem (cut:=(zQ8 κ)) (X:=xx5) (zI (l:=[(zG (.reg 9) (zC Tryz.f46),bo κ),(zG (.cnd 39 14) (zC Tryz.f46),de κ)]) (by kernel_rfl) (all_cons (zLS κ m) (all_cons (zKQ κ m) (all_nil)))) (fun s=>by kernel_rfl)
def uw(κ:Nat):Cut T:=zAo.yG (zW 0 [3,12,13,14]) (cur _ (zl.v24 κ)) (zAN.cut (zW 0 [3,12,13,14]) (cur _ (zl.v29 κ)))
theorem zK8(κ:Nat)(m:Int):zP Tryz.prog C (G m) Tryz.f46.ntmps 0 (zG (.blk 1) (zC Tryz.f46)) (uw κ):=Piece.yI (zNg κ m) (zOB κ m)
def zRx(κ:Nat):Key→Option (Cut T):=zh zS (.blk 1) (uw κ)
def zAx:=yi (T:=T) [⟨[(3,.ptr 0 0),(12,.sl 55),(13,.i .i64),(14,.i .i64)],kk5,[]⟩,⟨[(3,.ptr 0 0),(12,.sl 55),(13,.i .i64),(14,.i .i64)],kk6,[]⟩] [⟨.normal,⟨[(3,.ptr 0 0)],kk5,[]⟩⟩,⟨.ret,⟨[(2,.s)],[],[]⟩⟩,⟨.normal,⟨[(3,.ptr 0 0)],kk6,[]⟩⟩]
theorem zNK:zN zAx:=zQ _ _
theorem zLl(κ:Nat)(m:Int):zP Tryz.prog C (G m) Tryz.f46.ntmps 0 (zG (.blk 0) (zC Tryz.f46)) (zAx.cut nn0 (zl.l23 κ κ)):=
 Piece.loop zNK zY mixed (pb κ m) zk3 zTF (cut:=(zRx κ)) (X:=xx6) (id:=0) (body:=zf (zG (.blk 0) (zC Tryz.f46))) (zI (l:=[(zG (.blk 1) (zC Tryz.f46),uw κ)]) (by kernel_rfl) (all_cons (zK8 κ m) (all_nil))) (f:=zl.l23 κ) (fun s=>by rcases s with s|s<;>kernel_rfl) (fun k s=>by rcases s with s|s<;>kernel_rfl) κ
def pL(κ:Nat):Cut T:=zAx.cut nn0 (zl.l23 κ κ)
theorem zJQ(κ:Nat)(m:Int):zP Tryz.prog C (G m) Tryz.f46.ntmps 0 (zG (.blk 0) (zC Tryz.f46)) (pL κ):=zLl κ m
def zRf(κ:Nat):Key→Option (Cut T):=zh zS (.blk 0) (pL κ)
def zDu:=vB (T:=T) [.sl 55] [] [⟨false,.s,[]⟩]
theorem zRC:zo zDu:=zw _ _ _
theorem zWr(κ:Nat)(m:Int):wM Tryz.prog C (G m) 46 (zDu.entry (fun a0=>zl κ a0)):=
 Spec.ok zRC zY mixed (za2 κ m) (cut:=(zRf κ)) (NR:=(zW 0 [0])) (NP:=(zW 0 [0])) (nB:=0) Tryz.func46 (c:=(zC Tryz.f46)) (by kernel_rfl) (by kernel_rfl) (fun i=>by kernel_rfl) zF zF (zI (l:=[(zG (.blk 0) (zC Tryz.f46),pL κ)]) (by kernel_rfl) (all_cons (zJQ κ m) (all_nil))) (fun i=>by kernel_rfl)
noncomputable def zjK(κ:Nat):qK T:=(znX κ).zj 46 zDu (fun a0=>zl κ a0)
theorem zTh(κ:Nat)(m:Int):ql Tryz.prog C (G m) (zjK κ):=(za2 κ m).zj (zWr κ m)
def qi:=yi (T:=T) [⟨[(0,.s),(1,.s)],[],[]⟩] [⟨.normal,⟨[(4,.b)],[],[]⟩⟩]
theorem jW:zN qi:=zQ _ _
theorem ja(κ:Nat)(m:Int):zP Tryz.prog C (G m) Tryz.f105.ntmps 0 (zG (.reg 1) (zC Tryz.f105)) (qi.cut (zW 0 [0,1]) (cur _ (zu.v0 κ))):=
 Piece.join jW zY mixed (zTh κ m) zF zZc (cut:=zS) (X:=xx7) (zI (l:=[]) (by kernel_rfl) (all_nil)) (fun s=>by kernel_rfl)
def qc(κ:Nat):Cut T:=qi.cut (zW 0 [0,1]) (cur _ (zu.v0 κ))
theorem jH(κ:Nat)(m:Int):zP Tryz.prog C (G m) Tryz.f105.ntmps 0 (zG (.reg 1) (zC Tryz.f105)) (qc κ):=ja κ m
def j9(κ:Nat):Key→Option (Cut T):=zh zS (.reg 1) (qc κ)
def qn:=vB (T:=T) [.s,.s] [] [⟨false,.b,[]⟩]
theorem jd:zo qn:=zw _ _ _
theorem ke(κ:Nat)(m:Int):wM Tryz.prog C (G m) 105 (qn.entry (cur _ (zu κ))):=
 Spec.ok jd zY mixed (zTh κ m) (cut:=(j9 κ)) (NR:=(zW 0 [0])) (NP:=(zW 0 [0])) (nB:=0) Tryz.func105 (c:=(zC Tryz.f105)) (by kernel_rfl) (by kernel_rfl) (fun i=>by kernel_rfl) zF zF (zI (l:=[(zG (.reg 1) (zC Tryz.f105),qc κ)]) (by kernel_rfl) (all_cons (jH κ m) (all_nil))) (fun i=>by kernel_rfl)
noncomputable def zij(κ:Nat):qK T:=(zjK κ).zj 105 qn (cur _ (zu κ))
theorem zXp(κ:Nat)(m:Int):ql Tryz.prog C (G m) (zij κ):=(zTh κ m).zj (ke κ m)
def jM:=vB (T:=T) [.s,.s] [] [⟨false,.b,[]⟩]
theorem zC3:zo jM:=zw _ _ _
theorem zFI(κ:Nat)(m:Int):wM Tryz.prog C (G m) 85 (jM.entry (cur _ (strings_HasPrefix κ))):=
 Spec.ok zC3 zY mixed (zXp κ m) (cut:=zS) (NR:=(zW 0 [0])) (NP:=(zW 0 [0])) (nB:=0) Tryz.func85 (c:=(zC Tryz.f85)) (by kernel_rfl) (by kernel_rfl) (fun i=>by kernel_rfl) zF zF (zI (l:=[]) (by kernel_rfl) (all_nil)) (fun i=>by kernel_rfl)
noncomputable def zjZ(κ:Nat):qK T:=(zij κ).zj 85 jM (cur _ (strings_HasPrefix κ))
theorem zMX(κ:Nat)(m:Int):ql Tryz.prog C (G m) (zjZ κ):=(zXp κ m).zj (zFI κ m)
def jA:=yi (T:=T) [⟨[(0,.ptr 0 0),(1,.i .i64),(8,.b)],kk7,[]⟩] [⟨.normal,⟨[],kk7,[]⟩⟩]
theorem zC6:zN jA:=zQ _ _
theorem zC4(κ:Nat)(m:Int):zP Tryz.prog C (G m) Tryz.f86.ntmps 1 (zG (.cnd 8 2) (zC Tryz.f86)) (jA.cut (zW 1 [0,1,8]) (cur _ (yz.v0 κ))):=
 Piece.join zC6 zY mixed (zMX κ m) zF zfH (cut:=zS) (X:=xx1) (zI (l:=[]) (by kernel_rfl) (all_nil)) (fun s=>by kernel_rfl)
def vo(κ:Nat):Cut T:=jA.cut (zW 1 [0,1,8]) (cur _ (yz.v0 κ))
theorem zBf(κ:Nat)(m:Int):zP Tryz.prog C (G m) Tryz.f86.ntmps 1 (zG (.cnd 8 2) (zC Tryz.f86)) (vo κ):=zC4 κ m
def zEQ(κ:Nat):Key→Option (Cut T):=zh zS (.cnd 8 2) (vo κ)
def jh:=vB (T:=T) [.ptr 0 0,.i .i64] kk7 [⟨false,.qu [],kk7⟩]
theorem zEE:zo jh:=zw _ _ _
theorem zH1(κ:Nat)(m:Int):wM Tryz.prog C (G m) 86 (jh.entry (cur _ (yz κ))):=
 Spec.ok zEE zY mixed (zMX κ m) (cut:=(zEQ κ)) (NR:=(zW 1 [0])) (NP:=(zW 1 [0])) (nB:=1) Tryz.func86 (c:=(zC Tryz.f86)) (by kernel_rfl) (by kernel_rfl) (fun i=>by kernel_rfl) zF zF (zI (l:=[(zG (.cnd 8 2) (zC Tryz.f86),vo κ)]) (by kernel_rfl) (all_cons (zBf κ m) (all_nil))) (fun i=>by kernel_rfl)
noncomputable def zih(κ:Nat):qK T:=(zjZ κ).zj 86 jh (cur _ (yz κ))
theorem zUC(κ:Nat)(m:Int):ql Tryz.prog C (G m) (zih κ):=(zMX κ m).zj (zH1 κ m)
def qo:=vB (T:=T) [.s,.s] [] [⟨false,.qu [.s,.b],[]⟩]
theorem jl:zo qo:=zw _ _ _
theorem kc(κ:Nat)(m:Int):wM Tryz.prog C (G m) 119 (qo.entry (cur _ (y9 κ))):=
 Spec.ok jl zY mixed (zUC κ m) (cut:=zS) (NR:=(zW 0 [0])) (NP:=(zW 0 [0])) (nB:=0) Tryz.func119 (c:=(zC Tryz.f119)) (by kernel_rfl) (by kernel_rfl) (fun i=>by kernel_rfl) zF zF (zI (l:=[]) (by kernel_rfl) (all_nil)) (fun i=>by kernel_rfl)
noncomputable def zht(κ:Nat):qK T:=(zih κ).zj 119 qo (cur _ (y9 κ))
theorem zXg(κ:Nat)(m:Int):ql Tryz.prog C (G m) (zht κ):=(zUC κ m).zj (kc κ m)
def jD:=vB (T:=T) [.s,.s] [] [⟨false,.qu [.s,.b],[]⟩]
theorem zCs:zo jD:=zw _ _ _
theorem zFO(κ:Nat)(m:Int):wM Tryz.prog C (G m) 106 (jD.entry (cur _ (strings_CutPrefix κ))):=
 Spec.ok zCs zY mixed (zXg κ m) (cut:=zS) (NR:=(zW 0 [0])) (NP:=(zW 0 [0])) (nB:=0) Tryz.func106 (c:=(zC Tryz.f106)) (by kernel_rfl) (by kernel_rfl) (fun i=>by kernel_rfl) zF zF (zI (l:=[]) (by kernel_rfl) (all_nil)) (fun i=>by kernel_rfl)
noncomputable def zit(κ:Nat):qK T:=(zht κ).zj 106 jD (cur _ (strings_CutPrefix κ))
theorem zXR(κ:Nat)(m:Int):ql Tryz.prog C (G m) (zit κ):=(zXg κ m).zj (zFO κ m)
def jj:=vB (T:=T) [.ptr 0 0,.s] kk7 [⟨false,.qu [],kk7⟩]
theorem zDe:zo jj:=zw _ _ _
theorem zGV(κ:Nat)(m:Int):wM Tryz.prog C (G m) 87 (jj.entry (cur _ (qW κ))):=
 Spec.ok zDe zY mixed (zXR κ m) (cut:=zS) (NR:=(zW 1 [0])) (NP:=(zW 1 [0])) (nB:=1) Tryz.func87 (c:=(zC Tryz.f87)) (by kernel_rfl) (by kernel_rfl) (fun i=>by kernel_rfl) zF zF (zI (l:=[]) (by kernel_rfl) (all_nil)) (fun i=>by kernel_rfl)
noncomputable def zik(κ:Nat):qK T:=(zit κ).zj 87 jj (cur _ (qW κ))
theorem zTP(κ:Nat)(m:Int):ql Tryz.prog C (G m) (zik κ):=(zXR κ m).zj (zGV κ m)
def jJ:=yi (T:=T) [⟨[(0,.ptr 0 0),(3,.s),(4,.s),(25,.b)],kk7,[]⟩] [⟨.normal,⟨[(0,.ptr 0 0),(3,.s),(4,.s)],kk7,[]⟩⟩]
theorem zC8:zN jJ:=zQ _ _
theorem zCt(κ:Nat)(m:Int):zP Tryz.prog C (G m) Tryz.f88.ntmps 1 (zG (.cnd 25 5) (zC Tryz.f88)) (jJ.cut (zW 1 [0,3,4,25]) (cur _ (yq.v0 κ))):=
 Piece.join zC8 zY mixed (zTP κ m) zF zkH (cut:=zS) (X:=xx8) (zI (l:=[]) (by kernel_rfl) (all_nil)) (fun s=>by kernel_rfl)
def vm(κ:Nat):Cut T:=jJ.cut (zW 1 [0,3,4,25]) (cur _ (yq.v0 κ))
theorem zCA(κ:Nat)(m:Int):zP Tryz.prog C (G m) Tryz.f88.ntmps 1 (zG (.cnd 25 5) (zC Tryz.f88)) (vm κ):=zCt κ m
def zEa(κ:Nat):Key→Option (Cut T):=zh zS (.cnd 25 5) (vm κ)
def jn:=vB (T:=T) [.ptr 0 0] kk7 [⟨false,.s,kk7⟩]
theorem zD9:zo jn:=zw _ _ _
theorem zF5(κ:Nat)(m:Int):wM Tryz.prog C (G m) 88 (jn.entry (cur _ (yq κ))):=
 Spec.ok zD9 zY mixed (zTP κ m) (cut:=(zEa κ)) (NR:=(zW 1 [0])) (NP:=(zW 1 [0])) (nB:=1) Tryz.func88 (c:=(zC Tryz.f88)) (by kernel_rfl) (by kernel_rfl) (fun i=>by kernel_rfl) zF zF (zI (l:=[(zG (.cnd 25 5) (zC Tryz.f88),vm κ)]) (by kernel_rfl) (all_cons (zCA κ m) (all_nil))) (fun i=>by kernel_rfl)
noncomputable def zi1(κ:Nat):qK T:=(zik κ).zj 88 jn (cur _ (yq κ))
theorem zUl(κ:Nat)(m:Int):ql Tryz.prog C (G m) (zi1 κ):=(zTP κ m).zj (zF5 κ m)
def jE:=yi (T:=T) [⟨[(0,.ptr 0 0),(1,.i .i64),(4,.ptr 1 0)],zhL,[]⟩] [⟨.normal,⟨[(0,.ptr 0 0),(4,.ptr 1 0),(14,.b)],zhL,[]⟩⟩]
theorem zC5:zN jE:=zQ _ _
theorem zC0(κ:Nat)(m:Int):zP Tryz.prog C (G m) Tryz.f66.ntmps 1 (zG (.reg 1) (zC Tryz.f66)) (jE.cut (zW 1 [0,1,4]) (cur _ (zi.v0 κ))):=
 Piece.join zC5 zY mixed (zMX κ m) zF zlJ (cut:=zS) (X:=xx9) (zI (l:=[]) (by kernel_rfl) (all_nil)) (fun s=>by kernel_rfl)
def vq(κ:Nat):Cut T:=jE.cut (zW 1 [0,1,4]) (cur _ (zi.v0 κ))
theorem zBh(κ:Nat)(m:Int):zP Tryz.prog C (G m) Tryz.f66.ntmps 1 (zG (.reg 1) (zC Tryz.f66)) (vq κ):=zC0 κ m
def gU(κ:Nat):Key→Option (Cut T):=zh zS (.reg 1) (vq κ)
def jK:=yi (T:=T) [⟨[(0,.ptr 0 0),(4,.ptr 1 0),(14,.b)],zhL,[]⟩] [⟨.normal,⟨[(0,.ptr 0 0),(4,.ptr 1 0)],zhL,[]⟩⟩]
theorem zCj:zN jK:=zQ _ _
theorem zCv(κ:Nat)(m:Int):zP Tryz.prog C (G m) Tryz.f66.ntmps 1 (zG (.cnd 14 3) (zC Tryz.f66)) (jK.cut (zW 1 [0,4,14]) (cur _ (zi.v2 κ))):=
 Piece.join zCj zY mixed (zUC κ m) zF zgc (cut:=(gU κ)) (X:=znN) (zI (l:=[]) (by kernel_rfl) (all_nil)) (fun s=>by kernel_rfl)
def vn(κ:Nat):Cut T:=jK.cut (zW 1 [0,4,14]) (cur _ (zi.v2 κ))
theorem zBv(κ:Nat)(m:Int):zP Tryz.prog C (G m) Tryz.f66.ntmps 1 (zG (.cnd 14 3) (zC Tryz.f66)) (vn κ):=zCv κ m
def gX(κ:Nat):Key→Option (Cut T):=zh (gU κ) (.cnd 14 3) (vn κ)
def vz:=yi (T:=T) [⟨[(0,.ptr 0 0),(4,.ptr 1 0),(5,.ptr 2 0),(26,.b)],[.cells 115 none kk0,.cells 55 none [.s,.s],.cells 55 none [.s,.s]],[]⟩] [⟨.normal,⟨[(4,.ptr 1 0),(5,.ptr 2 0)],[.cells 115 none kk0,.cells 55 none [.s,.s],.cells 55 none [.s,.s]],[]⟩⟩]
theorem zCm:zN vz:=zQ _ _
theorem zC1(κ:Nat)(m:Int):zP Tryz.prog C (G m) Tryz.f66.ntmps 1 (zG (.cnd 26 7) (zC Tryz.f66)) (vz.cut (zW 1 [0,4,5,26]) (cur _ (zi.v4 κ))):=
 Piece.join zCm zY mixed (zUl κ m) zF zg1 (cut:=(gX κ)) (X:=znP) (zI (l:=[]) (by kernel_rfl) (all_nil)) (fun s=>by kernel_rfl)
def vl(κ:Nat):Cut T:=vz.cut (zW 1 [0,4,5,26]) (cur _ (zi.v4 κ))
theorem zBt(κ:Nat)(m:Int):zP Tryz.prog C (G m) Tryz.f66.ntmps 1 (zG (.cnd 26 7) (zC Tryz.f66)) (vl κ):=zC1 κ m
def zEZ(κ:Nat):Key→Option (Cut T):=zh (gX κ) (.cnd 26 7) (vl κ)
def jm:=vB (T:=T) [.ptr 0 0,.i .i64] kk7 [⟨false,.agg [.s,.s],kk7⟩]
theorem zDH:zo jm:=zw _ _ _
theorem zHF(κ:Nat)(m:Int):wM Tryz.prog C (G m) 66 (jm.entry (cur _ (zi κ))):=
 Spec.ok zDH zY mixed (zUl κ m) (cut:=(zEZ κ)) (NR:=(zW 1 [0])) (NP:=(zW 1 [0])) (nB:=1) Tryz.func66 (c:=(zC Tryz.f66)) (by kernel_rfl) (by kernel_rfl) (fun i=>by kernel_rfl) zF zF (zI (l:=[(zG (.reg 1) (zC Tryz.f66),vq κ),(zG (.cnd 14 3) (zC Tryz.f66),vn κ),(zG (.cnd 26 7) (zC Tryz.f66),vl κ)]) (by kernel_rfl) (all_cons (zBh κ m) (all_cons (zBv κ m) (all_cons (zBt κ m) (all_nil))))) (fun i=>by kernel_rfl)
noncomputable def zjP(κ:Nat):qK T:=(zi1 κ).zj 66 jm (cur _ (zi κ))
theorem zNH(κ:Nat)(m:Int):ql Tryz.prog C (G m) (zjP κ):=(zUl κ m).zj (zHF κ m)
def zAG:=yi (T:=T) [⟨[(5,.ptr 0 0),(6,.own 1)],zgJ,[]⟩] [⟨.normal,⟨[(5,.ptr 0 0),(6,.own 1),(28,.b)],zgJ,[]⟩⟩]
theorem zMG:zN zAG:=zQ _ _
theorem zNY(κ:Nat)(m:Int):zP Tryz.prog C (G m) Tryz.f55.ntmps 0 (zG (.reg 5) (zC Tryz.f55)) (zAG.cut (zW 0 [5,6]) (cur _ (yF.v3 κ))):=
 Piece.join zMG zY mixed (zNH κ m) zF zfq (cut:=zS) (X:=znl) (zI (l:=[]) (by kernel_rfl) (all_nil)) (fun s=>by kernel_rfl)
def pA(κ:Nat):Cut T:=zAG.cut (zW 0 [5,6]) (cur _ (yF.v3 κ))
theorem zLP(κ:Nat)(m:Int):zP Tryz.prog C (G m) Tryz.f55.ntmps 0 (zG (.reg 5) (zC Tryz.f55)) (pA κ):=zNY κ m
def zRW(κ:Nat):Key→Option (Cut T):=zh zS (.reg 5) (pA κ)
def zAU:=yi (T:=T) [⟨[(5,.ptr 0 0),(6,.own 1)],zgJ,[]⟩] [⟨.normal,⟨[(5,.ptr 0 0),(6,.own 1)],zgJ,[]⟩⟩]
theorem zNS:zN zAU:=zQ _ _
theorem zNp(κ:Nat)(m:Int):zP Tryz.prog C (G m) Tryz.f55.ntmps 0 (zG (.blk 0) (zC Tryz.f55)) (zAU.cut (zW 0 [5,6]) (yF.l2 κ κ)):=
 Piece.loop zNS zY mixed (zNH κ m) zF zgx (cut:=(zRW κ)) (X:=zlj) (id:=0) (body:=zf (zG (.blk 0) (zC Tryz.f55))) (zI (l:=[(zG (.reg 5) (zC Tryz.f55),pA κ)]) (by kernel_rfl) (all_cons (zLP κ m) (all_nil))) (f:=yF.l2 κ) (fun s=>by kernel_rfl) (fun k s=>by kernel_rfl) κ
def dD(κ:Nat):Cut T:=zAU.cut (zW 0 [5,6]) (yF.l2 κ κ)
theorem zLG(κ:Nat)(m:Int):zP Tryz.prog C (G m) Tryz.f55.ntmps 0 (zG (.blk 0) (zC Tryz.f55)) (dD κ):=zNp κ m
def zRH(κ:Nat):Key→Option (Cut T):=zh zS (.blk 0) (dD κ)
def zCY:=vB (T:=T) [.s] [] [⟨false,.qu [.own 0,.i .i64,.i .i64],[.row 55 true]⟩]
theorem zOv:zo zCY:=zw _ _ _
theorem zVN(κ:Nat)(m:Int):wM Tryz.prog C (G m) 55 (zCY.entry (fun a0=>yF κ a0)):=
 Spec.ok zOv zY mixed (zNH κ m) (cut:=(zRH κ)) (NR:=(jO (zSn 0 [0] 55) (zW 0 [0]))) (NP:=(zW 0 [0])) (nB:=0) Tryz.func55 (c:=(zC Tryz.f55)) (by kernel_rfl) (by kernel_rfl) (fun i=>by kernel_rfl) (y7 zFb zF) zF (zI (l:=[(zG (.blk 0) (zC Tryz.f55),dD κ)]) (by kernel_rfl) (all_cons (zLG κ m) (all_nil))) (fun i=>by kernel_rfl)
noncomputable def ziC(κ:Nat):qK T:=(zjP κ).zj 55 zCY (fun a0=>yF κ a0)
theorem uf(κ:Nat)(m:Int):ql Tryz.prog C (G m) (ziC κ):=(zNH κ m).zj (zVN κ m)
def bl:=yi (T:=T) [⟨[(0,.i .i64),(5,.i .i64),(6,.b)],[],[]⟩] [⟨.normal,⟨[(0,.i .i64),(5,.i .i64),(6,.b)],[],[]⟩⟩]
theorem zJP:zN bl:=zQ _ _
theorem zIj(κ:Nat)(m:Int):zP Tryz.prog C (G m) Tryz.f32.ntmps 0 (zG (.cnd 6 9) (zC Tryz.f32)) (bl.cut (zW 0 [0,5,6]) (cur _ (zZ.v5 κ))):=
 Piece.join zJP zY mixed (uf κ m) zF zFk (cut:=zS) (X:=zZh) (zI (l:=[]) (by kernel_rfl) (all_nil)) (fun s=>by kernel_rfl)
def xw(κ:Nat):Cut T:=bl.cut (zW 0 [0,5,6]) (cur _ (zZ.v5 κ))
theorem zGm(κ:Nat)(m:Int):zP Tryz.prog C (G m) Tryz.f32.ntmps 0 (zG (.cnd 6 9) (zC Tryz.f32)) (xw κ):=zIj κ m
def zOY(κ:Nat):Key→Option (Cut T):=zh zS (.cnd 6 9) (xw κ)
def pC:=yi (T:=T) [⟨[(0,.i .i64),(5,.i .i64),(6,.b)],[],[]⟩] [⟨.normal,⟨[(0,.i .i64),(5,.i .i64),(6,.b)],[],[]⟩⟩]
theorem zJv:zN pC:=zQ _ _
theorem zKf(κ:Nat)(m:Int):zP Tryz.prog C (G m) Tryz.f32.ntmps 0 (zG (.cnd 6 8) (zC Tryz.f32)) (pC.cut (zW 0 [0,5,6]) (cur _ (zZ.v4 κ))):=
 Piece.join zJv zY mixed (uf κ m) zF zFk (cut:=(zOY κ)) (X:=zZh) (zI (l:=[(zG (.cnd 6 9) (zC Tryz.f32),xw κ)]) (by kernel_rfl) (all_cons (zGm κ m) (all_nil))) (fun s=>by kernel_rfl)
def xr(κ:Nat):Cut T:=pC.cut (zW 0 [0,5,6]) (cur _ (zZ.v4 κ))
theorem zHQ(κ:Nat)(m:Int):zP Tryz.prog C (G m) Tryz.f32.ntmps 0 (zG (.cnd 6 8) (zC Tryz.f32)) (xr κ):=zKf κ m
def zQJ(κ:Nat):Key→Option (Cut T):=zh zS (.cnd 6 8) (xr κ)
def dL:=yi (T:=T) [⟨[(0,.i .i64),(5,.i .i64),(6,.b)],[],[]⟩] [⟨.normal,⟨[(0,.i .i64),(5,.i .i64),(6,.b)],[],[]⟩⟩]
theorem zJD:zN dL:=zQ _ _
theorem zKG(κ:Nat)(m:Int):zP Tryz.prog C (G m) Tryz.f32.ntmps 0 (zG (.cnd 6 7) (zC Tryz.f32)) (dL.cut (zW 0 [0,5,6]) (cur _ (zZ.v3 κ))):=
 Piece.join zJD zY mixed (uf κ m) zF zFk (cut:=(zQJ κ)) (X:=zZh) (zI (l:=[(zG (.cnd 6 8) (zC Tryz.f32),xr κ)]) (by kernel_rfl) (all_cons (zHQ κ m) (all_nil))) (fun s=>by kernel_rfl)
def uA(κ:Nat):Cut T:=dL.cut (zW 0 [0,5,6]) (cur _ (zZ.v3 κ))
theorem zHS(κ:Nat)(m:Int):zP Tryz.prog C (G m) Tryz.f32.ntmps 0 (zG (.cnd 6 7) (zC Tryz.f32)) (uA κ):=zKG κ m
def zQF(κ:Nat):Key→Option (Cut T):=zh zS (.cnd 6 7) (uA κ)
def bX:=yi (T:=T) [⟨[(0,.i .i64),(5,.i .i64),(6,.b)],[],[]⟩] [⟨.normal,⟨[(0,.i .i64),(5,.i .i64),(6,.b)],[],[]⟩⟩]
theorem zKU:zN bX:=zQ _ _
theorem zIO(κ:Nat)(m:Int):zP Tryz.prog C (G m) Tryz.f32.ntmps 0 (zG (.cnd 6 6) (zC Tryz.f32)) (bX.cut (zW 0 [0,5,6]) (cur _ (zZ.v2 κ))):=
 Piece.join zKU zY mixed (uf κ m) zF zFk (cut:=(zQF κ)) (X:=zZh) (zI (l:=[(zG (.cnd 6 7) (zC Tryz.f32),uA κ)]) (by kernel_rfl) (all_cons (zHS κ m) (all_nil))) (fun s=>by kernel_rfl)
def gr(κ:Nat):Cut T:=bX.cut (zW 0 [0,5,6]) (cur _ (zZ.v2 κ))
theorem zHK(κ:Nat)(m:Int):zP Tryz.prog C (G m) Tryz.f32.ntmps 0 (zG (.cnd 6 6) (zC Tryz.f32)) (gr κ):=zIO κ m
def zPl(κ:Nat):Key→Option (Cut T):=zh zS (.cnd 6 6) (gr κ)
def dv:=yi (T:=T) [⟨[(0,.i .i64),(5,.i .i64),(6,.b)],[],[]⟩] [⟨.normal,⟨[(0,.i .i64),(5,.i .i64),(6,.b)],[],[]⟩⟩]
theorem zLV:zN dv:=zQ _ _
theorem zKA(κ:Nat)(m:Int):zP Tryz.prog C (G m) Tryz.f32.ntmps 0 (zG (.cnd 6 5) (zC Tryz.f32)) (dv.cut (zW 0 [0,5,6]) (cur _ (zZ.v1 κ))):=
 Piece.join zLV zY mixed (uf κ m) zF zFk (cut:=(zPl κ)) (X:=zZh) (zI (l:=[(zG (.cnd 6 6) (zC Tryz.f32),gr κ)]) (by kernel_rfl) (all_cons (zHK κ m) (all_nil))) (fun s=>by kernel_rfl)
def kr(κ:Nat):Cut T:=dv.cut (zW 0 [0,5,6]) (cur _ (zZ.v1 κ))
theorem zFZ(κ:Nat)(m:Int):zP Tryz.prog C (G m) Tryz.f32.ntmps 0 (zG (.cnd 6 5) (zC Tryz.f32)) (kr κ):=zKA κ m
def zL2(κ:Nat):Key→Option (Cut T):=zh zS (.cnd 6 5) (kr κ)
def pO:=yi (T:=T) [⟨[(0,.i .i64),(5,.i .i64),(6,.b)],[],[]⟩] [⟨.normal,⟨[(0,.i .i64),(5,.i .i64),(6,.b)],[],[]⟩⟩]
theorem zJO:zN pO:=zQ _ _
theorem zKW(κ:Nat)(m:Int):zP Tryz.prog C (G m) Tryz.f32.ntmps 0 (zG (.cnd 6 4) (zC Tryz.f32)) (pO.cut (zW 0 [0,5,6]) (cur _ (zZ.v0 κ))):=
 Piece.join zJO zY mixed (uf κ m) zF zFk (cut:=(zL2 κ)) (X:=zZh) (zI (l:=[(zG (.cnd 6 5) (zC Tryz.f32),kr κ)]) (by kernel_rfl) (all_cons (zFZ κ m) (all_nil))) (fun s=>by kernel_rfl)
def gN(κ:Nat):Cut T:=pO.cut (zW 0 [0,5,6]) (cur _ (zZ.v0 κ))
theorem zEn(κ:Nat)(m:Int):zP Tryz.prog C (G m) Tryz.f32.ntmps 0 (zG (.cnd 6 4) (zC Tryz.f32)) (gN κ):=zKW κ m
def zM2(κ:Nat):Key→Option (Cut T):=zh zS (.cnd 6 4) (gN κ)
def zBD:=vB (T:=T) [.i .i64] [] [⟨false,.qG,[]⟩,⟨false,.yB 0 0 2 2,[.cells 20 none kk1]⟩,⟨false,.yB 0 0 2 2,[.cells 20 none kk3]⟩,⟨false,.yB 0 0 4 4,[.cells 20 none zf1]⟩,⟨false,.yB 0 0 4 4,[.cells 20 none zfh]⟩,⟨false,.yB 0 0 4 4,[.cells 20 none zhU]⟩,⟨false,.yB 0 0 5 5,[.cells 20 none zfs]⟩,⟨false,.yB 0 0 3 3,[.cells 20 none zgZ]⟩,⟨false,.yB 0 0 3 3,[.cells 20 none kk8]⟩,⟨false,.yB 0 0 3 3,[.cells 20 none kk9]⟩,⟨false,.yB 0 0 4 4,[.cells 20 none zft]⟩,⟨false,.yB 0 0 2 2,[.cells 20 none kk2]⟩]
theorem zNc:zo zBD:=zw _ _ _
theorem zTM(κ:Nat)(m:Int):wM Tryz.prog C (G m) 32 (zBD.entry (fun a0=>zZ κ a0)):=
 Spec.ok zNc zY mixed (uf κ m) (cut:=(zM2 κ)) (NR:=(zW 0 [0])) (NP:=(zW 0 [0])) (nB:=0) Tryz.func32 (c:=(zC Tryz.f32)) (by kernel_rfl) (by kernel_rfl) (fun i=>by kernel_rfl) zF zF (zI (l:=[(zG (.cnd 6 4) (zC Tryz.f32),gN κ)]) (by kernel_rfl) (all_cons (zEn κ m) (all_nil))) (fun i=>by kernel_rfl)
noncomputable def zh1(κ:Nat):qK T:=(ziC κ).zj 32 zBD (fun a0=>zZ κ a0)
theorem zTJ(κ:Nat)(m:Int):ql Tryz.prog C (G m) (zh1 κ):=(uf κ m).zj (zTM κ m)
def zCH:=vB (T:=T) [.ptr 0 0,.q9 74 (.s)] qe [⟨false,.qu [.s,.b],qe⟩]
theorem zQK:zo zCH:=zw _ _ _
theorem zVK(κ:Nat)(m:Int):wM Tryz.prog C (G m) 33 (zCH.entry (cur _ (zJb κ))):=
 Spec.ok zQK zY mixed (zTJ κ m) (cut:=zS) (NR:=(zW 1 [0])) (NP:=(zW 1 [0])) (nB:=1) Tryz.func33 (c:=(zC Tryz.f33)) (by kernel_rfl) (by kernel_rfl) (fun i=>by kernel_rfl) zF zF (zI (l:=[]) (by kernel_rfl) (all_nil)) (fun i=>by kernel_rfl)
noncomputable def ziK(κ:Nat):qK T:=(zh1 κ).zj 33 zCH (cur _ (zJb κ))
theorem zFJ(κ:Nat)(m:Int):ql Tryz.prog C (G m) (ziK κ):=(zTJ κ m).zj (zVK κ m)
def ur:=vB (T:=T) [.ptr 0 0,.q9 78 (.agg [])] qe [⟨false,.qu [.s,.b],qe⟩]
theorem zIu:zo ur:=zw _ _ _
theorem zRI(κ:Nat)(m:Int):wM Tryz.prog C (G m) 33 (ur.entry (cur _ (qd κ))):=
 Spec.ok zIu zY mixed (zFJ κ m) (cut:=zS) (NR:=(zW 1 [0])) (NP:=(zW 1 [0])) (nB:=1) Tryz.func33 (c:=(zC Tryz.f33)) (by kernel_rfl) (by kernel_rfl) (fun i=>by kernel_rfl) zF zF (zI (l:=[]) (by kernel_rfl) (all_nil)) (fun i=>by kernel_rfl)
noncomputable def ziB(κ:Nat):qK T:=(ziK κ).zj 33 ur (cur _ (qd κ))
theorem kE(κ:Nat)(m:Int):ql Tryz.prog C (G m) (ziB κ):=(zFJ κ m).zj (zRI κ m)
def bO:=vB (T:=T) [.ptr 0 0,.q9 89 (.agg [])] qe [⟨false,.qu [.s,.b],qe⟩]
theorem zLQ:zo bO:=zw _ _ _
theorem zQy(κ:Nat)(m:Int):wM Tryz.prog C (G m) 33 (bO.entry (cur _ (jZ κ))):=
 Spec.ok zLQ zY mixed (kE κ m) (cut:=zS) (NR:=(zW 1 [0])) (NP:=(zW 1 [0])) (nB:=1) Tryz.func33 (c:=(zC Tryz.f33)) (by kernel_rfl) (by kernel_rfl) (fun i=>by kernel_rfl) zF zF (zI (l:=[]) (by kernel_rfl) (all_nil)) (fun i=>by kernel_rfl)
noncomputable def zhq(κ:Nat):qK T:=(ziB κ).zj 33 bO (cur _ (jZ κ))
theorem zUH(κ:Nat)(m:Int):ql Tryz.prog C (G m) (zhq κ):=(kE κ m).zj (zQy κ m)
def zIK:=vB (T:=T) [.ptr 0 0] qe [⟨false,.ptr 0 4,qe⟩]
theorem zU5:zo zIK:=zw _ _ _
theorem zaI(κ:Nat)(m:Int):wM Tryz.prog C (G m) 40 (zIK.entry (cur _ (zbe κ))):=
 Spec.ok zU5 zY mixed (zUH κ m) (cut:=zS) (NR:=(zW 1 [0])) (NP:=(zW 1 [0])) (nB:=1) Tryz.func40 (c:=(zC Tryz.f40)) (by kernel_rfl) (by kernel_rfl) (fun i=>by kernel_rfl) zF zF (zI (l:=[]) (by kernel_rfl) (all_nil)) (fun i=>by kernel_rfl)
noncomputable def zi7(κ:Nat):qK T:=(zhq κ).zj 40 zIK (cur _ (zbe κ))
theorem zY2(κ:Nat)(m:Int):ql Tryz.prog C (G m) (zi7 κ):=(zUH κ m).zj (zaI κ m)
def dI:=vB (T:=T) [.ptr 0 0,.q9 82 (.fn 40 [] [])] qe [⟨false,.qu [.s,.b],qe⟩]
theorem zLJ:zo dI:=zw _ _ _
theorem zRA(κ:Nat)(m:Int):wM Tryz.prog C (G m) 33 (dI.entry (cur _ (vW κ))):=
 Spec.ok zLJ zY mixed (zY2 κ m) (cut:=zS) (NR:=(zW 1 [0])) (NP:=(zW 1 [0])) (nB:=1) Tryz.func33 (c:=(zC Tryz.f33)) (by kernel_rfl) (by kernel_rfl) (fun i=>by kernel_rfl) zF zF (zI (l:=[]) (by kernel_rfl) (all_nil)) (fun i=>by kernel_rfl)
noncomputable def zjQ(κ:Nat):qK T:=(zi7 κ).zj 33 dI (cur _ (vW κ))
theorem vH(κ:Nat)(m:Int):ql Tryz.prog C (G m) (zjQ κ):=(zY2 κ m).zj (zRA κ m)
def zCQ:=vB (T:=T) [.ptr 0 0] qe [⟨false,.ptr 0 8,qe⟩]
theorem zPx:zo zCQ:=zw _ _ _
theorem zU7(κ:Nat)(m:Int):wM Tryz.prog C (G m) 43 (zCQ.entry (cur _ (zTA κ))):=
 Spec.ok zPx zY mixed (vH κ m) (cut:=zS) (NR:=(zW 1 [0])) (NP:=(zW 1 [0])) (nB:=1) Tryz.func43 (c:=(zC Tryz.f43)) (by kernel_rfl) (by kernel_rfl) (fun i=>by kernel_rfl) zF zF (zI (l:=[]) (by kernel_rfl) (all_nil)) (fun i=>by kernel_rfl)
noncomputable def zh9(κ:Nat):qK T:=(zjQ κ).zj 43 zCQ (cur _ (zTA κ))
theorem zX1(κ:Nat)(m:Int):ql Tryz.prog C (G m) (zh9 κ):=(vH κ m).zj (zU7 κ m)
def dh:=vB (T:=T) [.ptr 0 0,.q9 82 (.fn 43 [] [])] qe [⟨false,.qu [.s,.b],qe⟩]
theorem zK4:zo dh:=zw _ _ _
theorem zRK(κ:Nat)(m:Int):wM Tryz.prog C (G m) 33 (dh.entry (cur _ (kp κ))):=
 Spec.ok zK4 zY mixed (zX1 κ m) (cut:=zS) (NR:=(zW 1 [0])) (NP:=(zW 1 [0])) (nB:=1) Tryz.func33 (c:=(zC Tryz.f33)) (by kernel_rfl) (by kernel_rfl) (fun i=>by kernel_rfl) zF zF (zI (l:=[]) (by kernel_rfl) (all_nil)) (fun i=>by kernel_rfl)
noncomputable def zja(κ:Nat):qK T:=(zh9 κ).zj 33 dh (cur _ (kp κ))
theorem zFK(κ:Nat)(m:Int):ql Tryz.prog C (G m) (zja κ):=(zX1 κ m).zj (zRK κ m)
def xb:=vB (T:=T) [.ptr 0 0] qe [⟨false,.ptr 0 5,qe⟩]
theorem zHW:zo xb:=zw _ _ _
theorem zOZ(κ:Nat)(m:Int):wM Tryz.prog C (G m) 41 (xb.entry (cur _ (zIE κ))):=
 Spec.ok zHW zY mixed (zFK κ m) (cut:=zS) (NR:=(zW 1 [0])) (NP:=(zW 1 [0])) (nB:=1) Tryz.func41 (c:=(zC Tryz.f41)) (by kernel_rfl) (by kernel_rfl) (fun i=>by kernel_rfl) zF zF (zI (l:=[]) (by kernel_rfl) (all_nil)) (fun i=>by kernel_rfl)
noncomputable def zh2(κ:Nat):qK T:=(zja κ).zj 41 xb (cur _ (zIE κ))
theorem zXd(κ:Nat)(m:Int):ql Tryz.prog C (G m) (zh2 κ):=(zFK κ m).zj (zOZ κ m)
def dR:=vB (T:=T) [.ptr 0 0,.q9 86 (.agg [.s,.s,.fn 41 [] []])] qe [⟨false,.qu [.s,.b],qe⟩]
theorem zKV:zo dR:=zw _ _ _
theorem zQv(κ:Nat)(m:Int):wM Tryz.prog C (G m) 33 (dR.entry (cur _ (gI κ))):=
 Spec.ok zKV zY mixed (zXd κ m) (cut:=zS) (NR:=(zW 1 [0])) (NP:=(zW 1 [0])) (nB:=1) Tryz.func33 (c:=(zC Tryz.f33)) (by kernel_rfl) (by kernel_rfl) (fun i=>by kernel_rfl) zF zF (zI (l:=[]) (by kernel_rfl) (all_nil)) (fun i=>by kernel_rfl)
noncomputable def ziq(κ:Nat):qK T:=(zh2 κ).zj 33 dR (cur _ (gI κ))
theorem zMD(κ:Nat)(m:Int):ql Tryz.prog C (G m) (ziq κ):=(zXd κ m).zj (zQv κ m)
def dG:=vB (T:=T) [.ptr 0 0,.q9 68 (.agg [])] qe [⟨false,.qu [.s,.b],qe⟩]
theorem zIW:zo dG:=zw _ _ _
theorem zSC(κ:Nat)(m:Int):wM Tryz.prog C (G m) 33 (dG.entry (cur _ (gA κ))):=
 Spec.ok zIW zY mixed (zMD κ m) (cut:=zS) (NR:=(zW 1 [0])) (NP:=(zW 1 [0])) (nB:=1) Tryz.func33 (c:=(zC Tryz.f33)) (by kernel_rfl) (by kernel_rfl) (fun i=>by kernel_rfl) zF zF (zI (l:=[]) (by kernel_rfl) (all_nil)) (fun i=>by kernel_rfl)
noncomputable def zjJ(κ:Nat):qK T:=(ziq κ).zj 33 dG (cur _ (gA κ))
theorem zUA(κ:Nat)(m:Int):ql Tryz.prog C (G m) (zjJ κ):=(zMD κ m).zj (zSC κ m)
def uv:=vB (T:=T) [.ptr 0 0,.q9 79 (.agg [])] qe [⟨false,.qu [.s,.b],qe⟩]
theorem zLK:zo uv:=zw _ _ _
theorem zRg(κ:Nat)(m:Int):wM Tryz.prog C (G m) 33 (uv.entry (cur _ (jT κ))):=
 Spec.ok zLK zY mixed (zUA κ m) (cut:=zS) (NR:=(zW 1 [0])) (NP:=(zW 1 [0])) (nB:=1) Tryz.func33 (c:=(zC Tryz.f33)) (by kernel_rfl) (by kernel_rfl) (fun i=>by kernel_rfl) zF zF (zI (l:=[]) (by kernel_rfl) (all_nil)) (fun i=>by kernel_rfl)
noncomputable def zin(κ:Nat):qK T:=(zjJ κ).zj 33 uv (cur _ (jT κ))
theorem zEg(κ:Nat)(m:Int):ql Tryz.prog C (G m) (zin κ):=(zUA κ m).zj (zRg κ m)
def zCV:=vB (T:=T) [.ptr 0 0] qe [⟨false,.ptr 0 9,qe⟩]
theorem zPc:zo zCV:=zw _ _ _
theorem zVB(κ:Nat)(m:Int):wM Tryz.prog C (G m) 44 (zCV.entry (cur _ (zTT κ))):=
 Spec.ok zPc zY mixed (zEg κ m) (cut:=zS) (NR:=(zW 1 [0])) (NP:=(zW 1 [0])) (nB:=1) Tryz.func44 (c:=(zC Tryz.f44)) (by kernel_rfl) (by kernel_rfl) (fun i=>by kernel_rfl) zF zF (zI (l:=[]) (by kernel_rfl) (all_nil)) (fun i=>by kernel_rfl)
noncomputable def zic(κ:Nat):qK T:=(zin κ).zj 44 zCV (cur _ (zTT κ))
theorem zZF(κ:Nat)(m:Int):ql Tryz.prog C (G m) (zic κ):=(zEg κ m).zj (zVB κ m)
def dZ:=vB (T:=T) [.ptr 0 0,.q9 82 (.fn 44 [] [])] qe [⟨false,.qu [.s,.b],qe⟩]
theorem zK5:zo dZ:=zw _ _ _
theorem zQ3(κ:Nat)(m:Int):wM Tryz.prog C (G m) 33 (dZ.entry (cur _ (ku κ))):=
 Spec.ok zK5 zY mixed (zZF κ m) (cut:=zS) (NR:=(zW 1 [0])) (NP:=(zW 1 [0])) (nB:=1) Tryz.func33 (c:=(zC Tryz.f33)) (by kernel_rfl) (by kernel_rfl) (fun i=>by kernel_rfl) zF zF (zI (l:=[]) (by kernel_rfl) (all_nil)) (fun i=>by kernel_rfl)
noncomputable def zhs(κ:Nat):qK T:=(zic κ).zj 33 dZ (cur _ (ku κ))
theorem zUW(κ:Nat)(m:Int):ql Tryz.prog C (G m) (zhs κ):=(zZF κ m).zj (zQ3 κ m)
def wX:=vB (T:=T) [.ptr 0 0,.i .u8] [.cells 94 none [.pn,.qG]] [⟨false,.if0,kk6⟩]
theorem gQ:zo wX:=zw _ _ _
theorem bP(κ:Nat)(m:Int):wM Tryz.prog C (G m) 61 (wX.entry (fun a0=>jb κ a0)):=
 Spec.ok gQ zY mixed (zUW κ m) (cut:=zS) (NR:=(zW 1 [0])) (NP:=(zW 1 [0])) (nB:=1) Tryz.func61 (c:=(zC Tryz.f61)) (by kernel_rfl) (by kernel_rfl) (fun i=>by kernel_rfl) zF zF (zI (l:=[]) (by kernel_rfl) (all_nil)) (fun i=>by kernel_rfl)
noncomputable def zim(κ:Nat):qK T:=(zhs κ).zj 61 wX (fun a0=>jb κ a0)
theorem zZK(κ:Nat)(m:Int):ql Tryz.prog C (G m) (zim κ):=(zUW κ m).zj (bP κ m)
def wE:=vB (T:=T) [.ptr 0 0,.i .u8] kk6 [⟨false,.if0,kk6⟩]
theorem kY:zo wE:=zw _ _ _
theorem uN(κ:Nat)(m:Int):wM Tryz.prog C (G m) 61 (wE.entry (cur _ (ym κ))):=
 Spec.ok kY zY mixed (zZK κ m) (cut:=zS) (NR:=(zW 2 [0])) (NP:=(zW 2 [0])) (nB:=2) Tryz.func61 (c:=(zC Tryz.f61)) (by kernel_rfl) (by kernel_rfl) (fun i=>by kernel_rfl) zF zF (zI (l:=[]) (by kernel_rfl) (all_nil)) (fun i=>by kernel_rfl)
noncomputable def zil(κ:Nat):qK T:=(zim κ).zj 61 wE (cur _ (ym κ))
theorem zXL(κ:Nat)(m:Int):ql Tryz.prog C (G m) (zil κ):=(zZK κ m).zj (uN κ m)
def wJ:=vB (T:=T) [.ptr 0 0,.i .u8] kk5 [⟨false,.if0,kk6⟩]
theorem kg:zo wJ:=zw _ _ _
theorem xM(κ:Nat)(m:Int):wM Tryz.prog C (G m) 61 (wJ.entry (cur _ (qm κ))):=
 Spec.ok kg zY mixed (zXL κ m) (cut:=zS) (NR:=(zW 2 [0])) (NP:=(zW 2 [0])) (nB:=2) Tryz.func61 (c:=(zC Tryz.f61)) (by kernel_rfl) (by kernel_rfl) (fun i=>by kernel_rfl) zF zF (zI (l:=[]) (by kernel_rfl) (all_nil)) (fun i=>by kernel_rfl)
noncomputable def ziI(κ:Nat):qK T:=(zil κ).zj 61 wJ (cur _ (qm κ))
theorem zTb(κ:Nat)(m:Int):ql Tryz.prog C (G m) (ziI κ):=(zXL κ m).zj (xM κ m)
def zB4:=yi (T:=T) [⟨[(3,.ptr 0 0),(6,.sl 5),(7,.i .i64),(8,.i .i64)],kk5,[]⟩,⟨[(3,.ptr 0 0),(6,.sl 5),(7,.i .i64),(8,.i .i64)],kk6,[]⟩] [⟨.normal,⟨[(3,.ptr 0 0)],kk5,[]⟩⟩,⟨.normal,⟨[(3,.ptr 0 0)],kk6,[]⟩⟩]
theorem zQL:zN zB4:=zQ _ _
theorem zPJ(κ:Nat)(m:Int):zP Tryz.prog C (G m) Tryz.f49.ntmps 0 (zG (.blk 0) (zC Tryz.f49)) (zB4.cut nn1 (yu.l0 κ κ)):=
 Piece.loop zQL zY mixed (zTb κ m) zjz zTF (cut:=zS) (X:=xx6) (id:=0) (body:=zf (zG (.blk 0) (zC Tryz.f49))) (zI (l:=[]) (by kernel_rfl) (all_nil)) (f:=yu.l0 κ) (fun s=>by rcases s with s|s<;>kernel_rfl) (fun k s=>by rcases s with s|s<;>kernel_rfl) κ
def p5(κ:Nat):Cut T:=zB4.cut nn1 (yu.l0 κ κ)
theorem zNO(κ:Nat)(m:Int):zP Tryz.prog C (G m) Tryz.f49.ntmps 0 (zG (.blk 0) (zC Tryz.f49)) (p5 κ):=zPJ κ m
def zT0(κ:Nat):Key→Option (Cut T):=zh zS (.blk 0) (p5 κ)
def zDL:=vB (T:=T) [.sl 5] [] [⟨false,.s,[]⟩]
theorem zSP:zo zDL:=zw _ _ _
theorem zWu(κ:Nat)(m:Int):wM Tryz.prog C (G m) 49 (zDL.entry (fun a0=>yu κ a0)):=
 Spec.ok zSP zY mixed (zTb κ m) (cut:=(zT0 κ)) (NR:=(zW 0 [0])) (NP:=(zW 0 [0])) (nB:=0) Tryz.func49 (c:=(zC Tryz.f49)) (by kernel_rfl) (by kernel_rfl) (fun i=>by kernel_rfl) zF zF (zI (l:=[(zG (.blk 0) (zC Tryz.f49),p5 κ)]) (by kernel_rfl) (all_cons (zNO κ m) (all_nil))) (fun i=>by kernel_rfl)
noncomputable def zjN(κ:Nat):qK T:=(ziI κ).zj 49 zDL (fun a0=>yu κ a0)
theorem zXn(κ:Nat)(m:Int):ql Tryz.prog C (G m) (zjN κ):=(zTb κ m).zj (zWu κ m)
def uL:=vB (T:=T) [.ptr 0 0,.q9 88 (.agg [])] qe [⟨false,.qu [.s,.b],qe⟩]
theorem zGr:zo uL:=zw _ _ _
theorem zPk(κ:Nat)(m:Int):wM Tryz.prog C (G m) 33 (uL.entry (cur _ (js κ))):=
 Spec.ok zGr zY mixed (zXn κ m) (cut:=zS) (NR:=(zW 1 [0])) (NP:=(zW 1 [0])) (nB:=1) Tryz.func33 (c:=(zC Tryz.f33)) (by kernel_rfl) (by kernel_rfl) (fun i=>by kernel_rfl) zF zF (zI (l:=[]) (by kernel_rfl) (all_nil)) (fun i=>by kernel_rfl)
noncomputable def ziW(κ:Nat):qK T:=(zjN κ).zj 33 uL (cur _ (js κ))
theorem zTC(κ:Nat)(m:Int):ql Tryz.prog C (G m) (ziW κ):=(zXn κ m).zj (zPk κ m)
def uK:=vB (T:=T) [.ptr 0 0,.q9 87 (.agg [])] qe [⟨false,.qu [.s,.b],qe⟩]
theorem zG8:zo uK:=zw _ _ _
theorem zPS(κ:Nat)(m:Int):wM Tryz.prog C (G m) 33 (uK.entry (cur _ (zBm κ))):=
 Spec.ok zG8 zY mixed (zTC κ m) (cut:=zS) (NR:=(zW 1 [0])) (NP:=(zW 1 [0])) (nB:=1) Tryz.func33 (c:=(zC Tryz.f33)) (by kernel_rfl) (by kernel_rfl) (fun i=>by kernel_rfl) zF zF (zI (l:=[]) (by kernel_rfl) (all_nil)) (fun i=>by kernel_rfl)
noncomputable def zhy(κ:Nat):qK T:=(ziW κ).zj 33 uK (cur _ (zBm κ))
theorem zUs(κ:Nat)(m:Int):ql Tryz.prog C (G m) (zhy κ):=(zTC κ m).zj (zPS κ m)
def xS:=vB (T:=T) [.ptr 0 0] qe [⟨false,.ptr 0 6,qe⟩]
theorem zGZ:zo xS:=zw _ _ _
theorem zOO(κ:Nat)(m:Int):wM Tryz.prog C (G m) 42 (xS.entry (cur _ (zH7 κ))):=
 Spec.ok zGZ zY mixed (zUs κ m) (cut:=zS) (NR:=(zW 1 [0])) (NP:=(zW 1 [0])) (nB:=1) Tryz.func42 (c:=(zC Tryz.f42)) (by kernel_rfl) (by kernel_rfl) (fun i=>by kernel_rfl) zF zF (zI (l:=[]) (by kernel_rfl) (all_nil)) (fun i=>by kernel_rfl)
noncomputable def zjI(κ:Nat):qK T:=(zhy κ).zj 42 xS (cur _ (zH7 κ))
theorem zXf(κ:Nat)(m:Int):ql Tryz.prog C (G m) (zjI κ):=(zUs κ m).zj (zOO κ m)
def xG:=vB (T:=T) [.ptr 0 0,.q9 86 (.agg [.s,.s,.fn 42 [] []])] qe [⟨false,.qu [.s,.b],qe⟩]
theorem zGd:zo xG:=zw _ _ _
theorem zOM(κ:Nat)(m:Int):wM Tryz.prog C (G m) 33 (xG.entry (cur _ (jv κ))):=
 Spec.ok zGd zY mixed (zXf κ m) (cut:=zS) (NR:=(zW 1 [0])) (NP:=(zW 1 [0])) (nB:=1) Tryz.func33 (c:=(zC Tryz.f33)) (by kernel_rfl) (by kernel_rfl) (fun i=>by kernel_rfl) zF zF (zI (l:=[]) (by kernel_rfl) (all_nil)) (fun i=>by kernel_rfl)
noncomputable def zjY(κ:Nat):qK T:=(zjI κ).zj 33 xG (cur _ (jv κ))
theorem zAP(κ:Nat)(m:Int):ql Tryz.prog C (G m) (zjY κ):=(zXf κ m).zj (zOM κ m)
def zBd:=yi (T:=T) [⟨[(0,.s)],[],[]⟩] [⟨.normal,⟨[(2,.b)],[],[]⟩⟩]
theorem zQG:zN zBd:=zQ _ _
theorem zO4(κ:Nat)(m:Int):zP Tryz.prog C (G m) Tryz.f47.ntmps 0 (zG (.reg 1) (zC Tryz.f47)) (zBd.cut (zW 0 [0]) (fun a0=>vj.v0 κ a0)):=
 Piece.join zQG zY mixed (zAP κ m) zF zKv (cut:=zS) (X:=xx0) (zI (l:=[]) (by kernel_rfl) (all_nil)) (fun s=>by kernel_rfl)
def p6(κ:Nat):Cut T:=zBd.cut (zW 0 [0]) (fun a0=>vj.v0 κ a0)
theorem zM3(κ:Nat)(m:Int):zP Tryz.prog C (G m) Tryz.f47.ntmps 0 (zG (.reg 1) (zC Tryz.f47)) (p6 κ):=zO4 κ m
def zTp(κ:Nat):Key→Option (Cut T):=zh zS (.reg 1) (p6 κ)
def zEF:=vB (T:=T) [.s] [] [⟨false,.b,[]⟩]
theorem zRY:zo zEF:=zw _ _ _
theorem zWZ(κ:Nat)(m:Int):wM Tryz.prog C (G m) 47 (zEF.entry (fun a0=>vj κ a0)):=
 Spec.ok zRY zY mixed (zAP κ m) (cut:=(zTp κ)) (NR:=(zW 0 [0])) (NP:=(zW 0 [0])) (nB:=0) Tryz.func47 (c:=(zC Tryz.f47)) (by kernel_rfl) (by kernel_rfl) (fun i=>by kernel_rfl) zF zF (zI (l:=[(zG (.reg 1) (zC Tryz.f47),p6 κ)]) (by kernel_rfl) (all_cons (zM3 κ m) (all_nil))) (fun i=>by kernel_rfl)
noncomputable def zh0(κ:Nat):qK T:=(zjY κ).zj 47 zEF (fun a0=>vj κ a0)
theorem zXH(κ:Nat)(m:Int):ql Tryz.prog C (G m) (zh0 κ):=(zAP κ m).zj (zWZ κ m)
def uV:=vB (T:=T) [.ptr 0 0,.q9 80 (.agg [])] qe [⟨false,.qu [.s,.b],qe⟩]
theorem zGP:zo uV:=zw _ _ _
theorem zQI(κ:Nat)(m:Int):wM Tryz.prog C (G m) 33 (uV.entry (cur _ (kA κ))):=
 Spec.ok zGP zY mixed (zXH κ m) (cut:=zS) (NR:=(zW 1 [0])) (NP:=(zW 1 [0])) (nB:=1) Tryz.func33 (c:=(zC Tryz.f33)) (by kernel_rfl) (by kernel_rfl) (fun i=>by kernel_rfl) zF zF (zI (l:=[]) (by kernel_rfl) (all_nil)) (fun i=>by kernel_rfl)
noncomputable def zi5(κ:Nat):qK T:=(zh0 κ).zj 33 uV (cur _ (kA κ))
theorem gF(κ:Nat)(m:Int):ql Tryz.prog C (G m) (zi5 κ):=(zXH κ m).zj (zQI κ m)
def bH:=vB (T:=T) [.qG,.s] [] [⟨false,.s,[]⟩]
theorem zKd:zo bH:=zw _ _ _
theorem zRv(κ:Nat)(m:Int):wM Tryz.prog C (G m) 34 (bH.entry (fun a0=>strings_Join κ a0)):=
 Spec.ok zKd zY mixed (gF κ m) (cut:=zS) (NR:=(zW 0 [0])) (NP:=(zW 0 [0])) (nB:=0) Tryz.func34 (c:=(zC Tryz.f34)) (by kernel_rfl) (by kernel_rfl) (fun i=>by kernel_rfl) zF zF (zI (l:=[]) (by kernel_rfl) (all_nil)) (fun i=>by kernel_rfl)
noncomputable def ziL(κ:Nat):qK T:=(zi5 κ).zj 34 bH (fun a0=>strings_Join κ a0)
theorem zZR(κ:Nat)(m:Int):ql Tryz.prog C (G m) (ziL κ):=(gF κ m).zj (zRv κ m)
def zBG:=yi (T:=T) [⟨[(1,.ptr 0 0),(4,.qG),(13,.qG),(14,.lit .i64 0),(15,.lit .i64 0)],qe,[]⟩] [⟨(.exit 0),⟨[(4,.qG)],[],[]⟩⟩]
theorem zNF:zN zBG:=zQ _ _
theorem zL9(κ:Nat)(m:Int):zP Tryz.prog C (G m) Tryz.f17.ntmps 0 (zf (zG (.blk 0) (zC Tryz.f17))) (zBG.cut wk (cur _ (zE.v0 κ))):=
 Piece.join zNF zY mixed (zTJ κ m) yp yN (cut:=zS) (X:=we) (zI (l:=[]) (by kernel_rfl) (all_nil)) (fun s=>by kernel_rfl)
def zAT:=yi (T:=T) [⟨[(1,.ptr 0 0),(4,.qG),(13,.yB 1 0 2 2),(14,.lit .i64 2),(15,.lit .i64 0)],[.cells 26 none wH,.cells 20 none kk1],[]⟩] [⟨.normal,⟨[(1,.ptr 0 0),(4,.own 1),(13,.yB 2 0 2 2),(14,.lit .i64 2),(15,.lit .i64 1)],zgO,[]⟩⟩]
theorem zMd:zN zAT:=zQ _ _
theorem zL3(κ:Nat)(m:Int):zP Tryz.prog C (G m) Tryz.f17.ntmps 0 (zf (zG (.blk 0) (zC Tryz.f17))) (zAT.cut wk (cur _ (zE.v1 κ))):=
 Piece.join zMd zY mixed (zFJ κ m) yp yN (cut:=zS) (X:=we) (zI (l:=[]) (by kernel_rfl) (all_nil)) (fun s=>by kernel_rfl)
def px:=yi (T:=T) [⟨[(1,.ptr 0 0),(4,.qG),(13,.yB 1 0 2 2),(14,.lit .i64 2),(15,.lit .i64 0)],[.cells 26 none wH,.cells 20 none kk3],[]⟩] [⟨.normal,⟨[(1,.ptr 0 0),(4,.own 1),(13,.yB 2 0 2 2),(14,.lit .i64 2),(15,.lit .i64 1)],zhM,[]⟩⟩]
theorem zMm:zN px:=zQ _ _
theorem zL1(κ:Nat)(m:Int):zP Tryz.prog C (G m) Tryz.f17.ntmps 0 (zf (zG (.blk 0) (zC Tryz.f17))) (px.cut wk (cur _ (zE.v2 κ))):=
 Piece.join zMm zY mixed (zFJ κ m) yp yN (cut:=zS) (X:=we) (zI (l:=[]) (by kernel_rfl) (all_nil)) (fun s=>by kernel_rfl)
def zAV:=yi (T:=T) [⟨[(1,.ptr 0 0),(4,.qG),(13,.yB 1 0 4 4),(14,.lit .i64 4),(15,.lit .i64 0)],[.cells 26 none wH,.cells 20 none zf1],[]⟩] [⟨.normal,⟨[(1,.ptr 0 0),(4,.own 1),(13,.yB 2 0 4 4),(14,.lit .i64 4),(15,.lit .i64 1)],zYt,[]⟩⟩]
theorem zLw:zN zAV:=zQ _ _
theorem zM8(κ:Nat)(m:Int):zP Tryz.prog C (G m) Tryz.f17.ntmps 0 (zf (zG (.blk 0) (zC Tryz.f17))) (zAV.cut wk (cur _ (zE.v3 κ))):=
 Piece.join zLw zY mixed (zFJ κ m) yp yN (cut:=zS) (X:=we) (zI (l:=[]) (by kernel_rfl) (all_nil)) (fun s=>by kernel_rfl)
def zA8:=yi (T:=T) [⟨[(1,.ptr 0 0),(4,.qG),(13,.yB 1 0 4 4),(14,.lit .i64 4),(15,.lit .i64 0)],[.cells 26 none wH,.cells 20 none zfh],[]⟩] [⟨.normal,⟨[(1,.ptr 0 0),(4,.own 1),(13,.yB 2 0 4 4),(14,.lit .i64 4),(15,.lit .i64 1)],zYe,[]⟩⟩,⟨.ret,⟨[(2,.s),(3,.b)],[],[]⟩⟩]
theorem zMS:zN zA8:=zQ _ _
theorem zMF(κ:Nat)(m:Int):zP Tryz.prog C (G m) Tryz.f17.ntmps 0 (zf (zG (.blk 0) (zC Tryz.f17))) (zA8.cut wk (cur _ (zE.v4 κ))):=
 Piece.join zMS zY mixed (kE κ m) yp yN (cut:=zS) (X:=we) (zI (l:=[]) (by kernel_rfl) (all_nil)) (fun s=>by kernel_rfl)
def zAW:=yi (T:=T) [⟨[(1,.ptr 0 0),(4,.qG),(13,.yB 1 0 4 4),(14,.lit .i64 4),(15,.lit .i64 0)],[.cells 26 none wH,.cells 20 none zhU],[]⟩] [⟨.normal,⟨[(1,.ptr 0 0),(4,.own 1),(13,.yB 2 0 4 4),(14,.lit .i64 4),(15,.lit .i64 1)],zXQ,[]⟩⟩,⟨.ret,⟨[(2,.s),(3,.b)],[],[]⟩⟩]
theorem zN5:zN zAW:=zQ _ _
theorem zOE(κ:Nat)(m:Int):zP Tryz.prog C (G m) Tryz.f17.ntmps 0 (zf (zG (.blk 0) (zC Tryz.f17))) (zAW.cut wk (cur _ (zE.v5 κ))):=
 Piece.join zN5 zY mixed (kE κ m) yp yN (cut:=zS) (X:=we) (zI (l:=[]) (by kernel_rfl) (all_nil)) (fun s=>by kernel_rfl)
def zAg:=yi (T:=T) [⟨[(1,.ptr 0 0),(4,.qG),(13,.yB 1 0 5 5),(14,.lit .i64 5),(15,.lit .i64 0)],[.cells 26 none wH,.cells 20 none zfs],[]⟩] [⟨.normal,⟨[(1,.ptr 0 0),(4,.own 1),(13,.yB 2 0 5 5),(14,.lit .i64 5),(15,.lit .i64 1)],zU0,[]⟩⟩,⟨.ret,⟨[(2,.s),(3,.b)],[],[]⟩⟩]
theorem zL5:zN zAg:=zQ _ _
theorem zMP(κ:Nat)(m:Int):zP Tryz.prog C (G m) Tryz.f17.ntmps 0 (zf (zG (.blk 0) (zC Tryz.f17))) (zAg.cut wk (cur _ (zE.v6 κ))):=
 Piece.join zL5 zY mixed (kE κ m) yp yN (cut:=zS) (X:=we) (zI (l:=[]) (by kernel_rfl) (all_nil)) (fun s=>by kernel_rfl)
def zAH:=yi (T:=T) [⟨[(1,.ptr 0 0),(4,.qG),(13,.yB 1 0 3 3),(14,.lit .i64 3),(15,.lit .i64 0)],[.cells 26 none wH,.cells 20 none zgZ],[]⟩] [⟨.normal,⟨[(1,.ptr 0 0),(4,.own 1),(13,.yB 2 0 3 3),(14,.lit .i64 3),(15,.lit .i64 1)],zcE,[]⟩⟩,⟨.ret,⟨[(2,.s),(3,.b)],[],[]⟩⟩]
theorem zM7:zN zAH:=zQ _ _
theorem zMy(κ:Nat)(m:Int):zP Tryz.prog C (G m) Tryz.f17.ntmps 0 (zf (zG (.blk 0) (zC Tryz.f17))) (zAH.cut wk (cur _ (zE.v7 κ))):=
 Piece.join zM7 zY mixed (kE κ m) yp yN (cut:=zS) (X:=we) (zI (l:=[]) (by kernel_rfl) (all_nil)) (fun s=>by kernel_rfl)
def zBI:=yi (T:=T) [⟨[(1,.ptr 0 0),(4,.qG),(13,.yB 1 0 3 3),(14,.lit .i64 3),(15,.lit .i64 0)],[.cells 26 none wH,.cells 20 none kk8],[]⟩] [⟨.normal,⟨[(1,.ptr 0 0),(4,.own 1),(13,.yB 2 0 3 3),(14,.lit .i64 3),(15,.lit .i64 1)],zcC,[]⟩⟩,⟨.ret,⟨[(2,.s),(3,.b)],[],[]⟩⟩]
theorem zMR:zN zBI:=zQ _ _
theorem zMw(κ:Nat)(m:Int):zP Tryz.prog C (G m) Tryz.f17.ntmps 0 (zf (zG (.blk 0) (zC Tryz.f17))) (zBI.cut wk (cur _ (zE.v8 κ))):=
 Piece.join zMR zY mixed (kE κ m) yp yN (cut:=zS) (X:=we) (zI (l:=[]) (by kernel_rfl) (all_nil)) (fun s=>by kernel_rfl)
def zBF:=yi (T:=T) [⟨[(1,.ptr 0 0),(4,.qG),(13,.yB 1 0 3 3),(14,.lit .i64 3),(15,.lit .i64 0)],[.cells 26 none wH,.cells 20 none kk9],[]⟩] [⟨.normal,⟨[(1,.ptr 0 0),(4,.own 1),(13,.yB 2 0 3 3),(14,.lit .i64 3),(15,.lit .i64 1)],zcp,[]⟩⟩,⟨.ret,⟨[(2,.s),(3,.b)],[],[]⟩⟩]
theorem zNT:zN zBF:=zQ _ _
theorem zNa(κ:Nat)(m:Int):zP Tryz.prog C (G m) Tryz.f17.ntmps 0 (zf (zG (.blk 0) (zC Tryz.f17))) (zBF.cut wk (cur _ (zE.v9 κ))):=
 Piece.join zNT zY mixed (kE κ m) yp yN (cut:=zS) (X:=we) (zI (l:=[]) (by kernel_rfl) (all_nil)) (fun s=>by kernel_rfl)
def dx:=yi (T:=T) [⟨[(1,.ptr 0 0),(4,.qG),(13,.yB 1 0 4 4),(14,.lit .i64 4),(15,.lit .i64 0)],[.cells 26 none wH,.cells 20 none zft],[]⟩] [⟨.normal,⟨[(1,.ptr 0 0),(4,.own 1),(13,.yB 2 0 4 4),(14,.lit .i64 4),(15,.lit .i64 1)],zYM,[]⟩⟩,⟨.ret,⟨[(2,.s),(3,.b)],[],[]⟩⟩]
theorem zJd:zN dx:=zQ _ _
theorem zK9(κ:Nat)(m:Int):zP Tryz.prog C (G m) Tryz.f17.ntmps 0 (zf (zG (.blk 0) (zC Tryz.f17))) (dx.cut wk (cur _ (zE.v10 κ))):=
 Piece.join zJd zY mixed (kE κ m) yp yN (cut:=zS) (X:=we) (zI (l:=[]) (by kernel_rfl) (all_nil)) (fun s=>by kernel_rfl)
def pT:=yi (T:=T) [⟨[(1,.ptr 0 0),(4,.qG),(13,.yB 1 0 2 2),(14,.lit .i64 2),(15,.lit .i64 0)],[.cells 26 none wH,.cells 20 none kk2],[]⟩] [⟨.normal,⟨[(1,.ptr 0 0),(4,.own 1),(13,.yB 2 0 2 2),(14,.lit .i64 2),(15,.lit .i64 1)],zgk,[]⟩⟩,⟨.ret,⟨[(2,.s),(3,.b)],[],[]⟩⟩]
theorem zIN:zN pT:=zQ _ _
theorem zJy(κ:Nat)(m:Int):zP Tryz.prog C (G m) Tryz.f17.ntmps 0 (zf (zG (.blk 0) (zC Tryz.f17))) (pT.cut wk (cur _ (zE.v11 κ))):=
 Piece.join zIN zY mixed (kE κ m) yp yN (cut:=zS) (X:=we) (zI (l:=[]) (by kernel_rfl) (all_nil)) (fun s=>by kernel_rfl)
def bY:=yi (T:=T) [⟨[(1,.ptr 0 0),(4,.own 1),(13,.yB 2 0 2 2),(14,.lit .i64 2),(15,.lit .i64 1)],zgO,[]⟩] [⟨.normal,⟨[(1,.ptr 0 0),(4,.own 1),(13,.yB 2 0 2 2),(14,.lit .i64 2),(15,.lit .i64 2)],zgO,[]⟩⟩,⟨.ret,⟨[(2,.s),(3,.b)],[],[]⟩⟩]
theorem zKY:zN bY:=zQ _ _
theorem zIm(κ:Nat)(m:Int):zP Tryz.prog C (G m) Tryz.f17.ntmps 0 (zf (zG (.blk 0) (zC Tryz.f17))) (bY.cut wk (cur _ (zE.v12 κ))):=
 Piece.join zKY zY mixed (zUH κ m) yp yN (cut:=zS) (X:=we) (zI (l:=[]) (by kernel_rfl) (all_nil)) (fun s=>by kernel_rfl)
def dJ:=yi (T:=T) [⟨[(1,.ptr 0 0),(4,.own 1),(13,.yB 2 0 2 2),(14,.lit .i64 2),(15,.lit .i64 1)],zhM,[]⟩] [⟨.normal,⟨[(1,.ptr 0 0),(4,.own 1),(13,.yB 2 0 2 2),(14,.lit .i64 2),(15,.lit .i64 2)],zhM,[]⟩⟩,⟨.ret,⟨[(2,.s),(3,.b)],[],[]⟩⟩]
theorem zI5:zN dJ:=zQ _ _
theorem zIx(κ:Nat)(m:Int):zP Tryz.prog C (G m) Tryz.f17.ntmps 0 (zf (zG (.blk 0) (zC Tryz.f17))) (dJ.cut wk (cur _ (zE.v13 κ))):=
 Piece.join zI5 zY mixed (vH κ m) yp yN (cut:=zS) (X:=we) (zI (l:=[]) (by kernel_rfl) (all_nil)) (fun s=>by kernel_rfl)
def dN:=yi (T:=T) [⟨[(1,.ptr 0 0),(4,.own 1),(13,.yB 2 0 4 4),(14,.lit .i64 4),(15,.lit .i64 1)],zYt,[]⟩] [⟨.normal,⟨[(1,.ptr 0 0),(4,.own 1),(13,.yB 2 0 4 4),(14,.lit .i64 4),(15,.lit .i64 2)],zYt,[]⟩⟩,⟨.ret,⟨[(2,.s),(3,.b)],[],[]⟩⟩]
theorem zIa:zN dN:=zQ _ _
theorem zLB(κ:Nat)(m:Int):zP Tryz.prog C (G m) Tryz.f17.ntmps 0 (zf (zG (.blk 0) (zC Tryz.f17))) (dN.cut wk (cur _ (zE.v14 κ))):=
 Piece.join zIa zY mixed (vH κ m) yp yN (cut:=zS) (X:=we) (zI (l:=[]) (by kernel_rfl) (all_nil)) (fun s=>by kernel_rfl)
def bn:=yi (T:=T) [⟨[(1,.ptr 0 0),(4,.own 1),(13,.yB 2 0 4 4),(14,.lit .i64 4),(15,.lit .i64 1)],zYe,[]⟩] [⟨.normal,⟨[(1,.ptr 0 0),(4,.own 1),(13,.yB 2 0 4 4),(14,.lit .i64 4),(15,.lit .i64 2)],zYe,[]⟩⟩]
theorem zKB:zN bn:=zQ _ _
theorem zKS(κ:Nat)(m:Int):zP Tryz.prog C (G m) Tryz.f17.ntmps 0 (zf (zG (.blk 0) (zC Tryz.f17))) (bn.cut wk (cur _ (zE.v15 κ))):=
 Piece.join zKB zY mixed (vH κ m) yp yN (cut:=zS) (X:=we) (zI (l:=[]) (by kernel_rfl) (all_nil)) (fun s=>by kernel_rfl)
def dK:=yi (T:=T) [⟨[(1,.ptr 0 0),(4,.own 1),(13,.yB 2 0 4 4),(14,.lit .i64 4),(15,.lit .i64 1)],zXQ,[]⟩] [⟨.normal,⟨[(1,.ptr 0 0),(4,.own 1),(13,.yB 2 0 4 4),(14,.lit .i64 4),(15,.lit .i64 2)],zXQ,[]⟩⟩]
theorem zLM:zN dK:=zQ _ _
theorem zJs(κ:Nat)(m:Int):zP Tryz.prog C (G m) Tryz.f17.ntmps 0 (zf (zG (.blk 0) (zC Tryz.f17))) (dK.cut wk (cur _ (zE.v16 κ))):=
 Piece.join zLM zY mixed (vH κ m) yp yN (cut:=zS) (X:=we) (zI (l:=[]) (by kernel_rfl) (all_nil)) (fun s=>by kernel_rfl)
def pU:=yi (T:=T) [⟨[(1,.ptr 0 0),(4,.own 1),(13,.yB 2 0 5 5),(14,.lit .i64 5),(15,.lit .i64 1)],zU0,[]⟩] [⟨.normal,⟨[(1,.ptr 0 0),(4,.own 1),(13,.yB 2 0 5 5),(14,.lit .i64 5),(15,.lit .i64 2)],zU0,[]⟩⟩]
theorem zLX:zN pU:=zQ _ _
theorem zKC(κ:Nat)(m:Int):zP Tryz.prog C (G m) Tryz.f17.ntmps 0 (zf (zG (.blk 0) (zC Tryz.f17))) (pU.cut wk (cur _ (zE.v17 κ))):=
 Piece.join zLX zY mixed (vH κ m) yp yN (cut:=zS) (X:=we) (zI (l:=[]) (by kernel_rfl) (all_nil)) (fun s=>by kernel_rfl)
def u5:=yi (T:=T) [⟨[(1,.ptr 0 0),(4,.own 1),(13,.yB 2 0 3 3),(14,.lit .i64 3),(15,.lit .i64 1)],zcE,[]⟩] [⟨.normal,⟨[(1,.ptr 0 0),(4,.own 1),(13,.yB 2 0 3 3),(14,.lit .i64 3),(15,.lit .i64 2)],zcE,[]⟩⟩]
theorem zLN:zN u5:=zQ _ _
theorem zJc(κ:Nat)(m:Int):zP Tryz.prog C (G m) Tryz.f17.ntmps 0 (zf (zG (.blk 0) (zC Tryz.f17))) (u5.cut wk (cur _ (zE.v18 κ))):=
 Piece.join zLN zY mixed (vH κ m) yp yN (cut:=zS) (X:=we) (zI (l:=[]) (by kernel_rfl) (all_nil)) (fun s=>by kernel_rfl)
def bW:=yi (T:=T) [⟨[(1,.ptr 0 0),(4,.own 1),(13,.yB 2 0 3 3),(14,.lit .i64 3),(15,.lit .i64 1)],zcC,[]⟩] [⟨.normal,⟨[(1,.ptr 0 0),(4,.own 1),(13,.yB 2 0 3 3),(14,.lit .i64 3),(15,.lit .i64 2)],zcC,[]⟩⟩]
theorem zJq:zN bW:=zQ _ _
theorem zIr(κ:Nat)(m:Int):zP Tryz.prog C (G m) Tryz.f17.ntmps 0 (zf (zG (.blk 0) (zC Tryz.f17))) (bW.cut wk (cur _ (zE.v19 κ))):=
 Piece.join zJq zY mixed (vH κ m) yp yN (cut:=zS) (X:=we) (zI (l:=[]) (by kernel_rfl) (all_nil)) (fun s=>by kernel_rfl)
def dA:=yi (T:=T) [⟨[(1,.ptr 0 0),(4,.own 1),(13,.yB 2 0 3 3),(14,.lit .i64 3),(15,.lit .i64 1)],zcp,[]⟩] [⟨.normal,⟨[(1,.ptr 0 0),(4,.own 1),(13,.yB 2 0 3 3),(14,.lit .i64 3),(15,.lit .i64 2)],zcp,[]⟩⟩]
theorem zIT:zN dA:=zQ _ _
theorem zJp(κ:Nat)(m:Int):zP Tryz.prog C (G m) Tryz.f17.ntmps 0 (zf (zG (.blk 0) (zC Tryz.f17))) (dA.cut wk (cur _ (zE.v20 κ))):=
 Piece.join zIT zY mixed (vH κ m) yp yN (cut:=zS) (X:=we) (zI (l:=[]) (by kernel_rfl) (all_nil)) (fun s=>by kernel_rfl)
def df:=yi (T:=T) [⟨[(1,.ptr 0 0),(4,.own 1),(13,.yB 2 0 4 4),(14,.lit .i64 4),(15,.lit .i64 1)],zYM,[]⟩] [⟨.normal,⟨[(1,.ptr 0 0),(4,.own 1),(13,.yB 2 0 4 4),(14,.lit .i64 4),(15,.lit .i64 2)],zYM,[]⟩⟩]
theorem zIs:zN df:=zQ _ _
theorem zIf(κ:Nat)(m:Int):zP Tryz.prog C (G m) Tryz.f17.ntmps 0 (zf (zG (.blk 0) (zC Tryz.f17))) (df.cut wk (cur _ (zE.v21 κ))):=
 Piece.join zIs zY mixed (vH κ m) yp yN (cut:=zS) (X:=we) (zI (l:=[]) (by kernel_rfl) (all_nil)) (fun s=>by kernel_rfl)
def bj:=yi (T:=T) [⟨[(1,.ptr 0 0),(4,.own 1),(13,.yB 2 0 2 2),(14,.lit .i64 2),(15,.lit .i64 1)],zgk,[]⟩] [⟨.normal,⟨[(1,.ptr 0 0),(4,.own 1),(13,.yB 2 0 2 2),(14,.lit .i64 2),(15,.lit .i64 2)],zgk,[]⟩⟩]
theorem zIc:zN bj:=zQ _ _
theorem zJM(κ:Nat)(m:Int):zP Tryz.prog C (G m) Tryz.f17.ntmps 0 (zf (zG (.blk 0) (zC Tryz.f17))) (bj.cut wk (cur _ (zE.v22 κ))):=
 Piece.join zIc zY mixed (vH κ m) yp yN (cut:=zS) (X:=we) (zI (l:=[]) (by kernel_rfl) (all_nil)) (fun s=>by kernel_rfl)
def dX:=yi (T:=T) [⟨[(1,.ptr 0 0),(4,.own 1),(13,.yB 2 0 2 2),(14,.lit .i64 2),(15,.lit .i64 2)],zgO,[]⟩] [⟨(.exit 0),⟨[(4,.own 0)],[.row 9 true],[]⟩⟩]
theorem zJN:zN dX:=zQ _ _
theorem zKi(κ:Nat)(m:Int):zP Tryz.prog C (G m) Tryz.f17.ntmps 0 (zf (zG (.blk 0) (zC Tryz.f17))) (dX.cut wk (cur _ (zE.v23 κ))):=
 Piece.join zJN zY mixed (vH κ m) yp yN (cut:=zS) (X:=we) (zI (l:=[]) (by kernel_rfl) (all_nil)) (fun s=>by kernel_rfl)
def bN:=yi (T:=T) [⟨[(1,.ptr 0 0),(4,.own 1),(13,.yB 2 0 2 2),(14,.lit .i64 2),(15,.lit .i64 2)],zhM,[]⟩] [⟨(.exit 0),⟨[(4,.own 0)],[.row 9 true],[]⟩⟩]
theorem zLa:zN bN:=zQ _ _
theorem zK0(κ:Nat)(m:Int):zP Tryz.prog C (G m) Tryz.f17.ntmps 0 (zf (zG (.blk 0) (zC Tryz.f17))) (bN.cut wk (cur _ (zE.v24 κ))):=
 Piece.join zLa zY mixed (vH κ m) yp yN (cut:=zS) (X:=we) (zI (l:=[]) (by kernel_rfl) (all_nil)) (fun s=>by kernel_rfl)
def bR:=yi (T:=T) [⟨[(1,.ptr 0 0),(4,.own 1),(13,.yB 2 0 4 4),(14,.lit .i64 4),(15,.lit .i64 2)],zYt,[]⟩] [⟨.normal,⟨[(1,.ptr 0 0),(4,.own 1),(13,.yB 2 0 4 4),(14,.lit .i64 4),(15,.lit .i64 3)],zYt,[]⟩⟩,⟨.ret,⟨[(2,.s),(3,.b)],[],[]⟩⟩]
theorem zJm:zN bR:=zQ _ _
theorem zKX(κ:Nat)(m:Int):zP Tryz.prog C (G m) Tryz.f17.ntmps 0 (zf (zG (.blk 0) (zC Tryz.f17))) (bR.cut wk (cur _ (zE.v25 κ))):=
 Piece.join zJm zY mixed (zFK κ m) yp yN (cut:=zS) (X:=we) (zI (l:=[]) (by kernel_rfl) (all_nil)) (fun s=>by kernel_rfl)
def dC:=yi (T:=T) [⟨[(1,.ptr 0 0),(4,.own 1),(13,.yB 2 0 4 4),(14,.lit .i64 4),(15,.lit .i64 2)],zYe,[]⟩] [⟨.normal,⟨[(1,.ptr 0 0),(4,.own 1),(13,.yB 2 0 4 4),(14,.lit .i64 4),(15,.lit .i64 3)],zYe,[]⟩⟩]
theorem zJ2:zN dC:=zQ _ _
theorem zIg(κ:Nat)(m:Int):zP Tryz.prog C (G m) Tryz.f17.ntmps 0 (zf (zG (.blk 0) (zC Tryz.f17))) (dC.cut wk (cur _ (zE.v26 κ))):=
 Piece.join zJ2 zY mixed (zFK κ m) yp yN (cut:=zS) (X:=we) (zI (l:=[]) (by kernel_rfl) (all_nil)) (fun s=>by kernel_rfl)
def uz:=yi (T:=T) [⟨[(1,.ptr 0 0),(4,.own 1),(13,.yB 2 0 4 4),(14,.lit .i64 4),(15,.lit .i64 2)],zXQ,[]⟩] [⟨.normal,⟨[(1,.ptr 0 0),(4,.own 1),(13,.yB 2 0 4 4),(14,.lit .i64 4),(15,.lit .i64 3)],zXQ,[]⟩⟩]
theorem zJH:zN uz:=zQ _ _
theorem zKr(κ:Nat)(m:Int):zP Tryz.prog C (G m) Tryz.f17.ntmps 0 (zf (zG (.blk 0) (zC Tryz.f17))) (uz.cut wk (cur _ (zE.v27 κ))):=
 Piece.join zJH zY mixed (zFK κ m) yp yN (cut:=zS) (X:=we) (zI (l:=[]) (by kernel_rfl) (all_nil)) (fun s=>by kernel_rfl)
def bT:=yi (T:=T) [⟨[(1,.ptr 0 0),(4,.own 1),(13,.yB 2 0 5 5),(14,.lit .i64 5),(15,.lit .i64 2)],zU0,[]⟩] [⟨.normal,⟨[(1,.ptr 0 0),(4,.own 1),(13,.yB 2 0 5 5),(14,.lit .i64 5),(15,.lit .i64 3)],zU0,[]⟩⟩,⟨.ret,⟨[(2,.s),(3,.b)],[],[]⟩⟩]
theorem zKZ:zN bT:=zQ _ _
theorem zKD(κ:Nat)(m:Int):zP Tryz.prog C (G m) Tryz.f17.ntmps 0 (zf (zG (.blk 0) (zC Tryz.f17))) (bT.cut wk (cur _ (zE.v28 κ))):=
 Piece.join zKZ zY mixed (zMD κ m) yp yN (cut:=zS) (X:=we) (zI (l:=[]) (by kernel_rfl) (all_nil)) (fun s=>by kernel_rfl)
def bF:=yi (T:=T) [⟨[(1,.ptr 0 0),(4,.own 1),(13,.yB 2 0 3 3),(14,.lit .i64 3),(15,.lit .i64 2)],zcE,[]⟩] [⟨.normal,⟨[(1,.ptr 0 0),(4,.own 1),(13,.yB 2 0 3 3),(14,.lit .i64 3),(15,.lit .i64 3)],zcE,[]⟩⟩,⟨.ret,⟨[(2,.s),(3,.b)],[],[]⟩⟩]
theorem zIz:zN bF:=zQ _ _
theorem zK6(κ:Nat)(m:Int):zP Tryz.prog C (G m) Tryz.f17.ntmps 0 (zf (zG (.blk 0) (zC Tryz.f17))) (bF.cut wk (cur _ (zE.v29 κ))):=
 Piece.join zIz zY mixed (zMD κ m) yp yN (cut:=zS) (X:=we) (zI (l:=[]) (by kernel_rfl) (all_nil)) (fun s=>by kernel_rfl)
def pF:=yi (T:=T) [⟨[(1,.ptr 0 0),(4,.own 1),(13,.yB 2 0 3 3),(14,.lit .i64 3),(15,.lit .i64 2)],zcC,[]⟩] [⟨.normal,⟨[(1,.ptr 0 0),(4,.own 1),(13,.yB 2 0 3 3),(14,.lit .i64 3),(15,.lit .i64 3)],zcC,[]⟩⟩,⟨.ret,⟨[(2,.s),(3,.b)],[],[]⟩⟩]
theorem zJ8:zN pF:=zQ _ _
theorem zJu(κ:Nat)(m:Int):zP Tryz.prog C (G m) Tryz.f17.ntmps 0 (zf (zG (.blk 0) (zC Tryz.f17))) (pF.cut wk (cur _ (zE.v30 κ))):=
 Piece.join zJ8 zY mixed (zUA κ m) yp yN (cut:=zS) (X:=we) (zI (l:=[]) (by kernel_rfl) (all_nil)) (fun s=>by kernel_rfl)
def pB:=yi (T:=T) [⟨[(1,.ptr 0 0),(4,.own 1),(13,.yB 2 0 3 3),(14,.lit .i64 3),(15,.lit .i64 2)],zcp,[]⟩] [⟨.normal,⟨[(1,.ptr 0 0),(4,.own 1),(13,.yB 2 0 3 3),(14,.lit .i64 3),(15,.lit .i64 3)],zcp,[]⟩⟩,⟨.ret,⟨[(2,.s),(3,.b)],[],[]⟩⟩]
theorem zIw:zN pB:=zQ _ _
theorem zKM(κ:Nat)(m:Int):zP Tryz.prog C (G m) Tryz.f17.ntmps 0 (zf (zG (.blk 0) (zC Tryz.f17))) (pB.cut wk (cur _ (zE.v31 κ))):=
 Piece.join zIw zY mixed (zEg κ m) yp yN (cut:=zS) (X:=we) (zI (l:=[]) (by kernel_rfl) (all_nil)) (fun s=>by kernel_rfl)
def dS:=yi (T:=T) [⟨[(1,.ptr 0 0),(4,.own 1),(13,.yB 2 0 4 4),(14,.lit .i64 4),(15,.lit .i64 2)],zYM,[]⟩] [⟨.normal,⟨[(1,.ptr 0 0),(4,.own 1),(13,.yB 2 0 4 4),(14,.lit .i64 4),(15,.lit .i64 3)],zYM,[]⟩⟩,⟨.ret,⟨[(2,.s),(3,.b)],[],[]⟩⟩]
theorem zJU:zN dS:=zQ _ _
theorem zLT(κ:Nat)(m:Int):zP Tryz.prog C (G m) Tryz.f17.ntmps 0 (zf (zG (.blk 0) (zC Tryz.f17))) (dS.cut wk (cur _ (zE.v32 κ))):=
 Piece.join zJU zY mixed (zEg κ m) yp yN (cut:=zS) (X:=we) (zI (l:=[]) (by kernel_rfl) (all_nil)) (fun s=>by kernel_rfl)
def uu:=yi (T:=T) [⟨[(1,.ptr 0 0),(4,.own 1),(13,.yB 2 0 2 2),(14,.lit .i64 2),(15,.lit .i64 2)],zgk,[]⟩] [⟨(.exit 0),⟨[(4,.own 0)],[.row 9 true],[]⟩⟩]
theorem zJf:zN uu:=zQ _ _
theorem zIq(κ:Nat)(m:Int):zP Tryz.prog C (G m) Tryz.f17.ntmps 0 (zf (zG (.blk 0) (zC Tryz.f17))) (uu.cut wk (cur _ (zE.v33 κ))):=
 Piece.join zJf zY mixed (zEg κ m) yp yN (cut:=zS) (X:=we) (zI (l:=[]) (by kernel_rfl) (all_nil)) (fun s=>by kernel_rfl)
def pH:=yi (T:=T) [⟨[(1,.ptr 0 0),(4,.own 1),(13,.yB 2 0 4 4),(14,.lit .i64 4),(15,.lit .i64 3)],zYt,[]⟩] [⟨.normal,⟨[(1,.ptr 0 0),(4,.own 1),(13,.yB 2 0 4 4),(14,.lit .i64 4),(15,.lit .i64 4)],zYt,[]⟩⟩,⟨.ret,⟨[(2,.s),(3,.b)],[],[]⟩⟩]
theorem zJK:zN pH:=zQ _ _
theorem zIQ(κ:Nat)(m:Int):zP Tryz.prog C (G m) Tryz.f17.ntmps 0 (zf (zG (.blk 0) (zC Tryz.f17))) (pH.cut wk (cur _ (zE.v34 κ))):=
 Piece.join zJK zY mixed (zUW κ m) yp yN (cut:=zS) (X:=we) (zI (l:=[]) (by kernel_rfl) (all_nil)) (fun s=>by kernel_rfl)
def dy:=yi (T:=T) [⟨[(1,.ptr 0 0),(4,.own 1),(13,.yB 2 0 4 4),(14,.lit .i64 4),(15,.lit .i64 3)],zYe,[]⟩] [⟨.normal,⟨[(1,.ptr 0 0),(4,.own 1),(13,.yB 2 0 4 4),(14,.lit .i64 4),(15,.lit .i64 4)],zYe,[]⟩⟩,⟨.ret,⟨[(2,.s),(3,.b)],[],[]⟩⟩]
theorem zI3:zN dy:=zQ _ _
theorem zKt(κ:Nat)(m:Int):zP Tryz.prog C (G m) Tryz.f17.ntmps 0 (zf (zG (.blk 0) (zC Tryz.f17))) (dy.cut wk (cur _ (zE.v35 κ))):=
 Piece.join zI3 zY mixed (zTC κ m) yp yN (cut:=zS) (X:=we) (zI (l:=[]) (by kernel_rfl) (all_nil)) (fun s=>by kernel_rfl)
def pK:=yi (T:=T) [⟨[(1,.ptr 0 0),(4,.own 1),(13,.yB 2 0 4 4),(14,.lit .i64 4),(15,.lit .i64 3)],zXQ,[]⟩] [⟨.normal,⟨[(1,.ptr 0 0),(4,.own 1),(13,.yB 2 0 4 4),(14,.lit .i64 4),(15,.lit .i64 4)],zXQ,[]⟩⟩]
theorem zKO:zN pK:=zQ _ _
theorem zJG(κ:Nat)(m:Int):zP Tryz.prog C (G m) Tryz.f17.ntmps 0 (zf (zG (.blk 0) (zC Tryz.f17))) (pK.cut wk (cur _ (zE.v36 κ))):=
 Piece.join zKO zY mixed (zUs κ m) yp yN (cut:=zS) (X:=we) (zI (l:=[]) (by kernel_rfl) (all_nil)) (fun s=>by kernel_rfl)
def bu:=yi (T:=T) [⟨[(1,.ptr 0 0),(4,.own 1),(13,.yB 2 0 5 5),(14,.lit .i64 5),(15,.lit .i64 3)],zU0,[]⟩] [⟨.normal,⟨[(1,.ptr 0 0),(4,.own 1),(13,.yB 2 0 5 5),(14,.lit .i64 5),(15,.lit .i64 4)],zU0,[]⟩⟩,⟨.ret,⟨[(2,.s),(3,.b)],[],[]⟩⟩]
theorem zLU:zN bu:=zQ _ _
theorem zLR(κ:Nat)(m:Int):zP Tryz.prog C (G m) Tryz.f17.ntmps 0 (zf (zG (.blk 0) (zC Tryz.f17))) (bu.cut wk (cur _ (zE.v37 κ))):=
 Piece.join zLU zY mixed (zAP κ m) yp yN (cut:=zS) (X:=we) (zI (l:=[]) (by kernel_rfl) (all_nil)) (fun s=>by kernel_rfl)
def pI:=yi (T:=T) [⟨[(1,.ptr 0 0),(4,.own 1),(13,.yB 2 0 3 3),(14,.lit .i64 3),(15,.lit .i64 3)],zcE,[]⟩] [⟨(.exit 0),⟨[(4,.own 0)],[.row 9 true],[]⟩⟩]
theorem zIo:zN pI:=zQ _ _
theorem zJh(κ:Nat)(m:Int):zP Tryz.prog C (G m) Tryz.f17.ntmps 0 (zf (zG (.blk 0) (zC Tryz.f17))) (pI.cut wk (cur _ (zE.v38 κ))):=
 Piece.join zIo zY mixed (zAP κ m) yp yN (cut:=zS) (X:=we) (zI (l:=[]) (by kernel_rfl) (all_nil)) (fun s=>by kernel_rfl)
def b8:=yi (T:=T) [⟨[(1,.ptr 0 0),(4,.own 1),(13,.yB 2 0 3 3),(14,.lit .i64 3),(15,.lit .i64 3)],zcC,[]⟩] [⟨(.exit 0),⟨[(4,.own 0)],[.row 9 true],[]⟩⟩]
theorem zLL:zN b8:=zQ _ _
theorem zKT(κ:Nat)(m:Int):zP Tryz.prog C (G m) Tryz.f17.ntmps 0 (zf (zG (.blk 0) (zC Tryz.f17))) (b8.cut wk (cur _ (zE.v39 κ))):=
 Piece.join zLL zY mixed (zAP κ m) yp yN (cut:=zS) (X:=we) (zI (l:=[]) (by kernel_rfl) (all_nil)) (fun s=>by kernel_rfl)
def bB:=yi (T:=T) [⟨[(1,.ptr 0 0),(4,.own 1),(13,.yB 2 0 3 3),(14,.lit .i64 3),(15,.lit .i64 3)],zcp,[]⟩] [⟨(.exit 0),⟨[(4,.own 0)],[.row 9 true],[]⟩⟩]
theorem zI7:zN bB:=zQ _ _
theorem zIt(κ:Nat)(m:Int):zP Tryz.prog C (G m) Tryz.f17.ntmps 0 (zf (zG (.blk 0) (zC Tryz.f17))) (bB.cut wk (cur _ (zE.v40 κ))):=
 Piece.join zI7 zY mixed (zAP κ m) yp yN (cut:=zS) (X:=we) (zI (l:=[]) (by kernel_rfl) (all_nil)) (fun s=>by kernel_rfl)
def pQ:=yi (T:=T) [⟨[(1,.ptr 0 0),(4,.own 1),(13,.yB 2 0 4 4),(14,.lit .i64 4),(15,.lit .i64 3)],zYM,[]⟩] [⟨.normal,⟨[(1,.ptr 0 0),(4,.own 1),(13,.yB 2 0 4 4),(14,.lit .i64 4),(15,.lit .i64 4)],zYM,[]⟩⟩,⟨.ret,⟨[(2,.s),(3,.b)],[],[]⟩⟩]
theorem zLO:zN pQ:=zQ _ _
theorem zKs(κ:Nat)(m:Int):zP Tryz.prog C (G m) Tryz.f17.ntmps 0 (zf (zG (.blk 0) (zC Tryz.f17))) (pQ.cut wk (cur _ (zE.v41 κ))):=
 Piece.join zLO zY mixed (gF κ m) yp yN (cut:=zS) (X:=we) (zI (l:=[]) (by kernel_rfl) (all_nil)) (fun s=>by kernel_rfl)
def u9:=yi (T:=T) [⟨[(1,.ptr 0 0),(4,.own 1),(13,.yB 2 0 4 4),(14,.lit .i64 4),(15,.lit .i64 4)],zYt,[]⟩] [⟨(.exit 0),⟨[(4,.own 0)],[.row 9 true],[]⟩⟩]
theorem zIU:zN u9:=zQ _ _
theorem zIZ(κ:Nat)(m:Int):zP Tryz.prog C (G m) Tryz.f17.ntmps 0 (zf (zG (.blk 0) (zC Tryz.f17))) (u9.cut wk (cur _ (zE.v42 κ))):=
 Piece.join zIU zY mixed (gF κ m) yp yN (cut:=zS) (X:=we) (zI (l:=[]) (by kernel_rfl) (all_nil)) (fun s=>by kernel_rfl)
def dw:=yi (T:=T) [⟨[(1,.ptr 0 0),(4,.own 1),(13,.yB 2 0 4 4),(14,.lit .i64 4),(15,.lit .i64 4)],zYe,[]⟩] [⟨(.exit 0),⟨[(4,.own 0)],[.row 9 true],[]⟩⟩]
theorem zLc:zN dw:=zQ _ _
theorem zKg(κ:Nat)(m:Int):zP Tryz.prog C (G m) Tryz.f17.ntmps 0 (zf (zG (.blk 0) (zC Tryz.f17))) (dw.cut wk (cur _ (zE.v43 κ))):=
 Piece.join zLc zY mixed (gF κ m) yp yN (cut:=zS) (X:=we) (zI (l:=[]) (by kernel_rfl) (all_nil)) (fun s=>by kernel_rfl)
def pE:=yi (T:=T) [⟨[(1,.ptr 0 0),(4,.own 1),(13,.yB 2 0 4 4),(14,.lit .i64 4),(15,.lit .i64 4)],zXQ,[]⟩] [⟨(.exit 0),⟨[(4,.own 0)],[.row 9 true],[]⟩⟩]
theorem zKj:zN pE:=zQ _ _
theorem zJW(κ:Nat)(m:Int):zP Tryz.prog C (G m) Tryz.f17.ntmps 0 (zf (zG (.blk 0) (zC Tryz.f17))) (pE.cut wk (cur _ (zE.v44 κ))):=
 Piece.join zKj zY mixed (gF κ m) yp yN (cut:=zS) (X:=we) (zI (l:=[]) (by kernel_rfl) (all_nil)) (fun s=>by kernel_rfl)
def pN:=yi (T:=T) [⟨[(1,.ptr 0 0),(4,.own 1),(13,.yB 2 0 5 5),(14,.lit .i64 5),(15,.lit .i64 4)],zU0,[]⟩] [⟨.normal,⟨[(1,.ptr 0 0),(4,.own 1),(13,.yB 2 0 5 5),(14,.lit .i64 5),(15,.lit .i64 5)],zU0,[]⟩⟩,⟨.ret,⟨[(2,.s),(3,.b)],[],[]⟩⟩]
theorem zLE:zN pN:=zQ _ _
theorem zJ3(κ:Nat)(m:Int):zP Tryz.prog C (G m) Tryz.f17.ntmps 0 (zf (zG (.blk 0) (zC Tryz.f17))) (pN.cut wk (cur _ (zE.v45 κ))):=
 Piece.join zLE zY mixed (gF κ m) yp yN (cut:=zS) (X:=we) (zI (l:=[]) (by kernel_rfl) (all_nil)) (fun s=>by kernel_rfl)
def bK:=yi (T:=T) [⟨[(1,.ptr 0 0),(4,.own 1),(13,.yB 2 0 4 4),(14,.lit .i64 4),(15,.lit .i64 4)],zYM,[]⟩] [⟨(.exit 0),⟨[(4,.own 0)],[.row 9 true],[]⟩⟩]
theorem zLI:zN bK:=zQ _ _
theorem zIh(κ:Nat)(m:Int):zP Tryz.prog C (G m) Tryz.f17.ntmps 0 (zf (zG (.blk 0) (zC Tryz.f17))) (bK.cut wk (cur _ (zE.v46 κ))):=
 Piece.join zLI zY mixed (gF κ m) yp yN (cut:=zS) (X:=we) (zI (l:=[]) (by kernel_rfl) (all_nil)) (fun s=>by kernel_rfl)
def bf:=yi (T:=T) [⟨[(1,.ptr 0 0),(4,.own 1),(13,.yB 2 0 5 5),(14,.lit .i64 5),(15,.lit .i64 5)],zU0,[]⟩] [⟨(.exit 0),⟨[(4,.own 0)],[.row 9 true],[]⟩⟩]
theorem zIV:zN bf:=zQ _ _
theorem zK7(κ:Nat)(m:Int):zP Tryz.prog C (G m) Tryz.f17.ntmps 0 (zf (zG (.blk 0) (zC Tryz.f17))) (bf.cut wk (cur _ (zE.v47 κ))):=
 Piece.join zIV zY mixed (gF κ m) yp yN (cut:=zS) (X:=we) (zI (l:=[]) (by kernel_rfl) (all_nil)) (fun s=>by kernel_rfl)
def xa(κ:Nat):Cut T:=zYi (zBG.yG wk (cur _ (zE.v0 κ)) (zAT.yG wk (cur _ (zE.v1 κ)) (px.yG wk (cur _ (zE.v2 κ)) (zAV.yG wk (cur _ (zE.v3 κ)) (zA8.yG wk (cur _ (zE.v4 κ)) (zAW.yG wk (cur _ (zE.v5 κ)) (zAg.yG wk (cur _ (zE.v6 κ)) (zAH.yG wk (cur _ (zE.v7 κ)) (zBI.yG wk (cur _ (zE.v8 κ)) (zBF.yG wk (cur _ (zE.v9 κ)) (dx.yG wk (cur _ (zE.v10 κ)) (pT.yG wk (cur _ (zE.v11 κ)) (bY.yG wk (cur _ (zE.v12 κ)) (dJ.yG wk (cur _ (zE.v13 κ)) (dN.yG wk (cur _ (zE.v14 κ)) (bn.yG wk (cur _ (zE.v15 κ)) (dK.yG wk (cur _ (zE.v16 κ)) (pU.yG wk (cur _ (zE.v17 κ)) (u5.yG wk (cur _ (zE.v18 κ)) (bW.yG wk (cur _ (zE.v19 κ)) (dA.yG wk (cur _ (zE.v20 κ)) (df.yG wk (cur _ (zE.v21 κ)) (bj.yG wk (cur _ (zE.v22 κ)) (dX.yG wk (cur _ (zE.v23 κ)) (bN.yG wk (cur _ (zE.v24 κ)) (bR.yG wk (cur _ (zE.v25 κ)) (dC.yG wk (cur _ (zE.v26 κ)) (uz.yG wk (cur _ (zE.v27 κ)) (bT.yG wk (cur _ (zE.v28 κ)) (bF.yG wk (cur _ (zE.v29 κ)) (pF.yG wk (cur _ (zE.v30 κ)) (pB.yG wk (cur _ (zE.v31 κ)) (dS.yG wk (cur _ (zE.v32 κ)) (uu.yG wk (cur _ (zE.v33 κ)) (pH.yG wk (cur _ (zE.v34 κ)) (dy.yG wk (cur _ (zE.v35 κ)) (pK.yG wk (cur _ (zE.v36 κ)) (bu.yG wk (cur _ (zE.v37 κ)) (pI.yG wk (cur _ (zE.v38 κ)) (b8.yG wk (cur _ (zE.v39 κ)) (bB.yG wk (cur _ (zE.v40 κ)) (pQ.yG wk (cur _ (zE.v41 κ)) (u9.yG wk (cur _ (zE.v42 κ)) (dw.yG wk (cur _ (zE.v43 κ)) (pE.yG wk (cur _ (zE.v44 κ)) (pN.yG wk (cur _ (zE.v45 κ)) (bK.yG wk (cur _ (zE.v46 κ)) (bf.cut wk (cur _ (zE.v47 κ)))))))))))))))))))))))))))))))))))))))))))))))))) 0 6
theorem zHL(κ:Nat)(m:Int):zP Tryz.prog C (G m) Tryz.f17.ntmps 0 (zG (.blk 0) (zC Tryz.f17)) (xa κ):=zYH (body:=zf (zG (.blk 0) (zC Tryz.f17))) (Piece.yI (zL9 κ m) (Piece.yI (zL3 κ m) (Piece.yI (zL1 κ m) (Piece.yI (zM8 κ m) (Piece.yI (zMF κ m) (Piece.yI (zOE κ m) (Piece.yI (zMP κ m) (Piece.yI (zMy κ m) (Piece.yI (zMw κ m) (Piece.yI (zNa κ m) (Piece.yI (zK9 κ m) (Piece.yI (zJy κ m) (Piece.yI (zIm κ m) (Piece.yI (zIx κ m) (Piece.yI (zLB κ m) (Piece.yI (zKS κ m) (Piece.yI (zJs κ m) (Piece.yI (zKC κ m) (Piece.yI (zJc κ m) (Piece.yI (zIr κ m) (Piece.yI (zJp κ m) (Piece.yI (zIf κ m) (Piece.yI (zJM κ m) (Piece.yI (zKi κ m) (Piece.yI (zK0 κ m) (Piece.yI (zKX κ m) (Piece.yI (zIg κ m) (Piece.yI (zKr κ m) (Piece.yI (zKD κ m) (Piece.yI (zK6 κ m) (Piece.yI (zJu κ m) (Piece.yI (zKM κ m) (Piece.yI (zLT κ m) (Piece.yI (zIq κ m) (Piece.yI (zIQ κ m) (Piece.yI (zKt κ m) (Piece.yI (zJG κ m) (Piece.yI (zLR κ m) (Piece.yI (zJh κ m) (Piece.yI (zKT κ m) (Piece.yI (zIt κ m) (Piece.yI (zKs κ m) (Piece.yI (zIZ κ m) (Piece.yI (zKg κ m) (Piece.yI (zJW κ m) (Piece.yI (zJ3 κ m) (Piece.yI (zIh κ m) (zK7 κ m)))))))))))))))))))))))))))))))))))))))))))))))) 6
def zOJ(κ:Nat):Key→Option (Cut T):=zh zS (.blk 0) (xa κ)
def zCK:=vB (T:=T) zhe [] [⟨false,.qu [.s,.b],[]⟩]
theorem zP8:zo zCK:=zw _ _ _
theorem zVJ(κ:Nat)(m:Int):wM Tryz.prog C (G m) 17 (zCK.entry (cur _ (zE κ))):=
 Spec.ok zP8 zY mixed (zZR κ m) (cut:=(zOJ κ)) (NR:=(zW 0 [0])) (NP:=(zW 0 [0])) (nB:=0) Tryz.func17 (c:=(zC Tryz.f17)) (by kernel_rfl) (by kernel_rfl) (fun i=>by kernel_rfl) zF zF (zI (l:=[(zG (.blk 0) (zC Tryz.f17),xa κ)]) (by kernel_rfl) (all_cons (zHL κ m) (all_nil))) (fun i=>by kernel_rfl)
noncomputable def zir(κ:Nat):qK T:=(ziL κ).zj 17 zCK (cur _ (zE κ))
theorem zTG(κ:Nat)(m:Int):ql Tryz.prog C (G m) (zir κ):=(zZR κ m).zj (zVJ κ m)
def wi:=vB (T:=T) [.s,.s] [] [⟨false,.qu [.s,.s,.b],[]⟩]
theorem xI:zo wi:=zw _ _ _
theorem pf(κ:Nat)(m:Int):wM Tryz.prog C (G m) 53 (wi.entry (cur _ (wL κ))):=
 Spec.ok xI zY mixed (zTG κ m) (cut:=zS) (NR:=(zW 0 [0])) (NP:=(zW 0 [0])) (nB:=0) Tryz.func53 (c:=(zC Tryz.f53)) (by kernel_rfl) (by kernel_rfl) (fun i=>by kernel_rfl) zF zF (zI (l:=[]) (by kernel_rfl) (all_nil)) (fun i=>by kernel_rfl)
noncomputable def zi2(κ:Nat):qK T:=(zir κ).zj 53 wi (cur _ (wL κ))
theorem zYN(κ:Nat)(m:Int):ql Tryz.prog C (G m) (zi2 κ):=(zTG κ m).zj (pf κ m)
def zAs:=vB (T:=T) [.s,.s] [] [⟨false,.qu [.s,.s,.b],[]⟩]
theorem zM1:zo zAs:=zw _ _ _
theorem zUI(κ:Nat)(m:Int):wM Tryz.prog C (G m) 35 (zAs.entry (cur _ (strings_Cut κ))):=
 Spec.ok zM1 zY mixed (zYN κ m) (cut:=zS) (NR:=(zW 0 [0])) (NP:=(zW 0 [0])) (nB:=0) Tryz.func35 (c:=(zC Tryz.f35)) (by kernel_rfl) (by kernel_rfl) (fun i=>by kernel_rfl) zF zF (zI (l:=[]) (by kernel_rfl) (all_nil)) (fun i=>by kernel_rfl)
noncomputable def ziT(κ:Nat):qK T:=(zi2 κ).zj 35 zAs (cur _ (strings_Cut κ))
theorem zYn(κ:Nat)(m:Int):ql Tryz.prog C (G m) (ziT κ):=(zYN κ m).zj (zUI κ m)
def zCS:=vB (T:=T) [.ptr 0 0,.q9 74 (.s),.s] qe [⟨false,.b,qe⟩]
theorem zPp:zo zCS:=zw _ _ _
theorem zVV(κ:Nat)(m:Int):wM Tryz.prog C (G m) 36 (zCS.entry (cur _ (zTS κ))):=
 Spec.ok zPp zY mixed (zYn κ m) (cut:=zS) (NR:=(zW 1 [0])) (NP:=(zW 1 [0])) (nB:=1) Tryz.func36 (c:=(zC Tryz.f36)) (by kernel_rfl) (by kernel_rfl) (fun i=>by kernel_rfl) zF zF (zI (l:=[]) (by kernel_rfl) (all_nil)) (fun i=>by kernel_rfl)
noncomputable def zis(κ:Nat):qK T:=(ziT κ).zj 36 zCS (cur _ (zTS κ))
theorem zE5(κ:Nat)(m:Int):ql Tryz.prog C (G m) (zis κ):=(zYn κ m).zj (zVV κ m)
def bk:=vB (T:=T) [.ptr 0 0,.q9 78 (.agg []),.s] qe [⟨false,.b,qe⟩]
theorem zJT:zo bk:=zw _ _ _
theorem zSa(κ:Nat)(m:Int):wM Tryz.prog C (G m) 36 (bk.entry (cur _ (qg κ))):=
 Spec.ok zJT zY mixed (zE5 κ m) (cut:=zS) (NR:=(zW 1 [0])) (NP:=(zW 1 [0])) (nB:=1) Tryz.func36 (c:=(zC Tryz.f36)) (by kernel_rfl) (by kernel_rfl) (fun i=>by kernel_rfl) zF zF (zI (l:=[]) (by kernel_rfl) (all_nil)) (fun i=>by kernel_rfl)
noncomputable def zjF(κ:Nat):qK T:=(zis κ).zj 36 bk (cur _ (qg κ))
theorem j4(κ:Nat)(m:Int):ql Tryz.prog C (G m) (zjF κ):=(zE5 κ m).zj (zSa κ m)
def bJ:=vB (T:=T) [.ptr 0 0,.q9 89 (.agg []),.s] qe [⟨false,.b,qe⟩]
theorem zIM:zo bJ:=zw _ _ _
theorem zRE(κ:Nat)(m:Int):wM Tryz.prog C (G m) 36 (bJ.entry (cur _ (zDp κ))):=
 Spec.ok zIM zY mixed (j4 κ m) (cut:=zS) (NR:=(zW 1 [0])) (NP:=(zW 1 [0])) (nB:=1) Tryz.func36 (c:=(zC Tryz.f36)) (by kernel_rfl) (by kernel_rfl) (fun i=>by kernel_rfl) zF zF (zI (l:=[]) (by kernel_rfl) (all_nil)) (fun i=>by kernel_rfl)
noncomputable def zjB(κ:Nat):qK T:=(zjF κ).zj 36 bJ (cur _ (zDp κ))
theorem zTL(κ:Nat)(m:Int):ql Tryz.prog C (G m) (zjB κ):=(j4 κ m).zj (zRE κ m)
def bd:=vB (T:=T) [.ptr 0 0,.q9 82 (.fn 40 [] []),.s] qe [⟨false,.b,qe⟩]
theorem zJn:zo bd:=zw _ _ _
theorem zRl(κ:Nat)(m:Int):wM Tryz.prog C (G m) 36 (bd.entry (cur _ (vY κ))):=
 Spec.ok zJn zY mixed (zTL κ m) (cut:=zS) (NR:=(zW 1 [0])) (NP:=(zW 1 [0])) (nB:=1) Tryz.func36 (c:=(zC Tryz.f36)) (by kernel_rfl) (by kernel_rfl) (fun i=>by kernel_rfl) zF zF (zI (l:=[]) (by kernel_rfl) (all_nil)) (fun i=>by kernel_rfl)
noncomputable def ziA(κ:Nat):qK T:=(zjB κ).zj 36 bd (cur _ (vY κ))
theorem vD(κ:Nat)(m:Int):ql Tryz.prog C (G m) (ziA κ):=(zTL κ m).zj (zRl κ m)
def b9:=vB (T:=T) [.ptr 0 0,.q9 82 (.fn 43 [] []),.s] qe [⟨false,.b,qe⟩]
theorem zJJ:zo b9:=zw _ _ _
theorem zQ7(κ:Nat)(m:Int):wM Tryz.prog C (G m) 36 (b9.entry (cur _ (gP κ))):=
 Spec.ok zJJ zY mixed (vD κ m) (cut:=zS) (NR:=(zW 1 [0])) (NP:=(zW 1 [0])) (nB:=1) Tryz.func36 (c:=(zC Tryz.f36)) (by kernel_rfl) (by kernel_rfl) (fun i=>by kernel_rfl) zF zF (zI (l:=[]) (by kernel_rfl) (all_nil)) (fun i=>by kernel_rfl)
noncomputable def zh4(κ:Nat):qK T:=(ziA κ).zj 36 b9 (cur _ (gP κ))
theorem zFS(κ:Nat)(m:Int):ql Tryz.prog C (G m) (zh4 κ):=(vD κ m).zj (zQ7 κ m)
def dn:=vB (T:=T) [.ptr 0 0,.q9 86 (.agg [.s,.s,.fn 41 [] []]),.s] qe [⟨false,.b,qe⟩]
theorem zJ6:zo dn:=zw _ _ _
theorem zSY(κ:Nat)(m:Int):wM Tryz.prog C (G m) 36 (dn.entry (cur _ (ko κ))):=
 Spec.ok zJ6 zY mixed (zFS κ m) (cut:=zS) (NR:=(zW 1 [0])) (NP:=(zW 1 [0])) (nB:=1) Tryz.func36 (c:=(zC Tryz.f36)) (by kernel_rfl) (by kernel_rfl) (fun i=>by kernel_rfl) zF zF (zI (l:=[]) (by kernel_rfl) (all_nil)) (fun i=>by kernel_rfl)
noncomputable def ziS(κ:Nat):qK T:=(zh4 κ).zj 36 dn (cur _ (ko κ))
theorem zNr(κ:Nat)(m:Int):ql Tryz.prog C (G m) (ziS κ):=(zFS κ m).zj (zSY κ m)
def bV:=vB (T:=T) [.ptr 0 0,.q9 68 (.agg []),.s] qe [⟨false,.b,qe⟩]
theorem zLH:zo bV:=zw _ _ _
theorem zRN(κ:Nat)(m:Int):wM Tryz.prog C (G m) 36 (bV.entry (cur _ (gH κ))):=
 Spec.ok zLH zY mixed (zNr κ m) (cut:=zS) (NR:=(zW 1 [0])) (NP:=(zW 1 [0])) (nB:=1) Tryz.func36 (c:=(zC Tryz.f36)) (by kernel_rfl) (by kernel_rfl) (fun i=>by kernel_rfl) zF zF (zI (l:=[]) (by kernel_rfl) (all_nil)) (fun i=>by kernel_rfl)
noncomputable def ziG(κ:Nat):qK T:=(ziS κ).zj 36 bV (cur _ (gH κ))
theorem zTB(κ:Nat)(m:Int):ql Tryz.prog C (G m) (ziG κ):=(zNr κ m).zj (zRN κ m)
def bw:=vB (T:=T) [.ptr 0 0,.q9 79 (.agg []),.s] qe [⟨false,.b,[.cells 26 none [.i .i64,.i .i64,.own 1,.s,.i .u64,.b,.b,.s,.i .u64,.i .u64,.sl 5],.row 55 true]⟩]
theorem zLC:zo bw:=zw _ _ _
theorem zRV(κ:Nat)(m:Int):wM Tryz.prog C (G m) 36 (bw.entry (cur _ (jY κ))):=
 Spec.ok zLC zY mixed (zTB κ m) (cut:=zS) (NR:=(zW 1 [0])) (NP:=(zW 1 [0])) (nB:=1) Tryz.func36 (c:=(zC Tryz.f36)) (by kernel_rfl) (by kernel_rfl) (fun i=>by kernel_rfl) zF zF (zI (l:=[]) (by kernel_rfl) (all_nil)) (fun i=>by kernel_rfl)
noncomputable def zi9(κ:Nat):qK T:=(ziG κ).zj 36 bw (cur _ (jY κ))
theorem zEu(κ:Nat)(m:Int):ql Tryz.prog C (G m) (zi9 κ):=(zTB κ m).zj (zRV κ m)
def br:=vB (T:=T) [.ptr 0 0,.q9 82 (.fn 44 [] []),.s] qe [⟨false,.b,qe⟩]
theorem zKe:zo br:=zw _ _ _
theorem zRn(κ:Nat)(m:Int):wM Tryz.prog C (G m) 36 (br.entry (cur _ (kz κ))):=
 Spec.ok zKe zY mixed (zEu κ m) (cut:=zS) (NR:=(zW 1 [0])) (NP:=(zW 1 [0])) (nB:=1) Tryz.func36 (c:=(zC Tryz.f36)) (by kernel_rfl) (by kernel_rfl) (fun i=>by kernel_rfl) zF zF (zI (l:=[]) (by kernel_rfl) (all_nil)) (fun i=>by kernel_rfl)
noncomputable def ziD(κ:Nat):qK T:=(zi9 κ).zj 36 br (cur _ (kz κ))
theorem zFL(κ:Nat)(m:Int):ql Tryz.prog C (G m) (ziD κ):=(zEu κ m).zj (zRn κ m)
def bD:=yi (T:=T) [⟨[(0,.s),(4,.own 0),(5,.i .i64),(6,.i .i64),(7,.i .i64)],[.row 5 true],[]⟩] [⟨.normal,⟨[(0,.s),(4,.own 0),(5,.i .i64),(6,.i .i64),(7,.i .i64),(32,.b)],[.row 5 true],[]⟩⟩]
theorem zJ1:zN bD:=zQ _ _
theorem zKh(κ:Nat)(m:Int):zP Tryz.prog C (G m) Tryz.f56.ntmps 0 (zG (.reg 8) (zC Tryz.f56)) (bD.cut (zW 0 [0,4,5,6,7]) (cur _ (yX.v5 κ))):=
 Piece.join zJ1 zY mixed (zFL κ m) zF zhD (cut:=zS) (X:=znB) (zI (l:=[]) (by kernel_rfl) (all_nil)) (fun s=>by kernel_rfl)
def uH(κ:Nat):Cut T:=bD.cut (zW 0 [0,4,5,6,7]) (cur _ (yX.v5 κ))
theorem zGu(κ:Nat)(m:Int):zP Tryz.prog C (G m) Tryz.f56.ntmps 0 (zG (.reg 8) (zC Tryz.f56)) (uH κ):=zKh κ m
def zPe(κ:Nat):Key→Option (Cut T):=zh zS (.reg 8) (uH κ)
def db:=yi (T:=T) [⟨[(0,.s),(4,.own 0),(5,.i .i64)],[.row 5 true],[]⟩] [⟨.normal,⟨[(4,.own 0)],[.row 5 true],[]⟩⟩,⟨.ret,⟨[(2,.qG),(3,.b)],[],[]⟩⟩]
theorem zJS:zN db:=zQ _ _
theorem zK3(κ:Nat)(m:Int):zP Tryz.prog C (G m) Tryz.f56.ntmps 0 (zG (.blk 0) (zC Tryz.f56)) (db.cut nn3 (yX.l4 κ κ)):=
 Piece.loop zJS zY mixed (zFL κ m) zki zhG (cut:=(zPe κ)) (X:=zm0) (id:=0) (body:=zf (zG (.blk 0) (zC Tryz.f56))) (zI (l:=[(zG (.reg 8) (zC Tryz.f56),uH κ)]) (by kernel_rfl) (all_cons (zGu κ m) (all_nil))) (f:=yX.l4 κ) (fun s=>by kernel_rfl) (fun k s=>by kernel_rfl) κ
def gk(κ:Nat):Cut T:=db.cut nn3 (yX.l4 κ κ)
theorem zHz(κ:Nat)(m:Int):zP Tryz.prog C (G m) Tryz.f56.ntmps 0 (zG (.blk 0) (zC Tryz.f56)) (gk κ):=zK3 κ m
def zOK(κ:Nat):Key→Option (Cut T):=zh zS (.blk 0) (gk κ)
def zAn:=vB (T:=T) [.s] [] [⟨false,.qu [.own 0,.b],[.row 5 true]⟩]
theorem zMz:zo zAn:=zw _ _ _
theorem zTk(κ:Nat)(m:Int):wM Tryz.prog C (G m) 56 (zAn.entry (fun a0=>yX κ a0)):=
 Spec.ok zMz zY mixed (zFL κ m) (cut:=(zOK κ)) (NR:=(jO (zSn 0 [0] 5) (zW 0 [0]))) (NP:=(zW 0 [0])) (nB:=0) Tryz.func56 (c:=(zC Tryz.f56)) (by kernel_rfl) (by kernel_rfl) (fun i=>by kernel_rfl) (y7 zFb zF) zF (zI (l:=[(zG (.blk 0) (zC Tryz.f56),gk κ)]) (by kernel_rfl) (all_cons (zHz κ m) (all_nil))) (fun i=>by kernel_rfl)
noncomputable def zhx(κ:Nat):qK T:=(ziD κ).zj 56 zAn (fun a0=>yX κ a0)
theorem zXy(κ:Nat)(m:Int):ql Tryz.prog C (G m) (zhx κ):=(zFL κ m).zj (zTk κ m)
def gl:=vB (T:=T) [.ptr 0 0,.q9 88 (.agg []),.s] qe [⟨false,.b,[.cells 26 none [.i .i64,.i .i64,.sl 55,.s,.i .u64,.b,.b,.s,.i .u64,.i .u64,.own 1],.row 5 true]⟩]
theorem zHB:zo gl:=zw _ _ _
theorem zPg(κ:Nat)(m:Int):wM Tryz.prog C (G m) 36 (gl.entry (cur _ (jt κ))):=
 Spec.ok zHB zY mixed (zXy κ m) (cut:=zS) (NR:=(zW 1 [0])) (NP:=(zW 1 [0])) (nB:=1) Tryz.func36 (c:=(zC Tryz.f36)) (by kernel_rfl) (by kernel_rfl) (fun i=>by kernel_rfl) zF zF (zI (l:=[]) (by kernel_rfl) (all_nil)) (fun i=>by kernel_rfl)
noncomputable def ziz(κ:Nat):qK T:=(zhx κ).zj 36 gl (cur _ (jt κ))
theorem zT2(κ:Nat)(m:Int):ql Tryz.prog C (G m) (ziz κ):=(zXy κ m).zj (zPg κ m)
def uB:=vB (T:=T) [.ptr 0 0,.q9 87 (.agg []),.s] qe [⟨false,.b,[.cells 26 none [.i .i64,.i .i64,.sl 55,.s,.i .u64,.b,.b,.s,.i .u64,.i .u64,.own 1],.row 5 true]⟩]
theorem zG7:zo uB:=zw _ _ _
theorem zOg(κ:Nat)(m:Int):wM Tryz.prog C (G m) 36 (uB.entry (cur _ (j3 κ))):=
 Spec.ok zG7 zY mixed (zT2 κ m) (cut:=zS) (NR:=(zW 1 [0])) (NP:=(zW 1 [0])) (nB:=1) Tryz.func36 (c:=(zC Tryz.f36)) (by kernel_rfl) (by kernel_rfl) (fun i=>by kernel_rfl) zF zF (zI (l:=[]) (by kernel_rfl) (all_nil)) (fun i=>by kernel_rfl)
noncomputable def zhv(κ:Nat):qK T:=(ziz κ).zj 36 uB (cur _ (j3 κ))
theorem zSv(κ:Nat)(m:Int):ql Tryz.prog C (G m) (zhv κ):=(zT2 κ m).zj (zOg κ m)
def xY:=vB (T:=T) [.ptr 0 0,.q9 86 (.agg [.s,.s,.fn 42 [] []]),.s] qe [⟨false,.b,qe⟩]
theorem zHg:zo xY:=zw _ _ _
theorem zPf(κ:Nat)(m:Int):wM Tryz.prog C (G m) 36 (xY.entry (cur _ (kF κ))):=
 Spec.ok zHg zY mixed (zSv κ m) (cut:=zS) (NR:=(zW 1 [0])) (NP:=(zW 1 [0])) (nB:=1) Tryz.func36 (c:=(zC Tryz.f36)) (by kernel_rfl) (by kernel_rfl) (fun i=>by kernel_rfl) zF zF (zI (l:=[]) (by kernel_rfl) (all_nil)) (fun i=>by kernel_rfl)
noncomputable def zi4(κ:Nat):qK T:=(zhv κ).zj 36 xY (cur _ (kF κ))
theorem zCr(κ:Nat)(m:Int):ql Tryz.prog C (G m) (zi4 κ):=(zSv κ m).zj (zPf κ m)
def xm:=vB (T:=T) [.ptr 0 0,.q9 80 (.agg []),.s] qe [⟨false,.b,qe⟩]
theorem zGn:zo xm:=zw _ _ _
theorem zQO(κ:Nat)(m:Int):wM Tryz.prog C (G m) 36 (xm.entry (cur _ (zCD κ))):=
 Spec.ok zGn zY mixed (zCr κ m) (cut:=zS) (NR:=(zW 1 [0])) (NP:=(zW 1 [0])) (nB:=1) Tryz.func36 (c:=(zC Tryz.f36)) (by kernel_rfl) (by kernel_rfl) (fun i=>by kernel_rfl) zF zF (zI (l:=[]) (by kernel_rfl) (all_nil)) (fun i=>by kernel_rfl)
noncomputable def zjE(κ:Nat):qK T:=(zi4 κ).zj 36 xm (cur _ (zCD κ))
theorem jy(κ:Nat)(m:Int):ql Tryz.prog C (G m) (zjE κ):=(zCr κ m).zj (zQO κ m)
def dM:=yi (T:=T) [⟨[(0,.i .i64),(1,.s),(4,.ptr 0 0),(6,.ptr 1 0),(7,.qG),(21,.qG),(22,.lit .i64 0),(23,.lit .i64 0)],pg,[]⟩] [⟨(.exit 0),⟨[(4,.ptr 0 0),(6,.ptr 1 0)],pg,[]⟩⟩]
theorem zId:zN dM:=zQ _ _
theorem zKu(κ:Nat)(m:Int):zP Tryz.prog C (G m) Tryz.f18.ntmps 0 (zf (zG (.blk 0) (zC Tryz.f18))) (dM.cut wm (cur _ (zA.v0 κ))):=
 Piece.join zId zY mixed (zTG κ m) yo yO (cut:=zS) (X:=wb) (zI (l:=[]) (by kernel_rfl) (all_nil)) (fun s=>by kernel_rfl)
def bC:=yi (T:=T) [⟨[(0,.i .i64),(1,.s),(4,.ptr 0 0),(6,.ptr 1 0),(7,.yB 2 0 2 2),(21,.yB 2 0 2 2),(22,.lit .i64 2),(23,.lit .i64 0)],zdr,[]⟩] [⟨.normal,⟨[(0,.i .i64),(1,.s),(4,.ptr 0 0),(6,.ptr 1 0),(7,.yB 2 0 2 2),(21,.yB 2 0 2 2),(22,.lit .i64 2),(23,.lit .i64 1)],zdr,[]⟩⟩,⟨.ret,⟨[(4,.ptr 0 0),(5,.b)],vv,[]⟩⟩,⟨(.exit 0),⟨[(4,.ptr 0 0),(6,.ptr 1 0)],pg,[]⟩⟩]
theorem zKL:zN bC:=zQ _ _
theorem zJ9(κ:Nat)(m:Int):zP Tryz.prog C (G m) Tryz.f18.ntmps 0 (zf (zG (.blk 0) (zC Tryz.f18))) (bC.cut wm (cur _ (zA.v1 κ))):=
 Piece.join zKL zY mixed (zE5 κ m) yo yO (cut:=zS) (X:=wb) (zI (l:=[]) (by kernel_rfl) (all_nil)) (fun s=>by kernel_rfl)
def dm:=yi (T:=T) [⟨[(0,.i .i64),(1,.s),(4,.ptr 0 0),(6,.ptr 1 0),(7,.yB 2 0 2 2),(21,.yB 2 0 2 2),(22,.lit .i64 2),(23,.lit .i64 0)],zeN,[]⟩] [⟨.normal,⟨[(0,.i .i64),(1,.s),(4,.ptr 0 0),(6,.ptr 1 0),(7,.yB 2 0 2 2),(21,.yB 2 0 2 2),(22,.lit .i64 2),(23,.lit .i64 1)],zeN,[]⟩⟩,⟨.ret,⟨[(4,.ptr 0 0),(5,.b)],vv,[]⟩⟩,⟨(.exit 0),⟨[(4,.ptr 0 0),(6,.ptr 1 0)],pg,[]⟩⟩]
theorem zJw:zN dm:=zQ _ _
theorem zJx(κ:Nat)(m:Int):zP Tryz.prog C (G m) Tryz.f18.ntmps 0 (zf (zG (.blk 0) (zC Tryz.f18))) (dm.cut wm (cur _ (zA.v2 κ))):=
 Piece.join zJw zY mixed (zE5 κ m) yo yO (cut:=zS) (X:=wb) (zI (l:=[]) (by kernel_rfl) (all_nil)) (fun s=>by kernel_rfl)
def bq:=yi (T:=T) [⟨[(0,.i .i64),(1,.s),(4,.ptr 0 0),(6,.ptr 1 0),(7,.yB 2 0 4 4),(21,.yB 2 0 4 4),(22,.lit .i64 4),(23,.lit .i64 0)],zWj,[]⟩] [⟨.normal,⟨[(0,.i .i64),(1,.s),(4,.ptr 0 0),(6,.ptr 1 0),(7,.yB 2 0 4 4),(21,.yB 2 0 4 4),(22,.lit .i64 4),(23,.lit .i64 1)],zWj,[]⟩⟩,⟨.ret,⟨[(4,.ptr 0 0),(5,.b)],vv,[]⟩⟩]
theorem zIl:zN bq:=zQ _ _
theorem zJE(κ:Nat)(m:Int):zP Tryz.prog C (G m) Tryz.f18.ntmps 0 (zf (zG (.blk 0) (zC Tryz.f18))) (bq.cut wm (cur _ (zA.v3 κ))):=
 Piece.join zIl zY mixed (zE5 κ m) yo yO (cut:=zS) (X:=wb) (zI (l:=[]) (by kernel_rfl) (all_nil)) (fun s=>by kernel_rfl)
def uq:=yi (T:=T) [⟨[(0,.i .i64),(1,.s),(4,.ptr 0 0),(6,.ptr 1 0),(7,.yB 2 0 4 4),(21,.yB 2 0 4 4),(22,.lit .i64 4),(23,.lit .i64 0)],zW5,[]⟩] [⟨.normal,⟨[(0,.i .i64),(1,.s),(4,.ptr 0 0),(6,.ptr 1 0),(7,.yB 2 0 4 4),(21,.yB 2 0 4 4),(22,.lit .i64 4),(23,.lit .i64 1)],zW5,[]⟩⟩,⟨.ret,⟨[(4,.ptr 0 0),(5,.b)],vv,[]⟩⟩]
theorem zJg:zN uq:=zQ _ _
theorem zIR(κ:Nat)(m:Int):zP Tryz.prog C (G m) Tryz.f18.ntmps 0 (zf (zG (.blk 0) (zC Tryz.f18))) (uq.cut wm (cur _ (zA.v4 κ))):=
 Piece.join zJg zY mixed (j4 κ m) yo yO (cut:=zS) (X:=wb) (zI (l:=[]) (by kernel_rfl) (all_nil)) (fun s=>by kernel_rfl)
def bL:=yi (T:=T) [⟨[(0,.i .i64),(1,.s),(4,.ptr 0 0),(6,.ptr 1 0),(7,.yB 2 0 4 4),(21,.yB 2 0 4 4),(22,.lit .i64 4),(23,.lit .i64 0)],zWO,[]⟩] [⟨.normal,⟨[(0,.i .i64),(1,.s),(4,.ptr 0 0),(6,.ptr 1 0),(7,.yB 2 0 4 4),(21,.yB 2 0 4 4),(22,.lit .i64 4),(23,.lit .i64 1)],zWO,[]⟩⟩,⟨.ret,⟨[(4,.ptr 0 0),(5,.b)],vv,[]⟩⟩]
theorem zJI:zN bL:=zQ _ _
theorem zKc(κ:Nat)(m:Int):zP Tryz.prog C (G m) Tryz.f18.ntmps 0 (zf (zG (.blk 0) (zC Tryz.f18))) (bL.cut wm (cur _ (zA.v5 κ))):=
 Piece.join zJI zY mixed (j4 κ m) yo yO (cut:=zS) (X:=wb) (zI (l:=[]) (by kernel_rfl) (all_nil)) (fun s=>by kernel_rfl)
def dU:=yi (T:=T) [⟨[(0,.i .i64),(1,.s),(4,.ptr 0 0),(6,.ptr 1 0),(7,.yB 2 0 5 5),(21,.yB 2 0 5 5),(22,.lit .i64 5),(23,.lit .i64 0)],zTl,[]⟩] [⟨.normal,⟨[(0,.i .i64),(1,.s),(4,.ptr 0 0),(6,.ptr 1 0),(7,.yB 2 0 5 5),(21,.yB 2 0 5 5),(22,.lit .i64 5),(23,.lit .i64 1)],zTl,[]⟩⟩,⟨.ret,⟨[(4,.ptr 0 0),(5,.b)],vv,[]⟩⟩]
theorem zIi:zN dU:=zQ _ _
theorem zKy(κ:Nat)(m:Int):zP Tryz.prog C (G m) Tryz.f18.ntmps 0 (zf (zG (.blk 0) (zC Tryz.f18))) (dU.cut wm (cur _ (zA.v6 κ))):=
 Piece.join zIi zY mixed (j4 κ m) yo yO (cut:=zS) (X:=wb) (zI (l:=[]) (by kernel_rfl) (all_nil)) (fun s=>by kernel_rfl)
def pM:=yi (T:=T) [⟨[(0,.i .i64),(1,.s),(4,.ptr 0 0),(6,.ptr 1 0),(7,.yB 2 0 3 3),(21,.yB 2 0 3 3),(22,.lit .i64 3),(23,.lit .i64 0)],zZm,[]⟩] [⟨.normal,⟨[(0,.i .i64),(1,.s),(4,.ptr 0 0),(6,.ptr 1 0),(7,.yB 2 0 3 3),(21,.yB 2 0 3 3),(22,.lit .i64 3),(23,.lit .i64 1)],zZm,[]⟩⟩,⟨.ret,⟨[(4,.ptr 0 0),(5,.b)],vv,[]⟩⟩]
theorem zKz:zN pM:=zQ _ _
theorem zKN(κ:Nat)(m:Int):zP Tryz.prog C (G m) Tryz.f18.ntmps 0 (zf (zG (.blk 0) (zC Tryz.f18))) (pM.cut wm (cur _ (zA.v7 κ))):=
 Piece.join zKz zY mixed (j4 κ m) yo yO (cut:=zS) (X:=wb) (zI (l:=[]) (by kernel_rfl) (all_nil)) (fun s=>by kernel_rfl)
def dz:=yi (T:=T) [⟨[(0,.i .i64),(1,.s),(4,.ptr 0 0),(6,.ptr 1 0),(7,.yB 2 0 3 3),(21,.yB 2 0 3 3),(22,.lit .i64 3),(23,.lit .i64 0)],zaS,[]⟩] [⟨.normal,⟨[(0,.i .i64),(1,.s),(4,.ptr 0 0),(6,.ptr 1 0),(7,.yB 2 0 3 3),(21,.yB 2 0 3 3),(22,.lit .i64 3),(23,.lit .i64 1)],zaS,[]⟩⟩,⟨.ret,⟨[(4,.ptr 0 0),(5,.b)],vv,[]⟩⟩]
theorem zKp:zN dz:=zQ _ _
theorem zIv(κ:Nat)(m:Int):zP Tryz.prog C (G m) Tryz.f18.ntmps 0 (zf (zG (.blk 0) (zC Tryz.f18))) (dz.cut wm (cur _ (zA.v8 κ))):=
 Piece.join zKp zY mixed (j4 κ m) yo yO (cut:=zS) (X:=wb) (zI (l:=[]) (by kernel_rfl) (all_nil)) (fun s=>by kernel_rfl)
def ux:=yi (T:=T) [⟨[(0,.i .i64),(1,.s),(4,.ptr 0 0),(6,.ptr 1 0),(7,.yB 2 0 3 3),(21,.yB 2 0 3 3),(22,.lit .i64 3),(23,.lit .i64 0)],zaN,[]⟩] [⟨.normal,⟨[(0,.i .i64),(1,.s),(4,.ptr 0 0),(6,.ptr 1 0),(7,.yB 2 0 3 3),(21,.yB 2 0 3 3),(22,.lit .i64 3),(23,.lit .i64 1)],zaN,[]⟩⟩,⟨.ret,⟨[(4,.ptr 0 0),(5,.b)],vv,[]⟩⟩]
theorem zIe:zN ux:=zQ _ _
theorem zJi(κ:Nat)(m:Int):zP Tryz.prog C (G m) Tryz.f18.ntmps 0 (zf (zG (.blk 0) (zC Tryz.f18))) (ux.cut wm (cur _ (zA.v9 κ))):=
 Piece.join zIe zY mixed (j4 κ m) yo yO (cut:=zS) (X:=wb) (zI (l:=[]) (by kernel_rfl) (all_nil)) (fun s=>by kernel_rfl)
def gv:=yi (T:=T) [⟨[(0,.i .i64),(1,.s),(4,.ptr 0 0),(6,.ptr 1 0),(7,.yB 2 0 4 4),(21,.yB 2 0 4 4),(22,.lit .i64 4),(23,.lit .i64 0)],zWD,[]⟩] [⟨.normal,⟨[(0,.i .i64),(1,.s),(4,.ptr 0 0),(6,.ptr 1 0),(7,.yB 2 0 4 4),(21,.yB 2 0 4 4),(22,.lit .i64 4),(23,.lit .i64 1)],zWD,[]⟩⟩,⟨.ret,⟨[(4,.ptr 0 0),(5,.b)],vv,[]⟩⟩]
theorem zHE:zN gv:=zQ _ _
theorem zG3(κ:Nat)(m:Int):zP Tryz.prog C (G m) Tryz.f18.ntmps 0 (zf (zG (.blk 0) (zC Tryz.f18))) (gv.cut wm (cur _ (zA.v10 κ))):=
 Piece.join zHE zY mixed (j4 κ m) yo yO (cut:=zS) (X:=wb) (zI (l:=[]) (by kernel_rfl) (all_nil)) (fun s=>by kernel_rfl)
def uJ:=yi (T:=T) [⟨[(0,.i .i64),(1,.s),(4,.ptr 0 0),(6,.ptr 1 0),(7,.yB 2 0 2 2),(21,.yB 2 0 2 2),(22,.lit .i64 2),(23,.lit .i64 0)],zeV,[]⟩] [⟨.normal,⟨[(0,.i .i64),(1,.s),(4,.ptr 0 0),(6,.ptr 1 0),(7,.yB 2 0 2 2),(21,.yB 2 0 2 2),(22,.lit .i64 2),(23,.lit .i64 1)],zeV,[]⟩⟩,⟨.ret,⟨[(4,.ptr 0 0),(5,.b)],vv,[]⟩⟩]
theorem zG5:zN uJ:=zQ _ _
theorem zGN(κ:Nat)(m:Int):zP Tryz.prog C (G m) Tryz.f18.ntmps 0 (zf (zG (.blk 0) (zC Tryz.f18))) (uJ.cut wm (cur _ (zA.v11 κ))):=
 Piece.join zG5 zY mixed (j4 κ m) yo yO (cut:=zS) (X:=wb) (zI (l:=[]) (by kernel_rfl) (all_nil)) (fun s=>by kernel_rfl)
def xf:=yi (T:=T) [⟨[(0,.i .i64),(1,.s),(4,.ptr 0 0),(6,.ptr 1 0),(7,.yB 2 0 2 2),(21,.yB 2 0 2 2),(22,.lit .i64 2),(23,.lit .i64 1)],zdr,[]⟩] [⟨.normal,⟨[(0,.i .i64),(1,.s),(4,.ptr 0 0),(6,.ptr 1 0),(7,.yB 2 0 2 2),(21,.yB 2 0 2 2),(22,.lit .i64 2),(23,.lit .i64 2)],zdr,[]⟩⟩]
theorem zGY:zN xf:=zQ _ _
theorem zGc(κ:Nat)(m:Int):zP Tryz.prog C (G m) Tryz.f18.ntmps 0 (zf (zG (.blk 0) (zC Tryz.f18))) (xf.cut wm (cur _ (zA.v12 κ))):=
 Piece.join zGY zY mixed (zTL κ m) yo yO (cut:=zS) (X:=wb) (zI (l:=[]) (by kernel_rfl) (all_nil)) (fun s=>by kernel_rfl)
def uD:=yi (T:=T) [⟨[(0,.i .i64),(1,.s),(4,.ptr 0 0),(6,.ptr 1 0),(7,.yB 2 0 2 2),(21,.yB 2 0 2 2),(22,.lit .i64 2),(23,.lit .i64 1)],zeN,[]⟩] [⟨.normal,⟨[(0,.i .i64),(1,.s),(4,.ptr 0 0),(6,.ptr 1 0),(7,.yB 2 0 2 2),(21,.yB 2 0 2 2),(22,.lit .i64 2),(23,.lit .i64 2)],zeN,[]⟩⟩,⟨.ret,⟨[(4,.ptr 0 0),(5,.b)],vv,[]⟩⟩]
theorem zF9:zN uD:=zQ _ _
theorem zGH(κ:Nat)(m:Int):zP Tryz.prog C (G m) Tryz.f18.ntmps 0 (zf (zG (.blk 0) (zC Tryz.f18))) (uD.cut wm (cur _ (zA.v13 κ))):=
 Piece.join zF9 zY mixed (vD κ m) yo yO (cut:=zS) (X:=wb) (zI (l:=[]) (by kernel_rfl) (all_nil)) (fun s=>by kernel_rfl)
def uC:=yi (T:=T) [⟨[(0,.i .i64),(1,.s),(4,.ptr 0 0),(6,.ptr 1 0),(7,.yB 2 0 4 4),(21,.yB 2 0 4 4),(22,.lit .i64 4),(23,.lit .i64 1)],zWj,[]⟩] [⟨.normal,⟨[(0,.i .i64),(1,.s),(4,.ptr 0 0),(6,.ptr 1 0),(7,.yB 2 0 4 4),(21,.yB 2 0 4 4),(22,.lit .i64 4),(23,.lit .i64 2)],zWj,[]⟩⟩,⟨.ret,⟨[(4,.ptr 0 0),(5,.b)],vv,[]⟩⟩]
theorem zG2:zN uC:=zQ _ _
theorem zHn(κ:Nat)(m:Int):zP Tryz.prog C (G m) Tryz.f18.ntmps 0 (zf (zG (.blk 0) (zC Tryz.f18))) (uC.cut wm (cur _ (zA.v14 κ))):=
 Piece.join zG2 zY mixed (vD κ m) yo yO (cut:=zS) (X:=wb) (zI (l:=[]) (by kernel_rfl) (all_nil)) (fun s=>by kernel_rfl)
def gj:=yi (T:=T) [⟨[(0,.i .i64),(1,.s),(4,.ptr 0 0),(6,.ptr 1 0),(7,.yB 2 0 4 4),(21,.yB 2 0 4 4),(22,.lit .i64 4),(23,.lit .i64 1)],zW5,[]⟩] [⟨.normal,⟨[(0,.i .i64),(1,.s),(4,.ptr 0 0),(6,.ptr 1 0),(7,.yB 2 0 4 4),(21,.yB 2 0 4 4),(22,.lit .i64 4),(23,.lit .i64 2)],zW5,[]⟩⟩,⟨.ret,⟨[(4,.ptr 0 0),(5,.b)],vv,[]⟩⟩]
theorem zGh:zN gj:=zQ _ _
theorem zGF(κ:Nat)(m:Int):zP Tryz.prog C (G m) Tryz.f18.ntmps 0 (zf (zG (.blk 0) (zC Tryz.f18))) (gj.cut wm (cur _ (zA.v15 κ))):=
 Piece.join zGh zY mixed (vD κ m) yo yO (cut:=zS) (X:=wb) (zI (l:=[]) (by kernel_rfl) (all_nil)) (fun s=>by kernel_rfl)
def uP:=yi (T:=T) [⟨[(0,.i .i64),(1,.s),(4,.ptr 0 0),(6,.ptr 1 0),(7,.yB 2 0 4 4),(21,.yB 2 0 4 4),(22,.lit .i64 4),(23,.lit .i64 1)],zWO,[]⟩] [⟨.normal,⟨[(0,.i .i64),(1,.s),(4,.ptr 0 0),(6,.ptr 1 0),(7,.yB 2 0 4 4),(21,.yB 2 0 4 4),(22,.lit .i64 4),(23,.lit .i64 2)],zWO,[]⟩⟩,⟨.ret,⟨[(4,.ptr 0 0),(5,.b)],vv,[]⟩⟩]
theorem zHp:zN uP:=zQ _ _
theorem zHl(κ:Nat)(m:Int):zP Tryz.prog C (G m) Tryz.f18.ntmps 0 (zf (zG (.blk 0) (zC Tryz.f18))) (uP.cut wm (cur _ (zA.v16 κ))):=
 Piece.join zHp zY mixed (vD κ m) yo yO (cut:=zS) (X:=wb) (zI (l:=[]) (by kernel_rfl) (all_nil)) (fun s=>by kernel_rfl)
def xU:=yi (T:=T) [⟨[(0,.i .i64),(1,.s),(4,.ptr 0 0),(6,.ptr 1 0),(7,.yB 2 0 5 5),(21,.yB 2 0 5 5),(22,.lit .i64 5),(23,.lit .i64 1)],zTl,[]⟩] [⟨.normal,⟨[(0,.i .i64),(1,.s),(4,.ptr 0 0),(6,.ptr 1 0),(7,.yB 2 0 5 5),(21,.yB 2 0 5 5),(22,.lit .i64 5),(23,.lit .i64 2)],zTl,[]⟩⟩,⟨.ret,⟨[(4,.ptr 0 0),(5,.b)],vv,[]⟩⟩]
theorem zHI:zN xU:=zQ _ _
theorem zHA(κ:Nat)(m:Int):zP Tryz.prog C (G m) Tryz.f18.ntmps 0 (zf (zG (.blk 0) (zC Tryz.f18))) (xU.cut wm (cur _ (zA.v17 κ))):=
 Piece.join zHI zY mixed (vD κ m) yo yO (cut:=zS) (X:=wb) (zI (l:=[]) (by kernel_rfl) (all_nil)) (fun s=>by kernel_rfl)
def uO:=yi (T:=T) [⟨[(0,.i .i64),(1,.s),(4,.ptr 0 0),(6,.ptr 1 0),(7,.yB 2 0 3 3),(21,.yB 2 0 3 3),(22,.lit .i64 3),(23,.lit .i64 1)],zZm,[]⟩] [⟨.normal,⟨[(0,.i .i64),(1,.s),(4,.ptr 0 0),(6,.ptr 1 0),(7,.yB 2 0 3 3),(21,.yB 2 0 3 3),(22,.lit .i64 3),(23,.lit .i64 2)],zZm,[]⟩⟩,⟨.ret,⟨[(4,.ptr 0 0),(5,.b)],vv,[]⟩⟩,⟨(.exit 0),⟨[(4,.ptr 0 0),(6,.ptr 1 0)],pg,[]⟩⟩]
theorem zGv:zN uO:=zQ _ _
theorem zGX(κ:Nat)(m:Int):zP Tryz.prog C (G m) Tryz.f18.ntmps 0 (zf (zG (.blk 0) (zC Tryz.f18))) (uO.cut wm (cur _ (zA.v18 κ))):=
 Piece.join zGv zY mixed (vD κ m) yo yO (cut:=zS) (X:=wb) (zI (l:=[]) (by kernel_rfl) (all_nil)) (fun s=>by kernel_rfl)
def gp:=yi (T:=T) [⟨[(0,.i .i64),(1,.s),(4,.ptr 0 0),(6,.ptr 1 0),(7,.yB 2 0 3 3),(21,.yB 2 0 3 3),(22,.lit .i64 3),(23,.lit .i64 1)],zaS,[]⟩] [⟨.normal,⟨[(0,.i .i64),(1,.s),(4,.ptr 0 0),(6,.ptr 1 0),(7,.yB 2 0 3 3),(21,.yB 2 0 3 3),(22,.lit .i64 3),(23,.lit .i64 2)],zaS,[]⟩⟩,⟨.ret,⟨[(4,.ptr 0 0),(5,.b)],vv,[]⟩⟩,⟨(.exit 0),⟨[(4,.ptr 0 0),(6,.ptr 1 0)],pg,[]⟩⟩]
theorem zGL:zN gp:=zQ _ _
theorem zHu(κ:Nat)(m:Int):zP Tryz.prog C (G m) Tryz.f18.ntmps 0 (zf (zG (.blk 0) (zC Tryz.f18))) (gp.cut wm (cur _ (zA.v19 κ))):=
 Piece.join zGL zY mixed (vD κ m) yo yO (cut:=zS) (X:=wb) (zI (l:=[]) (by kernel_rfl) (all_nil)) (fun s=>by kernel_rfl)
def xc:=yi (T:=T) [⟨[(0,.i .i64),(1,.s),(4,.ptr 0 0),(6,.ptr 1 0),(7,.yB 2 0 3 3),(21,.yB 2 0 3 3),(22,.lit .i64 3),(23,.lit .i64 1)],zaN,[]⟩] [⟨.normal,⟨[(0,.i .i64),(1,.s),(4,.ptr 0 0),(6,.ptr 1 0),(7,.yB 2 0 3 3),(21,.yB 2 0 3 3),(22,.lit .i64 3),(23,.lit .i64 2)],zaN,[]⟩⟩,⟨.ret,⟨[(4,.ptr 0 0),(5,.b)],vv,[]⟩⟩,⟨(.exit 0),⟨[(4,.ptr 0 0),(6,.ptr 1 0)],pg,[]⟩⟩]
theorem zHM:zN xc:=zQ _ _
theorem zGS(κ:Nat)(m:Int):zP Tryz.prog C (G m) Tryz.f18.ntmps 0 (zf (zG (.blk 0) (zC Tryz.f18))) (xc.cut wm (cur _ (zA.v20 κ))):=
 Piece.join zHM zY mixed (vD κ m) yo yO (cut:=zS) (X:=wb) (zI (l:=[]) (by kernel_rfl) (all_nil)) (fun s=>by kernel_rfl)
def xD:=yi (T:=T) [⟨[(0,.i .i64),(1,.s),(4,.ptr 0 0),(6,.ptr 1 0),(7,.yB 2 0 4 4),(21,.yB 2 0 4 4),(22,.lit .i64 4),(23,.lit .i64 1)],zWD,[]⟩] [⟨.normal,⟨[(0,.i .i64),(1,.s),(4,.ptr 0 0),(6,.ptr 1 0),(7,.yB 2 0 4 4),(21,.yB 2 0 4 4),(22,.lit .i64 4),(23,.lit .i64 2)],zWD,[]⟩⟩,⟨.ret,⟨[(4,.ptr 0 0),(5,.b)],vv,[]⟩⟩]
theorem zHe:zN xD:=zQ _ _
theorem zGa(κ:Nat)(m:Int):zP Tryz.prog C (G m) Tryz.f18.ntmps 0 (zf (zG (.blk 0) (zC Tryz.f18))) (xD.cut wm (cur _ (zA.v21 κ))):=
 Piece.join zHe zY mixed (vD κ m) yo yO (cut:=zS) (X:=wb) (zI (l:=[]) (by kernel_rfl) (all_nil)) (fun s=>by kernel_rfl)
def xy:=yi (T:=T) [⟨[(0,.i .i64),(1,.s),(4,.ptr 0 0),(6,.ptr 1 0),(7,.yB 2 0 2 2),(21,.yB 2 0 2 2),(22,.lit .i64 2),(23,.lit .i64 1)],zeV,[]⟩] [⟨.normal,⟨[(0,.i .i64),(1,.s),(4,.ptr 0 0),(6,.ptr 1 0),(7,.yB 2 0 2 2),(21,.yB 2 0 2 2),(22,.lit .i64 2),(23,.lit .i64 2)],zeV,[]⟩⟩,⟨.ret,⟨[(4,.ptr 0 0),(5,.b)],vv,[]⟩⟩]
theorem zHx:zN xy:=zQ _ _
theorem zHv(κ:Nat)(m:Int):zP Tryz.prog C (G m) Tryz.f18.ntmps 0 (zf (zG (.blk 0) (zC Tryz.f18))) (xy.cut wm (cur _ (zA.v22 κ))):=
 Piece.join zHx zY mixed (vD κ m) yo yO (cut:=zS) (X:=wb) (zI (l:=[]) (by kernel_rfl) (all_nil)) (fun s=>by kernel_rfl)
def uS:=yi (T:=T) [⟨[(0,.i .i64),(1,.s),(4,.ptr 0 0),(6,.ptr 1 0),(7,.yB 2 0 2 2),(21,.yB 2 0 2 2),(22,.lit .i64 2),(23,.lit .i64 2)],zdr,[]⟩] [⟨(.exit 0),⟨[(4,.ptr 0 0),(6,.ptr 1 0)],pg,[]⟩⟩]
theorem zGC:zN uS:=zQ _ _
theorem zGo(κ:Nat)(m:Int):zP Tryz.prog C (G m) Tryz.f18.ntmps 0 (zf (zG (.blk 0) (zC Tryz.f18))) (uS.cut wm (cur _ (zA.v23 κ))):=
 Piece.join zGC zY mixed (vD κ m) yo yO (cut:=zS) (X:=wb) (zI (l:=[]) (by kernel_rfl) (all_nil)) (fun s=>by kernel_rfl)
def gY:=yi (T:=T) [⟨[(0,.i .i64),(1,.s),(4,.ptr 0 0),(6,.ptr 1 0),(7,.yB 2 0 2 2),(21,.yB 2 0 2 2),(22,.lit .i64 2),(23,.lit .i64 2)],zeN,[]⟩] [⟨(.exit 0),⟨[(4,.ptr 0 0),(6,.ptr 1 0)],pg,[]⟩⟩]
theorem zGM:zN gY:=zQ _ _
theorem zGw(κ:Nat)(m:Int):zP Tryz.prog C (G m) Tryz.f18.ntmps 0 (zf (zG (.blk 0) (zC Tryz.f18))) (gY.cut wm (cur _ (zA.v24 κ))):=
 Piece.join zGM zY mixed (vD κ m) yo yO (cut:=zS) (X:=wb) (zI (l:=[]) (by kernel_rfl) (all_nil)) (fun s=>by kernel_rfl)
def gf:=yi (T:=T) [⟨[(0,.i .i64),(1,.s),(4,.ptr 0 0),(6,.ptr 1 0),(7,.yB 2 0 4 4),(21,.yB 2 0 4 4),(22,.lit .i64 4),(23,.lit .i64 2)],zWj,[]⟩] [⟨.normal,⟨[(0,.i .i64),(1,.s),(4,.ptr 0 0),(6,.ptr 1 0),(7,.yB 2 0 4 4),(21,.yB 2 0 4 4),(22,.lit .i64 4),(23,.lit .i64 3)],zWj,[]⟩⟩,⟨.ret,⟨[(4,.ptr 0 0),(5,.b)],vv,[]⟩⟩]
theorem zGk:zN gf:=zQ _ _
theorem zG0(κ:Nat)(m:Int):zP Tryz.prog C (G m) Tryz.f18.ntmps 0 (zf (zG (.blk 0) (zC Tryz.f18))) (gf.cut wm (cur _ (zA.v25 κ))):=
 Piece.join zGk zY mixed (zFS κ m) yo yO (cut:=zS) (X:=wb) (zI (l:=[]) (by kernel_rfl) (all_nil)) (fun s=>by kernel_rfl)
def xn:=yi (T:=T) [⟨[(0,.i .i64),(1,.s),(4,.ptr 0 0),(6,.ptr 1 0),(7,.yB 2 0 4 4),(21,.yB 2 0 4 4),(22,.lit .i64 4),(23,.lit .i64 2)],zW5,[]⟩] [⟨.normal,⟨[(0,.i .i64),(1,.s),(4,.ptr 0 0),(6,.ptr 1 0),(7,.yB 2 0 4 4),(21,.yB 2 0 4 4),(22,.lit .i64 4),(23,.lit .i64 3)],zW5,[]⟩⟩,⟨.ret,⟨[(4,.ptr 0 0),(5,.b)],vv,[]⟩⟩,⟨(.exit 0),⟨[(4,.ptr 0 0),(6,.ptr 1 0)],pg,[]⟩⟩]
theorem zF4:zN xn:=zQ _ _
theorem zHO(κ:Nat)(m:Int):zP Tryz.prog C (G m) Tryz.f18.ntmps 0 (zf (zG (.blk 0) (zC Tryz.f18))) (xn.cut wm (cur _ (zA.v26 κ))):=
 Piece.join zF4 zY mixed (zFS κ m) yo yO (cut:=zS) (X:=wb) (zI (l:=[]) (by kernel_rfl) (all_nil)) (fun s=>by kernel_rfl)
def xj:=yi (T:=T) [⟨[(0,.i .i64),(1,.s),(4,.ptr 0 0),(6,.ptr 1 0),(7,.yB 2 0 4 4),(21,.yB 2 0 4 4),(22,.lit .i64 4),(23,.lit .i64 2)],zWO,[]⟩] [⟨.normal,⟨[(0,.i .i64),(1,.s),(4,.ptr 0 0),(6,.ptr 1 0),(7,.yB 2 0 4 4),(21,.yB 2 0 4 4),(22,.lit .i64 4),(23,.lit .i64 3)],zWO,[]⟩⟩,⟨.ret,⟨[(4,.ptr 0 0),(5,.b)],vv,[]⟩⟩,⟨(.exit 0),⟨[(4,.ptr 0 0),(6,.ptr 1 0)],pg,[]⟩⟩]
theorem zGz:zN xj:=zQ _ _
theorem zHU(κ:Nat)(m:Int):zP Tryz.prog C (G m) Tryz.f18.ntmps 0 (zf (zG (.blk 0) (zC Tryz.f18))) (xj.cut wm (cur _ (zA.v27 κ))):=
 Piece.join zGz zY mixed (zFS κ m) yo yO (cut:=zS) (X:=wb) (zI (l:=[]) (by kernel_rfl) (all_nil)) (fun s=>by kernel_rfl)
def xT:=yi (T:=T) [⟨[(0,.i .i64),(1,.s),(4,.ptr 0 0),(6,.ptr 1 0),(7,.yB 2 0 5 5),(21,.yB 2 0 5 5),(22,.lit .i64 5),(23,.lit .i64 2)],zTl,[]⟩] [⟨.normal,⟨[(0,.i .i64),(1,.s),(4,.ptr 0 0),(6,.ptr 1 0),(7,.yB 2 0 5 5),(21,.yB 2 0 5 5),(22,.lit .i64 5),(23,.lit .i64 3)],zTl,[]⟩⟩,⟨.ret,⟨[(4,.ptr 0 0),(5,.b)],vv,[]⟩⟩]
theorem zHw:zN xT:=zQ _ _
theorem zHt(κ:Nat)(m:Int):zP Tryz.prog C (G m) Tryz.f18.ntmps 0 (zf (zG (.blk 0) (zC Tryz.f18))) (xT.cut wm (cur _ (zA.v28 κ))):=
 Piece.join zHw zY mixed (zNr κ m) yo yO (cut:=zS) (X:=wb) (zI (l:=[]) (by kernel_rfl) (all_nil)) (fun s=>by kernel_rfl)
def uQ:=yi (T:=T) [⟨[(0,.i .i64),(1,.s),(4,.ptr 0 0),(6,.ptr 1 0),(7,.yB 2 0 3 3),(21,.yB 2 0 3 3),(22,.lit .i64 3),(23,.lit .i64 2)],zZm,[]⟩] [⟨.normal,⟨[(0,.i .i64),(1,.s),(4,.ptr 0 0),(6,.ptr 1 0),(7,.yB 2 0 3 3),(21,.yB 2 0 3 3),(22,.lit .i64 3),(23,.lit .i64 3)],zZm,[]⟩⟩,⟨.ret,⟨[(4,.ptr 0 0),(5,.b)],vv,[]⟩⟩]
theorem zGT:zN uQ:=zQ _ _
theorem zHs(κ:Nat)(m:Int):zP Tryz.prog C (G m) Tryz.f18.ntmps 0 (zf (zG (.blk 0) (zC Tryz.f18))) (uQ.cut wm (cur _ (zA.v29 κ))):=
 Piece.join zGT zY mixed (zNr κ m) yo yO (cut:=zS) (X:=wb) (zI (l:=[]) (by kernel_rfl) (all_nil)) (fun s=>by kernel_rfl)
def xA:=yi (T:=T) [⟨[(0,.i .i64),(1,.s),(4,.ptr 0 0),(6,.ptr 1 0),(7,.yB 2 0 3 3),(21,.yB 2 0 3 3),(22,.lit .i64 3),(23,.lit .i64 2)],zaS,[]⟩] [⟨.normal,⟨[(0,.i .i64),(1,.s),(4,.ptr 0 0),(6,.ptr 1 0),(7,.yB 2 0 3 3),(21,.yB 2 0 3 3),(22,.lit .i64 3),(23,.lit .i64 3)],zaS,[]⟩⟩,⟨.ret,⟨[(4,.ptr 0 0),(5,.b)],vv,[]⟩⟩]
theorem zGs:zN xA:=zQ _ _
theorem zGj(κ:Nat)(m:Int):zP Tryz.prog C (G m) Tryz.f18.ntmps 0 (zf (zG (.blk 0) (zC Tryz.f18))) (xA.cut wm (cur _ (zA.v30 κ))):=
 Piece.join zGs zY mixed (zTB κ m) yo yO (cut:=zS) (X:=wb) (zI (l:=[]) (by kernel_rfl) (all_nil)) (fun s=>by kernel_rfl)
def xi:=yi (T:=T) [⟨[(0,.i .i64),(1,.s),(4,.ptr 0 0),(6,.ptr 1 0),(7,.yB 2 0 3 3),(21,.yB 2 0 3 3),(22,.lit .i64 3),(23,.lit .i64 2)],zaN,[]⟩] [⟨.normal,⟨[(0,.i .i64),(1,.s),(4,.ptr 0 0),(6,.ptr 1 0),(7,.yB 2 0 3 3),(21,.yB 2 0 3 3),(22,.lit .i64 3),(23,.lit .i64 3)],zaN,[]⟩⟩,⟨.ret,⟨[(4,.ptr 0 0),(5,.b)],vv,[]⟩⟩]
theorem zGg:zN xi:=zQ _ _
theorem zHo(κ:Nat)(m:Int):zP Tryz.prog C (G m) Tryz.f18.ntmps 0 (zf (zG (.blk 0) (zC Tryz.f18))) (xi.cut wm (cur _ (zA.v31 κ))):=
 Piece.join zGg zY mixed (zEu κ m) yo yO (cut:=zS) (X:=wb) (zI (l:=[]) (by kernel_rfl) (all_nil)) (fun s=>by kernel_rfl)
def uF:=yi (T:=T) [⟨[(0,.i .i64),(1,.s),(4,.ptr 0 0),(6,.ptr 1 0),(7,.yB 2 0 4 4),(21,.yB 2 0 4 4),(22,.lit .i64 4),(23,.lit .i64 2)],zWD,[]⟩] [⟨.normal,⟨[(0,.i .i64),(1,.s),(4,.ptr 0 0),(6,.ptr 1 0),(7,.yB 2 0 4 4),(21,.yB 2 0 4 4),(22,.lit .i64 4),(23,.lit .i64 3)],zWD,[]⟩⟩,⟨.ret,⟨[(4,.ptr 0 0),(5,.b)],vv,[]⟩⟩]
theorem zF7:zN uF:=zQ _ _
theorem zHG(κ:Nat)(m:Int):zP Tryz.prog C (G m) Tryz.f18.ntmps 0 (zf (zG (.blk 0) (zC Tryz.f18))) (uF.cut wm (cur _ (zA.v32 κ))):=
 Piece.join zF7 zY mixed (zEu κ m) yo yO (cut:=zS) (X:=wb) (zI (l:=[]) (by kernel_rfl) (all_nil)) (fun s=>by kernel_rfl)
def xl:=yi (T:=T) [⟨[(0,.i .i64),(1,.s),(4,.ptr 0 0),(6,.ptr 1 0),(7,.yB 2 0 2 2),(21,.yB 2 0 2 2),(22,.lit .i64 2),(23,.lit .i64 2)],zeV,[]⟩] [⟨(.exit 0),⟨[(4,.ptr 0 0),(6,.ptr 1 0)],pg,[]⟩⟩]
theorem zHq:zN xl:=zQ _ _
theorem zGG(κ:Nat)(m:Int):zP Tryz.prog C (G m) Tryz.f18.ntmps 0 (zf (zG (.blk 0) (zC Tryz.f18))) (xl.cut wm (cur _ (zA.v33 κ))):=
 Piece.join zHq zY mixed (zEu κ m) yo yO (cut:=zS) (X:=wb) (zI (l:=[]) (by kernel_rfl) (all_nil)) (fun s=>by kernel_rfl)
def xk:=yi (T:=T) [⟨[(0,.i .i64),(1,.s),(4,.ptr 0 0),(6,.ptr 1 0),(7,.yB 2 0 4 4),(21,.yB 2 0 4 4),(22,.lit .i64 4),(23,.lit .i64 3)],zWj,[]⟩] [⟨.normal,⟨[(0,.i .i64),(1,.s),(4,.ptr 0 0),(6,.ptr 1 0),(7,.yB 2 0 4 4),(21,.yB 2 0 4 4),(22,.lit .i64 4),(23,.lit .i64 4)],zWj,[]⟩⟩,⟨.ret,⟨[(4,.ptr 0 0),(5,.b)],vv,[]⟩⟩]
theorem zG6:zN xk:=zQ _ _
theorem zHH(κ:Nat)(m:Int):zP Tryz.prog C (G m) Tryz.f18.ntmps 0 (zf (zG (.blk 0) (zC Tryz.f18))) (xk.cut wm (cur _ (zA.v34 κ))):=
 Piece.join zG6 zY mixed (zFL κ m) yo yO (cut:=zS) (X:=wb) (zI (l:=[]) (by kernel_rfl) (all_nil)) (fun s=>by kernel_rfl)
def xC:=yi (T:=T) [⟨[(0,.i .i64),(1,.s),(4,.ptr 0 0),(6,.ptr 1 0),(7,.yB 2 0 4 4),(21,.yB 2 0 4 4),(22,.lit .i64 4),(23,.lit .i64 3)],zW5,[]⟩] [⟨.normal,⟨[(0,.i .i64),(1,.s),(4,.ptr 0 0),(6,.ptr 1 0),(7,.yB 2 0 4 4),(21,.yB 2 0 4 4),(22,.lit .i64 4),(23,.lit .i64 4)],zW5,[]⟩⟩,⟨.ret,⟨[(4,.ptr 0 0),(5,.b)],vv,[]⟩⟩]
theorem zHN:zN xC:=zQ _ _
theorem zHD(κ:Nat)(m:Int):zP Tryz.prog C (G m) Tryz.f18.ntmps 0 (zf (zG (.blk 0) (zC Tryz.f18))) (xC.cut wm (cur _ (zA.v35 κ))):=
 Piece.join zHN zY mixed (zT2 κ m) yo yO (cut:=zS) (X:=wb) (zI (l:=[]) (by kernel_rfl) (all_nil)) (fun s=>by kernel_rfl)
def gm:=yi (T:=T) [⟨[(0,.i .i64),(1,.s),(4,.ptr 0 0),(6,.ptr 1 0),(7,.yB 2 0 4 4),(21,.yB 2 0 4 4),(22,.lit .i64 4),(23,.lit .i64 3)],zWO,[]⟩] [⟨.normal,⟨[(0,.i .i64),(1,.s),(4,.ptr 0 0),(6,.ptr 1 0),(7,.yB 2 0 4 4),(21,.yB 2 0 4 4),(22,.lit .i64 4),(23,.lit .i64 4)],zWO,[]⟩⟩,⟨.ret,⟨[(4,.ptr 0 0),(5,.b)],vv,[]⟩⟩]
theorem zHm:zN gm:=zQ _ _
theorem zHh(κ:Nat)(m:Int):zP Tryz.prog C (G m) Tryz.f18.ntmps 0 (zf (zG (.blk 0) (zC Tryz.f18))) (gm.cut wm (cur _ (zA.v36 κ))):=
 Piece.join zHm zY mixed (zSv κ m) yo yO (cut:=zS) (X:=wb) (zI (l:=[]) (by kernel_rfl) (all_nil)) (fun s=>by kernel_rfl)
def xL:=yi (T:=T) [⟨[(0,.i .i64),(1,.s),(4,.ptr 0 0),(6,.ptr 1 0),(7,.yB 2 0 5 5),(21,.yB 2 0 5 5),(22,.lit .i64 5),(23,.lit .i64 3)],zTl,[]⟩] [⟨.normal,⟨[(0,.i .i64),(1,.s),(4,.ptr 0 0),(6,.ptr 1 0),(7,.yB 2 0 5 5),(21,.yB 2 0 5 5),(22,.lit .i64 5),(23,.lit .i64 4)],zTl,[]⟩⟩,⟨.ret,⟨[(4,.ptr 0 0),(5,.b)],vv,[]⟩⟩]
theorem zHJ:zN xL:=zQ _ _
theorem zGW(κ:Nat)(m:Int):zP Tryz.prog C (G m) Tryz.f18.ntmps 0 (zf (zG (.blk 0) (zC Tryz.f18))) (xL.cut wm (cur _ (zA.v37 κ))):=
 Piece.join zHJ zY mixed (zCr κ m) yo yO (cut:=zS) (X:=wb) (zI (l:=[]) (by kernel_rfl) (all_nil)) (fun s=>by kernel_rfl)
def gd:=yi (T:=T) [⟨[(0,.i .i64),(1,.s),(4,.ptr 0 0),(6,.ptr 1 0),(7,.yB 2 0 3 3),(21,.yB 2 0 3 3),(22,.lit .i64 3),(23,.lit .i64 3)],zZm,[]⟩] [⟨(.exit 0),⟨[(4,.ptr 0 0),(6,.ptr 1 0)],pg,[]⟩⟩]
theorem zH2:zN gd:=zQ _ _
theorem zGy(κ:Nat)(m:Int):zP Tryz.prog C (G m) Tryz.f18.ntmps 0 (zf (zG (.blk 0) (zC Tryz.f18))) (gd.cut wm (cur _ (zA.v38 κ))):=
 Piece.join zH2 zY mixed (zCr κ m) yo yO (cut:=zS) (X:=wb) (zI (l:=[]) (by kernel_rfl) (all_nil)) (fun s=>by kernel_rfl)
def uE:=yi (T:=T) [⟨[(0,.i .i64),(1,.s),(4,.ptr 0 0),(6,.ptr 1 0),(7,.yB 2 0 3 3),(21,.yB 2 0 3 3),(22,.lit .i64 3),(23,.lit .i64 3)],zaS,[]⟩] [⟨(.exit 0),⟨[(4,.ptr 0 0),(6,.ptr 1 0)],pg,[]⟩⟩]
theorem zHR:zN uE:=zQ _ _
theorem zF2(κ:Nat)(m:Int):zP Tryz.prog C (G m) Tryz.f18.ntmps 0 (zf (zG (.blk 0) (zC Tryz.f18))) (uE.cut wm (cur _ (zA.v39 κ))):=
 Piece.join zHR zY mixed (zCr κ m) yo yO (cut:=zS) (X:=wb) (zI (l:=[]) (by kernel_rfl) (all_nil)) (fun s=>by kernel_rfl)
def uI:=yi (T:=T) [⟨[(0,.i .i64),(1,.s),(4,.ptr 0 0),(6,.ptr 1 0),(7,.yB 2 0 3 3),(21,.yB 2 0 3 3),(22,.lit .i64 3),(23,.lit .i64 3)],zaN,[]⟩] [⟨(.exit 0),⟨[(4,.ptr 0 0),(6,.ptr 1 0)],pg,[]⟩⟩]
theorem zHd:zN uI:=zQ _ _
theorem zHy(κ:Nat)(m:Int):zP Tryz.prog C (G m) Tryz.f18.ntmps 0 (zf (zG (.blk 0) (zC Tryz.f18))) (uI.cut wm (cur _ (zA.v40 κ))):=
 Piece.join zHd zY mixed (zCr κ m) yo yO (cut:=zS) (X:=wb) (zI (l:=[]) (by kernel_rfl) (all_nil)) (fun s=>by kernel_rfl)
def xR:=yi (T:=T) [⟨[(0,.i .i64),(1,.s),(4,.ptr 0 0),(6,.ptr 1 0),(7,.yB 2 0 4 4),(21,.yB 2 0 4 4),(22,.lit .i64 4),(23,.lit .i64 3)],zWD,[]⟩] [⟨.normal,⟨[(0,.i .i64),(1,.s),(4,.ptr 0 0),(6,.ptr 1 0),(7,.yB 2 0 4 4),(21,.yB 2 0 4 4),(22,.lit .i64 4),(23,.lit .i64 4)],zWD,[]⟩⟩]
theorem zHa:zN xR:=zQ _ _
theorem zG1(κ:Nat)(m:Int):zP Tryz.prog C (G m) Tryz.f18.ntmps 0 (zf (zG (.blk 0) (zC Tryz.f18))) (xR.cut wm (cur _ (zA.v41 κ))):=
 Piece.join zHa zY mixed (jy κ m) yo yO (cut:=zS) (X:=wb) (zI (l:=[]) (by kernel_rfl) (all_nil)) (fun s=>by kernel_rfl)
def gy:=yi (T:=T) [⟨[(0,.i .i64),(1,.s),(4,.ptr 0 0),(6,.ptr 1 0),(7,.yB 2 0 4 4),(21,.yB 2 0 4 4),(22,.lit .i64 4),(23,.lit .i64 4)],zWj,[]⟩] [⟨(.exit 0),⟨[(4,.ptr 0 0),(6,.ptr 1 0)],pg,[]⟩⟩]
theorem zGq:zN gy:=zQ _ _
theorem zG4(κ:Nat)(m:Int):zP Tryz.prog C (G m) Tryz.f18.ntmps 0 (zf (zG (.blk 0) (zC Tryz.f18))) (gy.cut wm (cur _ (zA.v42 κ))):=
 Piece.join zGq zY mixed (jy κ m) yo yO (cut:=zS) (X:=wb) (zI (l:=[]) (by kernel_rfl) (all_nil)) (fun s=>by kernel_rfl)
def xg:=yi (T:=T) [⟨[(0,.i .i64),(1,.s),(4,.ptr 0 0),(6,.ptr 1 0),(7,.yB 2 0 4 4),(21,.yB 2 0 4 4),(22,.lit .i64 4),(23,.lit .i64 4)],zW5,[]⟩] [⟨(.exit 0),⟨[(4,.ptr 0 0),(6,.ptr 1 0)],pg,[]⟩⟩]
theorem zHP:zN xg:=zQ _ _
theorem zF3(κ:Nat)(m:Int):zP Tryz.prog C (G m) Tryz.f18.ntmps 0 (zf (zG (.blk 0) (zC Tryz.f18))) (xg.cut wm (cur _ (zA.v43 κ))):=
 Piece.join zHP zY mixed (jy κ m) yo yO (cut:=zS) (X:=wb) (zI (l:=[]) (by kernel_rfl) (all_nil)) (fun s=>by kernel_rfl)
def xK:=yi (T:=T) [⟨[(0,.i .i64),(1,.s),(4,.ptr 0 0),(6,.ptr 1 0),(7,.yB 2 0 4 4),(21,.yB 2 0 4 4),(22,.lit .i64 4),(23,.lit .i64 4)],zWO,[]⟩] [⟨(.exit 0),⟨[(4,.ptr 0 0),(6,.ptr 1 0)],pg,[]⟩⟩]
theorem zHr:zN xK:=zQ _ _
theorem zHi(κ:Nat)(m:Int):zP Tryz.prog C (G m) Tryz.f18.ntmps 0 (zf (zG (.blk 0) (zC Tryz.f18))) (xK.cut wm (cur _ (zA.v44 κ))):=
 Piece.join zHr zY mixed (jy κ m) yo yO (cut:=zS) (X:=wb) (zI (l:=[]) (by kernel_rfl) (all_nil)) (fun s=>by kernel_rfl)
def xX:=yi (T:=T) [⟨[(0,.i .i64),(1,.s),(4,.ptr 0 0),(6,.ptr 1 0),(7,.yB 2 0 5 5),(21,.yB 2 0 5 5),(22,.lit .i64 5),(23,.lit .i64 4)],zTl,[]⟩] [⟨.normal,⟨[(0,.i .i64),(1,.s),(4,.ptr 0 0),(6,.ptr 1 0),(7,.yB 2 0 5 5),(21,.yB 2 0 5 5),(22,.lit .i64 5),(23,.lit .i64 5)],zTl,[]⟩⟩,⟨.ret,⟨[(4,.ptr 0 0),(5,.b)],vv,[]⟩⟩]
theorem zHT:zN xX:=zQ _ _
theorem zGQ(κ:Nat)(m:Int):zP Tryz.prog C (G m) Tryz.f18.ntmps 0 (zf (zG (.blk 0) (zC Tryz.f18))) (xX.cut wm (cur _ (zA.v45 κ))):=
 Piece.join zHT zY mixed (jy κ m) yo yO (cut:=zS) (X:=wb) (zI (l:=[]) (by kernel_rfl) (all_nil)) (fun s=>by kernel_rfl)
def uU:=yi (T:=T) [⟨[(0,.i .i64),(1,.s),(4,.ptr 0 0),(6,.ptr 1 0),(7,.yB 2 0 4 4),(21,.yB 2 0 4 4),(22,.lit .i64 4),(23,.lit .i64 4)],zWD,[]⟩] [⟨(.exit 0),⟨[(4,.ptr 0 0),(6,.ptr 1 0)],pg,[]⟩⟩]
theorem zGe:zN uU:=zQ _ _
theorem zGi(κ:Nat)(m:Int):zP Tryz.prog C (G m) Tryz.f18.ntmps 0 (zf (zG (.blk 0) (zC Tryz.f18))) (uU.cut wm (cur _ (zA.v46 κ))):=
 Piece.join zGe zY mixed (jy κ m) yo yO (cut:=zS) (X:=wb) (zI (l:=[]) (by kernel_rfl) (all_nil)) (fun s=>by kernel_rfl)
def uT:=yi (T:=T) [⟨[(0,.i .i64),(1,.s),(4,.ptr 0 0),(6,.ptr 1 0),(7,.yB 2 0 5 5),(21,.yB 2 0 5 5),(22,.lit .i64 5),(23,.lit .i64 5)],zTl,[]⟩] [⟨(.exit 0),⟨[(4,.ptr 0 0),(6,.ptr 1 0)],pg,[]⟩⟩]
theorem zH0:zN uT:=zQ _ _
theorem zGD(κ:Nat)(m:Int):zP Tryz.prog C (G m) Tryz.f18.ntmps 0 (zf (zG (.blk 0) (zC Tryz.f18))) (uT.cut wm (cur _ (zA.v47 κ))):=
 Piece.join zH0 zY mixed (jy κ m) yo yO (cut:=zS) (X:=wb) (zI (l:=[]) (by kernel_rfl) (all_nil)) (fun s=>by kernel_rfl)
def kx(κ:Nat):Cut T:=zYi (dM.yG wm (cur _ (zA.v0 κ)) (bC.yG wm (cur _ (zA.v1 κ)) (dm.yG wm (cur _ (zA.v2 κ)) (bq.yG wm (cur _ (zA.v3 κ)) (uq.yG wm (cur _ (zA.v4 κ)) (bL.yG wm (cur _ (zA.v5 κ)) (dU.yG wm (cur _ (zA.v6 κ)) (pM.yG wm (cur _ (zA.v7 κ)) (dz.yG wm (cur _ (zA.v8 κ)) (ux.yG wm (cur _ (zA.v9 κ)) (gv.yG wm (cur _ (zA.v10 κ)) (uJ.yG wm (cur _ (zA.v11 κ)) (xf.yG wm (cur _ (zA.v12 κ)) (uD.yG wm (cur _ (zA.v13 κ)) (uC.yG wm (cur _ (zA.v14 κ)) (gj.yG wm (cur _ (zA.v15 κ)) (uP.yG wm (cur _ (zA.v16 κ)) (xU.yG wm (cur _ (zA.v17 κ)) (uO.yG wm (cur _ (zA.v18 κ)) (gp.yG wm (cur _ (zA.v19 κ)) (xc.yG wm (cur _ (zA.v20 κ)) (xD.yG wm (cur _ (zA.v21 κ)) (xy.yG wm (cur _ (zA.v22 κ)) (uS.yG wm (cur _ (zA.v23 κ)) (gY.yG wm (cur _ (zA.v24 κ)) (gf.yG wm (cur _ (zA.v25 κ)) (xn.yG wm (cur _ (zA.v26 κ)) (xj.yG wm (cur _ (zA.v27 κ)) (xT.yG wm (cur _ (zA.v28 κ)) (uQ.yG wm (cur _ (zA.v29 κ)) (xA.yG wm (cur _ (zA.v30 κ)) (xi.yG wm (cur _ (zA.v31 κ)) (uF.yG wm (cur _ (zA.v32 κ)) (xl.yG wm (cur _ (zA.v33 κ)) (xk.yG wm (cur _ (zA.v34 κ)) (xC.yG wm (cur _ (zA.v35 κ)) (gm.yG wm (cur _ (zA.v36 κ)) (xL.yG wm (cur _ (zA.v37 κ)) (gd.yG wm (cur _ (zA.v38 κ)) (uE.yG wm (cur _ (zA.v39 κ)) (uI.yG wm (cur _ (zA.v40 κ)) (xR.yG wm (cur _ (zA.v41 κ)) (gy.yG wm (cur _ (zA.v42 κ)) (xg.yG wm (cur _ (zA.v43 κ)) (xK.yG wm (cur _ (zA.v44 κ)) (xX.yG wm (cur _ (zA.v45 κ)) (uU.yG wm (cur _ (zA.v46 κ)) (uT.cut wm (cur _ (zA.v47 κ)))))))))))))))))))))))))))))))))))))))))))))))))) 0 6
theorem zEo(κ:Nat)(m:Int):zP Tryz.prog C (G m) Tryz.f18.ntmps 0 (zG (.blk 0) (zC Tryz.f18)) (kx κ):=zYH (body:=zf (zG (.blk 0) (zC Tryz.f18))) (Piece.yI (zKu κ m) (Piece.yI (zJ9 κ m) (Piece.yI (zJx κ m) (Piece.yI (zJE κ m) (Piece.yI (zIR κ m) (Piece.yI (zKc κ m) (Piece.yI (zKy κ m) (Piece.yI (zKN κ m) (Piece.yI (zIv κ m) (Piece.yI (zJi κ m) (Piece.yI (zG3 κ m) (Piece.yI (zGN κ m) (Piece.yI (zGc κ m) (Piece.yI (zGH κ m) (Piece.yI (zHn κ m) (Piece.yI (zGF κ m) (Piece.yI (zHl κ m) (Piece.yI (zHA κ m) (Piece.yI (zGX κ m) (Piece.yI (zHu κ m) (Piece.yI (zGS κ m) (Piece.yI (zGa κ m) (Piece.yI (zHv κ m) (Piece.yI (zGo κ m) (Piece.yI (zGw κ m) (Piece.yI (zG0 κ m) (Piece.yI (zHO κ m) (Piece.yI (zHU κ m) (Piece.yI (zHt κ m) (Piece.yI (zHs κ m) (Piece.yI (zGj κ m) (Piece.yI (zHo κ m) (Piece.yI (zHG κ m) (Piece.yI (zGG κ m) (Piece.yI (zHH κ m) (Piece.yI (zHD κ m) (Piece.yI (zHh κ m) (Piece.yI (zGW κ m) (Piece.yI (zGy κ m) (Piece.yI (zF2 κ m) (Piece.yI (zHy κ m) (Piece.yI (zG1 κ m) (Piece.yI (zG4 κ m) (Piece.yI (zF3 κ m) (Piece.yI (zHi κ m) (Piece.yI (zGQ κ m) (Piece.yI (zGi κ m) (zGD κ m)))))))))))))))))))))))))))))))))))))))))))))))) 6
def zBO(κ:Nat):Key→Option (Cut T):=zh zS (.blk 0) (kx κ)
def gz:=yi (T:=T) [⟨[(4,.ptr 0 0),(6,.ptr 1 0),(15,.s),(16,.b)],pg,[]⟩] [⟨.normal,⟨[(4,.ptr 0 0),(5,.b)],qe,[]⟩⟩]
theorem zHC:zN gz:=zQ _ _
theorem zHX(κ:Nat)(m:Int):zP Tryz.prog C (G m) Tryz.f18.ntmps 0 (zG (.reg 18) (zC Tryz.f18)) (gz.cut (zW 0 [4,6,15,16]) (cur _ (zA.v49 κ))):=
 Piece.join zHC zY mixed (jy κ m) zF zgQ (cut:=(zBO κ)) (X:=zmq) (zI (l:=[]) (by kernel_rfl) (all_nil)) (fun s=>by kernel_rfl)
def kv(κ:Nat):Cut T:=gz.cut (zW 0 [4,6,15,16]) (cur _ (zA.v49 κ))
theorem zEx(κ:Nat)(m:Int):zP Tryz.prog C (G m) Tryz.f18.ntmps 0 (zG (.reg 18) (zC Tryz.f18)) (kv κ):=zHX κ m
def zNs(κ:Nat):Key→Option (Cut T):=zh (zBO κ) (.reg 18) (kv κ)
def zAz:=vB (T:=T) [.i .i64,.s] [] [⟨false,.qu [.agg wH,.b],[]⟩]
theorem zMi:zo zAz:=zw _ _ _
theorem zTy(κ:Nat)(m:Int):wM Tryz.prog C (G m) 18 (zAz.entry (cur _ (zA κ))):=
 Spec.ok zMi zY mixed (jy κ m) (cut:=(zNs κ)) (NR:=(jO (slS 0 [0,2] 55) (jO (slS 0 [0,10] 5) (zW 0 [0])))) (NP:=(zW 0 [0])) (nB:=0) Tryz.func18 (c:=(zC Tryz.f18)) (by kernel_rfl) (by kernel_rfl) (fun i=>by kernel_rfl) (y7 (zTo zY) (y7 (zTo zY) zF)) zF (zI (l:=[(zG (.blk 0) (zC Tryz.f18),kx κ),(zG (.reg 18) (zC Tryz.f18),kv κ)]) (by kernel_rfl) (all_cons (zEo κ m) (all_cons (zEx κ m) (all_nil)))) (fun i=>by kernel_rfl)
noncomputable def zig(κ:Nat):qK T:=(zjE κ).zj 18 zAz (cur _ (zA κ))
theorem zTQ(κ:Nat)(m:Int):ql Tryz.prog C (G m) (zig κ):=(jy κ m).zj (zTy κ m)
def xQ:=yi (T:=T) [⟨[(0,.sl 55),(1,.sl 55),(12,.i .i64),(13,.i .i64)],[],[]⟩] [⟨.normal,⟨[],[],[]⟩⟩,⟨.ret,⟨[(4,.b)],[],[]⟩⟩]
theorem zHc:zN xQ:=zQ _ _
theorem zGp(κ:Nat)(m:Int):zP Tryz.prog C (G m) Tryz.f26.ntmps 0 (zG (.blk 0) (zC Tryz.f26)) (xQ.cut (zW 0 [0,1,12,13]) (yl.l0 κ κ)):=
 Piece.loop zHc zY mixed (zTQ κ m) zF zbd (cut:=zS) (X:=zky) (id:=0) (body:=zf (zG (.blk 0) (zC Tryz.f26))) (zI (l:=[]) (by kernel_rfl) (all_nil)) (f:=yl.l0 κ) (fun s=>by kernel_rfl) (fun k s=>by kernel_rfl) κ
def kn(κ:Nat):Cut T:=xQ.cut (zW 0 [0,1,12,13]) (yl.l0 κ κ)
theorem zE0(κ:Nat)(m:Int):zP Tryz.prog C (G m) Tryz.f26.ntmps 0 (zG (.blk 0) (zC Tryz.f26)) (kn κ):=zGp κ m
def zOG(κ:Nat):Key→Option (Cut T):=zh zS (.blk 0) (kn κ)
def dP:=vB (T:=T) [.sl 55,.sl 55] [] [⟨false,.b,[]⟩]
theorem zJ0:zo dP:=zw _ _ _
theorem zR3(κ:Nat)(m:Int):wM Tryz.prog C (G m) 26 (dP.entry (cur _ (yl κ))):=
 Spec.ok zJ0 zY mixed (zTQ κ m) (cut:=(zOG κ)) (NR:=(zW 0 [0])) (NP:=(zW 0 [0])) (nB:=0) Tryz.func26 (c:=(zC Tryz.f26)) (by kernel_rfl) (by kernel_rfl) (fun i=>by kernel_rfl) zF zF (zI (l:=[(zG (.blk 0) (zC Tryz.f26),kn κ)]) (by kernel_rfl) (all_cons (zE0 κ m) (all_nil))) (fun i=>by kernel_rfl)
noncomputable def zh3(κ:Nat):qK T:=(zig κ).zj 26 dP (cur _ (yl κ))
theorem zX8(κ:Nat)(m:Int):ql Tryz.prog C (G m) (zh3 κ):=(zTQ κ m).zj (zR3 κ m)
def zA9:=vB (T:=T) [.sl 5,.sl 5] [] [⟨false,.b,[]⟩]
theorem zNL:zo zA9:=zw _ _ _
theorem zTO(κ:Nat)(m:Int):wM Tryz.prog C (G m) 27 (zA9.entry (cur _ (zQa κ))):=
 Spec.ok zNL zY mixed (zX8 κ m) (cut:=zS) (NR:=(zW 0 [0])) (NP:=(zW 0 [0])) (nB:=0) Tryz.func27 (c:=(zC Tryz.f27)) (by kernel_rfl) (by kernel_rfl) (fun i=>by kernel_rfl) zF zF (zI (l:=[]) (by kernel_rfl) (all_nil)) (fun i=>by kernel_rfl)
noncomputable def ziZ(κ:Nat):qK T:=(zh3 κ).zj 27 zA9 (cur _ (zQa κ))
theorem zTH(κ:Nat)(m:Int):ql Tryz.prog C (G m) (ziZ κ):=(zX8 κ m).zj (zTO κ m)
def zBB:=yi (T:=T) [⟨[(2,.ptr 0 0),(3,.ptr 1 0)],pg,[]⟩] [⟨.normal,⟨[(4,.b)],[],[]⟩⟩]
theorem zMn:zN zBB:=zQ _ _
theorem zML(κ:Nat)(m:Int):zP Tryz.prog C (G m) Tryz.f13.ntmps 0 (zG (.reg 1) (zC Tryz.f13)) (zBB.cut (zW 0 [2,3]) (cur _ (wV.v0 κ))):=
 Piece.join zMn zY mixed (zTH κ m) zF zZc (cut:=zS) (X:=xx7) (zI (l:=[]) (by kernel_rfl) (all_nil)) (fun s=>by kernel_rfl)
def u7(κ:Nat):Cut T:=zBB.cut (zW 0 [2,3]) (cur _ (wV.v0 κ))
theorem zKk(κ:Nat)(m:Int):zP Tryz.prog C (G m) Tryz.f13.ntmps 0 (zG (.reg 1) (zC Tryz.f13)) (u7 κ):=zML κ m
def zRd(κ:Nat):Key→Option (Cut T):=zh zS (.reg 1) (u7 κ)
def zBp:=vB (T:=T) zoU [] [⟨false,.b,[]⟩]
theorem zOW:zo zBp:=zw _ _ _
theorem zVM(κ:Nat)(m:Int):wM Tryz.prog C (G m) 13 (zBp.entry (cur _ (wV κ))):=
 Spec.ok zOW zY mixed (zTH κ m) (cut:=(zRd κ)) (NR:=(zW 0 [0])) (NP:=(zW 0 [0])) (nB:=0) Tryz.func13 (c:=(zC Tryz.f13)) (by kernel_rfl) (by kernel_rfl) (fun i=>by kernel_rfl) zF zF (zI (l:=[(zG (.reg 1) (zC Tryz.f13),u7 κ)]) (by kernel_rfl) (all_cons (zKk κ m) (all_nil))) (fun i=>by kernel_rfl)
noncomputable def ziP(κ:Nat):qK T:=(ziZ κ).zj 13 zBp (cur _ (wV κ))
theorem zTU(κ:Nat)(m:Int):ql Tryz.prog C (G m) (ziP κ):=(zTH κ m).zj (zVM κ m)
def dF:=yi (T:=T) [⟨[(1,.ptr 0 0),(5,.ptr 1 0),(6,.b)],pg,[]⟩] [⟨.normal,⟨[(2,.b)],[],[]⟩⟩]
theorem zIX:zN dF:=zQ _ _
theorem zJe(κ:Nat)(m:Int):zP Tryz.prog C (G m) Tryz.f9.ntmps 0 (zG (.reg 5) (zC Tryz.f9)) (dF.cut (zW 0 [1,5,6]) (cur _ (qy.v0 κ))):=
 Piece.join zIX zY mixed (zTU κ m) zF zKv (cut:=zS) (X:=xx0) (zI (l:=[]) (by kernel_rfl) (all_nil)) (fun s=>by kernel_rfl)
def xO(κ:Nat):Cut T:=dF.cut (zW 0 [1,5,6]) (cur _ (qy.v0 κ))
theorem zGJ(κ:Nat)(m:Int):zP Tryz.prog C (G m) Tryz.f9.ntmps 0 (zG (.reg 5) (zC Tryz.f9)) (xO κ):=zJe κ m
def zOx(κ:Nat):Key→Option (Cut T):=zh zS (.reg 5) (xO κ)
def zAR:=vB (T:=T) zhe [] [⟨false,.b,[]⟩]
theorem zL7:zo zAR:=zw _ _ _
theorem zT8(κ:Nat)(m:Int):wM Tryz.prog C (G m) 9 (zAR.entry (cur _ (qy κ))):=
 Spec.ok zL7 zY mixed (zTU κ m) (cut:=(zOx κ)) (NR:=(zW 0 [0])) (NP:=(zW 0 [0])) (nB:=0) Tryz.func9 (c:=(zC Tryz.f9)) (by kernel_rfl) (by kernel_rfl) (fun i=>by kernel_rfl) zF zF (zI (l:=[(zG (.reg 5) (zC Tryz.f9),xO κ)]) (by kernel_rfl) (all_cons (zGJ κ m) (all_nil))) (fun i=>by kernel_rfl)
noncomputable def zi3(κ:Nat):qK T:=(ziP κ).zj 9 zAR (cur _ (qy κ))
theorem zXt(κ:Nat)(m:Int):ql Tryz.prog C (G m) (zi3 κ):=(zTU κ m).zj (zT8 κ m)
def zBr:=vB (T:=T) zhe [] [⟨false,.s,[]⟩]
theorem zPw:zo zBr:=zw _ _ _
theorem zUx(κ:Nat)(m:Int):wM Tryz.prog C (G m) 8 (zBr.entry (cur _ (kL κ))):=
 Spec.ok zPw zY mixed (zXt κ m) (cut:=zS) (NR:=(zW 0 [0])) (NP:=(zW 0 [0])) (nB:=0) Tryz.func8 (c:=(zC Tryz.f8)) (by kernel_rfl) (by kernel_rfl) (fun i=>by kernel_rfl) zF zF (zI (l:=[]) (by kernel_rfl) (all_nil)) (fun i=>by kernel_rfl)
noncomputable def zif(κ:Nat):qK T:=(zi3 κ).zj 8 zBr (cur _ (kL κ))
theorem zNo(κ:Nat)(m:Int):ql Tryz.prog C (G m) (zif κ):=(zXt κ m).zj (zUx κ m)
def b0:=yi (T:=T) [⟨[(0,.s),(2,.ptr 0 0),(4,.i .i64),(5,.ptr 1 0),(6,.b)],[.cells 26 none zkz,.cells 26 none wH],[]⟩] [⟨.normal,⟨[(0,.s),(2,.ptr 0 0),(4,.i .i64),(5,.ptr 1 0),(23,.b)],[.cells 26 none zkz,.cells 26 none wH],[]⟩⟩]
theorem zIb:zN b0:=zQ _ _
theorem zKH(κ:Nat)(m:Int):zP Tryz.prog C (G m) Tryz.f15.ntmps 0 (zG (.reg 5) (zC Tryz.f15)) (b0.cut (zW 0 [0,2,4,5,6]) (cur _ (yL.v3 κ))):=
 Piece.join zIb zY mixed (zNo κ m) zF zga (cut:=zS) (X:=zmi) (zI (l:=[]) (by kernel_rfl) (all_nil)) (fun s=>by kernel_rfl)
def xv(κ:Nat):Cut T:=b0.cut (zW 0 [0,2,4,5,6]) (cur _ (yL.v3 κ))
theorem zGx(κ:Nat)(m:Int):zP Tryz.prog C (G m) Tryz.f15.ntmps 0 (zG (.reg 5) (zC Tryz.f15)) (xv κ):=zKH κ m
def zPY(κ:Nat):Key→Option (Cut T):=zh zS (.reg 5) (xv κ)
def dY:=yi (T:=T) [⟨[(0,.s),(2,.ptr 0 0),(4,.i .i64)],vv,[]⟩] [⟨.normal,⟨[(2,.ptr 0 0)],vv,[]⟩⟩,⟨.ret,⟨[(2,.ptr 0 0),(3,.i .i64)],qe,[]⟩⟩]
theorem zKK:zN dY:=zQ _ _
theorem zKn(κ:Nat)(m:Int):zP Tryz.prog C (G m) Tryz.f15.ntmps 0 (zG (.blk 0) (zC Tryz.f15)) (dY.cut (zW 0 [0,2,4]) (yL.l2 κ κ)):=
 Piece.loop zKK zY mixed (zNo κ m) zF zaz (cut:=(zPY κ)) (X:=zkL) (id:=0) (body:=zf (zG (.blk 0) (zC Tryz.f15))) (zI (l:=[(zG (.reg 5) (zC Tryz.f15),xv κ)]) (by kernel_rfl) (all_cons (zGx κ m) (all_nil))) (f:=yL.l2 κ) (fun s=>by kernel_rfl) (fun k s=>by kernel_rfl) κ
def xz(κ:Nat):Cut T:=dY.cut (zW 0 [0,2,4]) (yL.l2 κ κ)
theorem zGB(κ:Nat)(m:Int):zP Tryz.prog C (G m) Tryz.f15.ntmps 0 (zG (.blk 0) (zC Tryz.f15)) (xz κ):=zKn κ m
def zP4(κ:Nat):Key→Option (Cut T):=zh zS (.blk 0) (xz κ)
def zA0:=vB (T:=T) [.s] [] [⟨false,.qu [.agg wH,.i .i64],[]⟩]
theorem zLi:zo zA0:=zw _ _ _
theorem zUV(κ:Nat)(m:Int):wM Tryz.prog C (G m) 15 (zA0.entry (fun a0=>yL κ a0)):=
 Spec.ok zLi zY mixed (zNo κ m) (cut:=(zP4 κ)) (NR:=(jO (slS 0 [0,2] 55) (jO (slS 0 [0,10] 5) (zW 0 [0])))) (NP:=(zW 0 [0])) (nB:=0) Tryz.func15 (c:=(zC Tryz.f15)) (by kernel_rfl) (by kernel_rfl) (fun i=>by kernel_rfl) (y7 (zTo zY) (y7 (zTo zY) zF)) zF (zI (l:=[(zG (.blk 0) (zC Tryz.f15),xz κ)]) (by kernel_rfl) (all_cons (zGB κ m) (all_nil))) (fun i=>by kernel_rfl)
noncomputable def zid(κ:Nat):qK T:=(zif κ).zj 15 zA0 (fun a0=>yL κ a0)
theorem zT4(κ:Nat)(m:Int):ql Tryz.prog C (G m) (zid κ):=(zNo κ m).zj (zUV κ m)
def zCU:=yi (T:=T) [⟨[(1,.ptr 0 0),(2,.i .i64),(4,.i .i64),(5,.ptr 1 0),(6,.i .i64)],pg,[]⟩] [⟨.normal,⟨[(0,.b)],[],[]⟩⟩]
theorem zPK:zN zCU:=zQ _ _
theorem zPa(κ:Nat)(m:Int):zP Tryz.prog C (G m) Tryz.f7.ntmps 0 (zG (.reg 4) (zC Tryz.f7)) (zCU.cut (zW 0 [1,2,4,5,6]) (cur _ (kV.v0 κ))):=
 Piece.join zPK zY mixed (zT4 κ m) zF zfn (cut:=zS) (X:=znt) (zI (l:=[]) (by kernel_rfl) (all_nil)) (fun s=>by kernel_rfl)
def zBH(κ:Nat):Cut T:=zCU.cut (zW 0 [1,2,4,5,6]) (cur _ (kV.v0 κ))
theorem zLz(κ:Nat)(m:Int):zP Tryz.prog C (G m) Tryz.f7.ntmps 0 (zG (.reg 4) (zC Tryz.f7)) (zBH κ):=zPa κ m
def zUq(κ:Nat):Key→Option (Cut T):=zh zS (.reg 4) (zBH κ)
def zDU:=vB (T:=T) [] [] [⟨false,.b,[]⟩]
theorem zRc:zo zDU:=zw _ _ _
theorem zWc(κ:Nat)(m:Int):wM Tryz.prog C (G m) 7 (zDU.entry (fun _ =>kV κ)):=
 Spec.ok zRc zY mixed (zT4 κ m) (cut:=(zUq κ)) (NR:=(zW 0 [0])) (NP:=(zW 0 [0])) (nB:=0) Tryz.func7 (c:=(zC Tryz.f7)) (by kernel_rfl) (by kernel_rfl) (fun i=>by kernel_rfl) zF zF (zI (l:=[(zG (.reg 4) (zC Tryz.f7),zBH κ)]) (by kernel_rfl) (all_cons (zLz κ m) (all_nil))) (fun i=>by kernel_rfl)
noncomputable def ziV(κ:Nat):qK T:=(zid κ).zj 7 zDU (fun _ =>kV κ)
theorem zCo(κ:Nat)(m:Int):ql Tryz.prog C (G m) (ziV κ):=(zT4 κ m).zj (zWc κ m)
def zCN:=yi (T:=T) [⟨[(0,.s),(3,.i .i64)],[],[]⟩] [⟨.normal,⟨[(0,.s),(3,.i .i64),(4,.b)],[],[]⟩⟩]
theorem zPs:zN zCN:=zQ _ _
theorem zPy(κ:Nat)(m:Int):zP Tryz.prog C (G m) Tryz.f21.ntmps 0 (zG (.reg 4) (zC Tryz.f21)) (zCN.cut (zW 0 [0,3]) (cur _ (yD.v5 κ))):=
 Piece.join zPs zY mixed (zCo κ m) zF zgB (cut:=zS) (X:=zmN) (zI (l:=[]) (by kernel_rfl) (all_nil)) (fun s=>by kernel_rfl)
def zAF(κ:Nat):Cut T:=zCN.cut (zW 0 [0,3]) (cur _ (yD.v5 κ))
theorem zNm(κ:Nat)(m:Int):zP Tryz.prog C (G m) Tryz.f21.ntmps 0 (zG (.reg 4) (zC Tryz.f21)) (zAF κ):=zPy κ m
def zE2(κ:Nat):Key→Option (Cut T):=zh zS (.reg 4) (zAF κ)
def zB7:=yi (T:=T) [⟨[(0,.s),(3,.i .i64),(4,.b)],[],[]⟩] [⟨.normal,⟨[(0,.s),(3,.i .i64),(44,.b)],[],[]⟩⟩]
theorem zQH:zN zB7:=zQ _ _
theorem zP5(κ:Nat)(m:Int):zP Tryz.prog C (G m) Tryz.f21.ntmps 0 (zG (.reg 5) (zC Tryz.f21)) (zB7.cut (zW 0 [0,3,4]) (cur _ (yD.v7 κ))):=
 Piece.join zQH zY mixed (zCo κ m) zF zgL (cut:=(zE2 κ)) (X:=zmw) (zI (l:=[]) (by kernel_rfl) (all_nil)) (fun s=>by kernel_rfl)
def zAd(κ:Nat):Cut T:=zB7.cut (zW 0 [0,3,4]) (cur _ (yD.v7 κ))
theorem zLp(κ:Nat)(m:Int):zP Tryz.prog C (G m) Tryz.f21.ntmps 0 (zG (.reg 5) (zC Tryz.f21)) (zAd κ):=zP5 κ m
def zSw(κ:Nat):Key→Option (Cut T):=zh (zE2 κ) (.reg 5) (zAd κ)
def zBl:=yi (T:=T) [⟨[(0,.s),(3,.i .i64)],[],[]⟩] [⟨.normal,⟨[(0,.s)],[],[]⟩⟩,⟨.ret,⟨[(2,.b)],[],[]⟩⟩]
theorem zOj:zN zBl:=zQ _ _
theorem zPv(κ:Nat)(m:Int):zP Tryz.prog C (G m) Tryz.f21.ntmps 0 (zG (.blk 0) (zC Tryz.f21)) (zBl.cut (zW 0 [0,3]) (yD.l4 κ κ)):=
 Piece.loop zOj zY mixed (zCo κ m) zF zbC (cut:=(zSw κ)) (X:=zlG) (id:=0) (body:=zf (zG (.blk 0) (zC Tryz.f21))) (zI (l:=[(zG (.reg 4) (zC Tryz.f21),zAF κ),(zG (.reg 5) (zC Tryz.f21),zAd κ)]) (by kernel_rfl) (all_cons (zNm κ m) (all_cons (zLp κ m) (all_nil)))) (f:=yD.l4 κ) (fun s=>by kernel_rfl) (fun k s=>by kernel_rfl) κ
def zAr(κ:Nat):Cut T:=zBl.cut (zW 0 [0,3]) (yD.l4 κ κ)
theorem zMb(κ:Nat)(m:Int):zP Tryz.prog C (G m) Tryz.f21.ntmps 0 (zG (.blk 0) (zC Tryz.f21)) (zAr κ):=zPv κ m
def zFB(κ:Nat):Key→Option (Cut T):=zh zS (.blk 0) (zAr κ)
def zAp:=yi (T:=T) [⟨[(0,.s)],[],[]⟩] [⟨.normal,⟨[(2,.b)],[],[]⟩⟩]
theorem zL8:zN zAp:=zQ _ _
theorem zMl(κ:Nat)(m:Int):zP Tryz.prog C (G m) Tryz.f21.ntmps 0 (zG (.reg 7) (zC Tryz.f21)) (zAp.cut (zW 0 [0]) (fun a0=>yD.v10 κ a0)):=
 Piece.join zL8 zY mixed (zCo κ m) zF zKv (cut:=(zFB κ)) (X:=xx0) (zI (l:=[]) (by kernel_rfl) (all_nil)) (fun s=>by kernel_rfl)
def bG(κ:Nat):Cut T:=zAp.cut (zW 0 [0]) (fun a0=>yD.v10 κ a0)
theorem zKw(κ:Nat)(m:Int):zP Tryz.prog C (G m) Tryz.f21.ntmps 0 (zG (.reg 7) (zC Tryz.f21)) (bG κ):=zMl κ m
def zRz(κ:Nat):Key→Option (Cut T):=zh (zFB κ) (.reg 7) (bG κ)
def zDn:=vB (T:=T) [.s] [] [⟨false,.b,[]⟩]
theorem zR5:zo zDn:=zw _ _ _
theorem zWb(κ:Nat)(m:Int):wM Tryz.prog C (G m) 21 (zDn.entry (fun a0=>yD κ a0)):=
 Spec.ok zR5 zY mixed (zCo κ m) (cut:=(zRz κ)) (NR:=(zW 0 [0])) (NP:=(zW 0 [0])) (nB:=0) Tryz.func21 (c:=(zC Tryz.f21)) (by kernel_rfl) (by kernel_rfl) (fun i=>by kernel_rfl) zF zF (zI (l:=[(zG (.blk 0) (zC Tryz.f21),zAr κ),(zG (.reg 7) (zC Tryz.f21),bG κ)]) (by kernel_rfl) (all_cons (zMb κ m) (all_cons (zKw κ m) (all_nil)))) (fun i=>by kernel_rfl)
noncomputable def zjH(κ:Nat):qK T:=(ziV κ).zj 21 zDn (fun a0=>yD κ a0)
theorem zCf(κ:Nat)(m:Int):ql Tryz.prog C (G m) (zjH κ):=(zCo κ m).zj (zWb κ m)
def zD4:=yi (T:=T) [⟨[(0,.sl 55),(3,.s),(4,.i .i64),(5,.b),(6,.b)],[],[]⟩] [⟨.normal,⟨[(0,.sl 55),(3,.s),(4,.i .i64),(6,.b),(38,.b)],[],[]⟩⟩]
theorem zRM:zN zD4:=zQ _ _
theorem zQ4(κ:Nat)(m:Int):zP Tryz.prog C (G m) Tryz.f23.ntmps 0 (zG (.reg 7) (zC Tryz.f23)) (zD4.cut (zW 0 [0,3,4,5,6]) (cur _ (yR.v8 κ))):=
 Piece.join zRM zY mixed (zCf κ m) zF zfx (cut:=zS) (X:=zlc) (zI (l:=[]) (by kernel_rfl) (all_nil)) (fun s=>by kernel_rfl)
def zCR(κ:Nat):Cut T:=zD4.cut (zW 0 [0,3,4,5,6]) (cur _ (yR.v8 κ))
theorem zOy(κ:Nat)(m:Int):zP Tryz.prog C (G m) Tryz.f23.ntmps 0 (zG (.reg 7) (zC Tryz.f23)) (zCR κ):=zQ4 κ m
def zH5(κ:Nat):Key→Option (Cut T):=zh zS (.reg 7) (zCR κ)
def zCW:=yi (T:=T) [⟨[(0,.sl 55),(3,.s),(4,.i .i64),(47,.b)],[],[]⟩] [⟨.normal,⟨[(0,.sl 55),(3,.s),(4,.i .i64)],[],[]⟩⟩]
theorem zOe:zN zCW:=zQ _ _
theorem zPH(κ:Nat)(m:Int):zP Tryz.prog C (G m) Tryz.f23.ntmps 0 (zG (.cnd 47 12) (zC Tryz.f23)) (zCW.cut (zW 0 [0,3,4,47]) (cur _ (yR.v10 κ))):=
 Piece.join zOe zY mixed (zCf κ m) zF zgD (cut:=(zH5 κ)) (X:=znZ) (zI (l:=[]) (by kernel_rfl) (all_nil)) (fun s=>by kernel_rfl)
def zAq(κ:Nat):Cut T:=zCW.cut (zW 0 [0,3,4,47]) (cur _ (yR.v10 κ))
theorem zOD(κ:Nat)(m:Int):zP Tryz.prog C (G m) Tryz.f23.ntmps 0 (zG (.cnd 47 12) (zC Tryz.f23)) (zAq κ):=zPH κ m
def zT3(κ:Nat):Key→Option (Cut T):=zh (zH5 κ) (.cnd 47 12) (zAq κ)
def zDt:=yi (T:=T) [⟨[(0,.sl 55),(3,.s),(4,.i .i64)],[],[]⟩] [⟨.normal,⟨[(0,.sl 55),(3,.s),(4,.i .i64)],[],[]⟩⟩,⟨.ret,⟨[(2,.s)],[],[]⟩⟩]
theorem zQz:zN zDt:=zQ _ _
theorem zSJ(κ:Nat)(m:Int):zP Tryz.prog C (G m) Tryz.f23.ntmps 0 (zG (.blk 1) (zC Tryz.f23)) (zDt.cut (zW 0 [0,3,4]) (cur _ (yR.v7 κ))):=
 Piece.join zQz zY mixed (zCf κ m) zF zgM (cut:=(zT3 κ)) (X:=zni) (zI (l:=[(zG (.reg 7) (zC Tryz.f23),zCR κ),(zG (.cnd 47 12) (zC Tryz.f23),zAq κ)]) (by kernel_rfl) (all_cons (zOy κ m) (all_cons (zOD κ m) (all_nil)))) (fun s=>by kernel_rfl)
def p4(κ:Nat):Cut T:=zDt.cut (zW 0 [0,3,4]) (cur _ (yR.v7 κ))
theorem zNE(κ:Nat)(m:Int):zP Tryz.prog C (G m) Tryz.f23.ntmps 0 (zG (.blk 1) (zC Tryz.f23)) (p4 κ):=zSJ κ m
def zSt(κ:Nat):Key→Option (Cut T):=zh zS (.blk 1) (p4 κ)
def zDV:=yi (T:=T) [⟨[(0,.sl 55),(3,.s),(4,.i .i64)],[],[]⟩] [⟨.normal,⟨[(0,.sl 55),(3,.s)],[],[]⟩⟩,⟨.ret,⟨[(2,.s)],[],[]⟩⟩]
theorem zR7:zN zDV:=zQ _ _
theorem zRP(κ:Nat)(m:Int):zP Tryz.prog C (G m) Tryz.f23.ntmps 0 (zG (.blk 0) (zC Tryz.f23)) (zDV.cut (zW 0 [0,3,4]) (yR.l6 κ κ)):=
 Piece.loop zR7 zY mixed (zCf κ m) zF zgG (cut:=(zSt κ)) (X:=znT) (id:=0) (body:=zf (zG (.blk 0) (zC Tryz.f23))) (zI (l:=[(zG (.blk 1) (zC Tryz.f23),p4 κ)]) (by kernel_rfl) (all_cons (zNE κ m) (all_nil))) (f:=yR.l6 κ) (fun s=>by kernel_rfl) (fun k s=>by kernel_rfl) κ
def zAy(κ:Nat):Cut T:=zDV.cut (zW 0 [0,3,4]) (yR.l6 κ κ)
theorem zNj(κ:Nat)(m:Int):zP Tryz.prog C (G m) Tryz.f23.ntmps 0 (zG (.blk 0) (zC Tryz.f23)) (zAy κ):=zRP κ m
def zUR(κ:Nat):Key→Option (Cut T):=zh zS (.blk 0) (zAy κ)
def zEi:=vB (T:=T) [.sl 55] [] [⟨false,.s,[]⟩]
theorem zTe:zo zEi:=zw _ _ _
theorem zYD(κ:Nat)(m:Int):wM Tryz.prog C (G m) 23 (zEi.entry (fun a0=>yR κ a0)):=
 Spec.ok zTe zY mixed (zCf κ m) (cut:=(zUR κ)) (NR:=(zW 0 [0])) (NP:=(zW 0 [0])) (nB:=0) Tryz.func23 (c:=(zC Tryz.f23)) (by kernel_rfl) (by kernel_rfl) (fun i=>by kernel_rfl) zF zF (zI (l:=[(zG (.blk 0) (zC Tryz.f23),zAy κ)]) (by kernel_rfl) (all_cons (zNj κ m) (all_nil))) (fun i=>by kernel_rfl)
noncomputable def zhr(κ:Nat):qK T:=(zjH κ).zj 23 zEi (fun a0=>yR κ a0)
theorem zMt(κ:Nat)(m:Int):ql Tryz.prog C (G m) (zhr κ):=(zCf κ m).zj (zYD κ m)
def zDy:=yi (T:=T) [⟨[(0,.s),(1,.i .i64)],[],[]⟩] [⟨.normal,⟨[(0,.s),(1,.i .i64),(38,.b)],[],[]⟩⟩]
theorem zQ9:zN zDy:=zQ _ _
theorem zRG(κ:Nat)(m:Int):zP Tryz.prog C (G m) Tryz.f57.ntmps 0 (zG (.reg 1) (zC Tryz.f57)) (zDy.cut (zW 0 [0,1]) (cur _ (qB.v3 κ))):=
 Piece.join zQ9 zY mixed (zMt κ m) zF zgW (cut:=zS) (X:=zmQ) (zI (l:=[]) (by kernel_rfl) (all_nil)) (fun s=>by kernel_rfl)
def zBc(κ:Nat):Cut T:=zDy.cut (zW 0 [0,1]) (cur _ (qB.v3 κ))
theorem zOn(κ:Nat)(m:Int):zP Tryz.prog C (G m) Tryz.f57.ntmps 0 (zG (.reg 1) (zC Tryz.f57)) (zBc κ):=zRG κ m
def zVO(κ:Nat):Key→Option (Cut T):=zh zS (.reg 1) (zBc κ)
def zDv:=yi (T:=T) [⟨[(0,.s),(1,.i .i64)],[],[]⟩] [⟨.normal,⟨[(1,.i .i64)],[],[]⟩⟩]
theorem zR8:zN zDv:=zQ _ _
theorem zST(κ:Nat)(m:Int):zP Tryz.prog C (G m) Tryz.f57.ntmps 0 (zG (.blk 0) (zC Tryz.f57)) (zDv.cut (zW 0 [0,1]) (qB.l2 κ κ)):=
 Piece.loop zR8 zY mixed (zMt κ m) zF zf5 (cut:=(zVO κ)) (X:=zmE) (id:=0) (body:=zf (zG (.blk 0) (zC Tryz.f57))) (zI (l:=[(zG (.reg 1) (zC Tryz.f57),zBc κ)]) (by kernel_rfl) (all_cons (zOn κ m) (all_nil))) (f:=qB.l2 κ) (fun s=>by kernel_rfl) (fun k s=>by kernel_rfl) κ
def zBb(κ:Nat):Cut T:=zDv.cut (zW 0 [0,1]) (qB.l2 κ κ)
theorem zOm(κ:Nat)(m:Int):zP Tryz.prog C (G m) Tryz.f57.ntmps 0 (zG (.blk 0) (zC Tryz.f57)) (zBb κ):=zST κ m
def zVP(κ:Nat):Key→Option (Cut T):=zh zS (.blk 0) (zBb κ)
def zFG:=vB (T:=T) [.s,.i .i64] [] [⟨false,.i .i64,[]⟩]
theorem zTI:zo zFG:=zw _ _ _
theorem zXq(κ:Nat)(m:Int):wM Tryz.prog C (G m) 57 (zFG.entry (cur _ (qB κ))):=
 Spec.ok zTI zY mixed (zMt κ m) (cut:=(zVP κ)) (NR:=(zW 0 [0])) (NP:=(zW 0 [0])) (nB:=0) Tryz.func57 (c:=(zC Tryz.f57)) (by kernel_rfl) (by kernel_rfl) (fun i=>by kernel_rfl) zF zF (zI (l:=[(zG (.blk 0) (zC Tryz.f57),zBb κ)]) (by kernel_rfl) (all_cons (zOm κ m) (all_nil))) (fun i=>by kernel_rfl)
noncomputable def zjW(κ:Nat):qK T:=(zhr κ).zj 57 zFG (cur _ (qB κ))
theorem ua(κ:Nat)(m:Int):ql Tryz.prog C (G m) (zjW κ):=(zMt κ m).zj (zXq κ m)
def zAD:=yi (T:=T) [⟨[(0,.s),(5,.own 0),(6,.i .i64)],[.row 55 true],[]⟩] [⟨.normal,⟨[(0,.s),(5,.own 0),(6,.i .i64),(20,.b)],[.row 55 true],[]⟩⟩]
theorem zME:zN zAD:=zQ _ _
theorem zN0(κ:Nat)(m:Int):zP Tryz.prog C (G m) Tryz.f38.ntmps 0 (zG (.reg 5) (zC Tryz.f38)) (zAD.cut (zW 0 [0,5,6]) (cur _ (z6.v21 κ))):=
 Piece.join zME zY mixed (ua κ m) zF zfy (cut:=zS) (X:=zng) (zI (l:=[]) (by kernel_rfl) (all_nil)) (fun s=>by kernel_rfl)
def dB(κ:Nat):Cut T:=zAD.cut (zW 0 [0,5,6]) (cur _ (z6.v21 κ))
theorem zKR(κ:Nat)(m:Int):zP Tryz.prog C (G m) Tryz.f38.ntmps 0 (zG (.reg 5) (zC Tryz.f38)) (dB κ):=zN0 κ m
def zEH(κ:Nat):Key→Option (Cut T):=zh zS (.reg 5) (dB κ)
def zBA:=yi (T:=T) [⟨[(0,.s),(5,.own 0),(6,.i .i64)],[.row 55 true],[]⟩] [⟨.normal,⟨[(0,.s),(5,.own 0),(6,.i .i64),(30,.b)],[.row 55 true],[]⟩⟩]
theorem zMT:zN zBA:=zQ _ _
theorem zN7(κ:Nat)(m:Int):zP Tryz.prog C (G m) Tryz.f38.ntmps 0 (zG (.reg 6) (zC Tryz.f38)) (zBA.cut (zW 0 [0,5,6]) (cur _ (z6.v23 κ))):=
 Piece.join zMT zY mixed (ua κ m) zF zgP (cut:=(zEH κ)) (X:=zlm) (zI (l:=[]) (by kernel_rfl) (all_nil)) (fun s=>by kernel_rfl)
def bz(κ:Nat):Cut T:=zBA.cut (zW 0 [0,5,6]) (cur _ (z6.v23 κ))
theorem zJ4(κ:Nat)(m:Int):zP Tryz.prog C (G m) Tryz.f38.ntmps 0 (zG (.reg 6) (zC Tryz.f38)) (bz κ):=zN7 κ m
def zEG(κ:Nat):Key→Option (Cut T):=zh (zEH κ) (.reg 6) (bz κ)
def zA3:=yi (T:=T) [⟨[(0,.s),(5,.own 0),(6,.i .i64),(8,.ptr 1 0)],kk4,[]⟩] [⟨.normal,⟨[(0,.s),(5,.own 0),(6,.i .i64),(8,.ptr 1 0),(62,.b)],kk4,[]⟩⟩]
theorem zNP:zN zA3:=zQ _ _
theorem zMg(κ:Nat)(m:Int):zP Tryz.prog C (G m) Tryz.f38.ntmps 0 (zG (.reg 17) (zC Tryz.f38)) (zA3.cut (zW 0 [0,5,6,8]) (cur _ (z6.v25 κ))):=
 Piece.join zNP zY mixed (ua κ m) zF zhN (cut:=(zEG κ)) (X:=znq) (zI (l:=[]) (by kernel_rfl) (all_nil)) (fun s=>by kernel_rfl)
def u6(κ:Nat):Cut T:=zA3.cut (zW 0 [0,5,6,8]) (cur _ (z6.v25 κ))
theorem zIn(κ:Nat)(m:Int):zP Tryz.prog C (G m) Tryz.f38.ntmps 0 (zG (.reg 17) (zC Tryz.f38)) (u6 κ):=zMg κ m
def dr(κ:Nat):Key→Option (Cut T):=zh (zEG κ) (.reg 17) (u6 κ)
def zAL:=yi (T:=T) [⟨[(0,.s),(5,.own 0),(7,.i .i64),(8,.ptr 1 0)],kk4,[]⟩] [⟨.normal,⟨[(0,.s),(5,.own 0),(7,.i .i64),(8,.ptr 1 0),(89,.b)],kk4,[]⟩⟩]
theorem zNQ:zN zAL:=zQ _ _
theorem zMV(κ:Nat)(m:Int):zP Tryz.prog C (G m) Tryz.f38.ntmps 0 (zG (.reg 23) (zC Tryz.f38)) (zAL.cut (zW 0 [0,5,7,8]) (cur _ (z6.v28 κ))):=
 Piece.join zNQ zY mixed (ua κ m) zF zg6 (cut:=(dr κ)) (X:=zm5) (zI (l:=[]) (by kernel_rfl) (all_nil)) (fun s=>by kernel_rfl)
def bh(κ:Nat):Cut T:=zAL.cut (zW 0 [0,5,7,8]) (cur _ (z6.v28 κ))
theorem zJr(κ:Nat)(m:Int):zP Tryz.prog C (G m) Tryz.f38.ntmps 0 (zG (.reg 23) (zC Tryz.f38)) (bh κ):=zMV κ m
def zSX(κ:Nat):Key→Option (Cut T):=zh (dr κ) (.reg 23) (bh κ)
def zAC:=yi (T:=T) [⟨[(0,.s),(5,.own 0),(6,.i .i64),(8,.ptr 1 0),(62,.b)],kk4,[]⟩] [⟨.normal,⟨[(0,.s),(5,.own 0),(6,.i .i64),(8,.ptr 1 0)],kk4,[]⟩⟩,⟨.ret,⟨[(2,.qG),(3,.i .i64),(4,.i .i64)],[],[]⟩⟩]
theorem zNn:zN zAC:=zQ _ _
theorem zM6(κ:Nat)(m:Int):zP Tryz.prog C (G m) Tryz.f38.ntmps 0 (zG (.cnd 62 19) (zC Tryz.f38)) (zAC.cut (zW 0 [0,5,6,8,62]) (cur _ (z6.v27 κ))):=
 Piece.join zNn zY mixed (ua κ m) zF zfp (cut:=(zSX κ)) (X:=znF) (zI (l:=[(zG (.reg 23) (zC Tryz.f38),bh κ)]) (by kernel_rfl) (all_cons (zJr κ m) (all_nil))) (fun s=>by kernel_rfl)
def dT(κ:Nat):Cut T:=zAC.cut (zW 0 [0,5,6,8,62]) (cur _ (z6.v27 κ))
theorem zI6(κ:Nat)(m:Int):zP Tryz.prog C (G m) Tryz.f38.ntmps 0 (zG (.cnd 62 19) (zC Tryz.f38)) (dT κ):=zM6 κ m
def zRp(κ:Nat):Key→Option (Cut T):=zh (dr κ) (.cnd 62 19) (dT κ)
def zA1:=yi (T:=T) [⟨[(0,.s),(5,.own 0),(6,.i .i64)],[.row 55 true],[]⟩] [⟨.normal,⟨[(5,.own 0)],[.row 55 true],[]⟩⟩,⟨.ret,⟨[(2,.qG),(3,.i .i64),(4,.i .i64)],[],[]⟩⟩]
theorem zMY:zN zA1:=zQ _ _
theorem zMk(κ:Nat)(m:Int):zP Tryz.prog C (G m) Tryz.f38.ntmps 0 (zG (.blk 0) (zC Tryz.f38)) (zA1.cut nn5 (z6.l20 κ κ)):=
 Piece.loop zMY zY mixed (ua κ m) zj3 zhT (cut:=(zRp κ)) (X:=zmf) (id:=0) (body:=zf (zG (.blk 0) (zC Tryz.f38))) (zI (l:=[(zG (.reg 5) (zC Tryz.f38),dB κ),(zG (.reg 6) (zC Tryz.f38),bz κ),(zG (.reg 17) (zC Tryz.f38),u6 κ),(zG (.cnd 62 19) (zC Tryz.f38),dT κ)]) (by kernel_rfl) (all_cons (zKR κ m) (all_cons (zJ4 κ m) (all_cons (zIn κ m) (all_cons (zI6 κ m) (all_nil)))))) (f:=z6.l20 κ) (fun s=>by kernel_rfl) (fun k s=>by kernel_rfl) κ
def bA(κ:Nat):Cut T:=zA1.cut nn5 (z6.l20 κ κ)
theorem zLZ(κ:Nat)(m:Int):zP Tryz.prog C (G m) Tryz.f38.ntmps 0 (zG (.blk 0) (zC Tryz.f38)) (bA κ):=zMk κ m
def zSL(κ:Nat):Key→Option (Cut T):=zh zS (.blk 0) (bA κ)
def zDI:=vB (T:=T) [.s] [] [⟨false,.qu [.own 0,.i .i64,.i .i64],[.row 55 true]⟩]
theorem zSV:zo zDI:=zw _ _ _
theorem zWX(κ:Nat)(m:Int):wM Tryz.prog C (G m) 38 (zDI.entry (fun a0=>z6 κ a0)):=
 Spec.ok zSV zY mixed (ua κ m) (cut:=(zSL κ)) (NR:=(jO (zSn 0 [0] 55) (zW 0 [0]))) (NP:=(zW 0 [0])) (nB:=0) Tryz.func38 (c:=(zC Tryz.f38)) (by kernel_rfl) (by kernel_rfl) (fun i=>by kernel_rfl) (y7 zFb zF) zF (zI (l:=[(zG (.blk 0) (zC Tryz.f38),bA κ)]) (by kernel_rfl) (all_cons (zLZ κ m) (all_nil))) (fun i=>by kernel_rfl)
noncomputable def zi8(κ:Nat):qK T:=(zjW κ).zj 38 zDI (fun a0=>z6 κ a0)
theorem zSy(κ:Nat)(m:Int):ql Tryz.prog C (G m) (zi8 κ):=(ua κ m).zj (zWX κ m)
def gn:=yi (T:=T) [⟨[(0,.i .u64),(3,.s)],[],[]⟩] [⟨.normal,⟨[(3,.s)],[],[]⟩⟩]
theorem zG9:zN gn:=zQ _ _
theorem zHk(κ:Nat)(m:Int):zP Tryz.prog C (G m) Tryz.f24.ntmps 0 (zG (.blk 0) (zC Tryz.f24)) (gn.cut (zW 0 [0,3]) (yV.l0 κ κ)):=
 Piece.loop zG9 zY mixed (zSy κ m) zF zTF (cut:=zS) (X:=xx6) (id:=0) (body:=zf (zG (.blk 0) (zC Tryz.f24))) (zI (l:=[]) (by kernel_rfl) (all_nil)) (f:=yV.l0 κ) (fun s=>by kernel_rfl) (fun k s=>by kernel_rfl) κ
def kt(κ:Nat):Cut T:=gn.cut (zW 0 [0,3]) (yV.l0 κ κ)
theorem zFQ(κ:Nat)(m:Int):zP Tryz.prog C (G m) Tryz.f24.ntmps 0 (zG (.blk 0) (zC Tryz.f24)) (kt κ):=zHk κ m
def zLr(κ:Nat):Key→Option (Cut T):=zh zS (.blk 0) (kt κ)
def dO:=vB (T:=T) [.i .u64] [] [⟨false,.s,[]⟩]
theorem zKJ:zo dO:=zw _ _ _
theorem zRJ(κ:Nat)(m:Int):wM Tryz.prog C (G m) 24 (dO.entry (fun a0=>yV κ a0)):=
 Spec.ok zKJ zY mixed (zSy κ m) (cut:=(zLr κ)) (NR:=(zW 0 [0])) (NP:=(zW 0 [0])) (nB:=0) Tryz.func24 (c:=(zC Tryz.f24)) (by kernel_rfl) (by kernel_rfl) (fun i=>by kernel_rfl) zF zF (zI (l:=[(zG (.blk 0) (zC Tryz.f24),kt κ)]) (by kernel_rfl) (all_cons (zFQ κ m) (all_nil))) (fun i=>by kernel_rfl)
noncomputable def zjG(κ:Nat):qK T:=(zi8 κ).zj 24 dO (fun a0=>yV κ a0)
theorem zLq(κ:Nat)(m:Int):ql Tryz.prog C (G m) (zjG κ):=(zSy κ m).zj (zRJ κ m)
def zDT:=yi (T:=T) [⟨[(0,.s),(4,.i .u64),(5,.i .i64)],[],[]⟩] [⟨.normal,⟨[(0,.s),(4,.i .u64),(5,.i .i64),(13,.b)],[],[]⟩⟩]
theorem zRy:zN zDT:=zQ _ _
theorem zRt(κ:Nat)(m:Int):zP Tryz.prog C (G m) Tryz.f30.ntmps 0 (zG (.reg 3) (zC Tryz.f30)) (zDT.cut (zW 0 [0,4,5]) (cur _ (yw.v3 κ))):=
 Piece.join zRy zY mixed (zLq κ m) zF zhH (cut:=zS) (X:=zlh) (zI (l:=[]) (by kernel_rfl) (all_nil)) (fun s=>by kernel_rfl)
def zCB(κ:Nat):Cut T:=zDT.cut (zW 0 [0,4,5]) (cur _ (yw.v3 κ))
theorem zOs(κ:Nat)(m:Int):zP Tryz.prog C (G m) Tryz.f30.ntmps 0 (zG (.reg 3) (zC Tryz.f30)) (zCB κ):=zRt κ m
def zVI(κ:Nat):Key→Option (Cut T):=zh zS (.reg 3) (zCB κ)
def zDl:=yi (T:=T) [⟨[(0,.s),(4,.i .u64),(5,.i .i64)],[],[]⟩] [⟨.normal,⟨[(0,.s),(4,.i .u64)],[],[]⟩⟩]
theorem zR6:zN zDl:=zQ _ _
theorem zQ1(κ:Nat)(m:Int):zP Tryz.prog C (G m) Tryz.f30.ntmps 0 (zG (.blk 0) (zC Tryz.f30)) (zDl.cut (zW 0 [0,4,5]) (yw.l2 κ κ)):=
 Piece.loop zR6 zY mixed (zLq κ m) zF zf3 (cut:=(zVI κ)) (X:=zlf) (id:=0) (body:=zf (zG (.blk 0) (zC Tryz.f30))) (zI (l:=[(zG (.reg 3) (zC Tryz.f30),zCB κ)]) (by kernel_rfl) (all_cons (zOs κ m) (all_nil))) (f:=yw.l2 κ) (fun s=>by kernel_rfl) (fun k s=>by kernel_rfl) κ
def zB9(κ:Nat):Cut T:=zDl.cut (zW 0 [0,4,5]) (yw.l2 κ κ)
theorem zOP(κ:Nat)(m:Int):zP Tryz.prog C (G m) Tryz.f30.ntmps 0 (zG (.blk 0) (zC Tryz.f30)) (zB9 κ):=zQ1 κ m
def zVS(κ:Nat):Key→Option (Cut T):=zh zS (.blk 0) (zB9 κ)
def zFD:=vB (T:=T) [.s] [] [⟨false,.qu [.i .u64,.b],[]⟩]
theorem zTN:zo zFD:=zw _ _ _
theorem zXb(κ:Nat)(m:Int):wM Tryz.prog C (G m) 30 (zFD.entry (fun a0=>yw κ a0)):=
 Spec.ok zTN zY mixed (zLq κ m) (cut:=(zVS κ)) (NR:=(zW 0 [0])) (NP:=(zW 0 [0])) (nB:=0) Tryz.func30 (c:=(zC Tryz.f30)) (by kernel_rfl) (by kernel_rfl) (fun i=>by kernel_rfl) zF zF (zI (l:=[(zG (.blk 0) (zC Tryz.f30),zB9 κ)]) (by kernel_rfl) (all_cons (zOP κ m) (all_nil))) (fun i=>by kernel_rfl)
noncomputable def zio(κ:Nat):qK T:=(zjG κ).zj 30 zFD (fun a0=>yw κ a0)
theorem zSs(κ:Nat)(m:Int):ql Tryz.prog C (G m) (zio κ):=(zLq κ m).zj (zXb κ m)
def p9:=yi (T:=T) [⟨[(3,.i .u8)],[],[]⟩] [⟨.normal,⟨[(2,.b)],[],[]⟩⟩]
theorem zLs:zN p9:=zQ _ _
theorem zNR(κ:Nat)(m:Int):zP Tryz.prog C (G m) Tryz.f37.ntmps 0 (zG (.reg 4) (zC Tryz.f37)) (p9.cut (zW 0 [3]) (fun a0=>wC.v0 κ a0)):=
 Piece.join zLs zY mixed (zSs κ m) zF zKv (cut:=zS) (X:=xx0) (zI (l:=[]) (by kernel_rfl) (all_nil)) (fun s=>by kernel_rfl)
def uy(κ:Nat):Cut T:=p9.cut (zW 0 [3]) (fun a0=>wC.v0 κ a0)
theorem zJL(κ:Nat)(m:Int):zP Tryz.prog C (G m) Tryz.f37.ntmps 0 (zG (.reg 4) (zC Tryz.f37)) (uy κ):=zNR κ m
def zSI(κ:Nat):Key→Option (Cut T):=zh zS (.reg 4) (uy κ)
def zBi:=vB (T:=T) [.s] [] [⟨false,.b,[]⟩]
theorem zQS:zo zBi:=zw _ _ _
theorem zU4(κ:Nat)(m:Int):wM Tryz.prog C (G m) 37 (zBi.entry (fun a0=>wC κ a0)):=
 Spec.ok zQS zY mixed (zSs κ m) (cut:=(zSI κ)) (NR:=(zW 0 [0])) (NP:=(zW 0 [0])) (nB:=0) Tryz.func37 (c:=(zC Tryz.f37)) (by kernel_rfl) (by kernel_rfl) (fun i=>by kernel_rfl) zF zF (zI (l:=[(zG (.reg 4) (zC Tryz.f37),uy κ)]) (by kernel_rfl) (all_cons (zJL κ m) (all_nil))) (fun i=>by kernel_rfl)
noncomputable def zjT(κ:Nat):qK T:=(zio κ).zj 37 zBi (fun a0=>wC κ a0)
theorem zUj(κ:Nat)(m:Int):ql Tryz.prog C (G m) (zjT κ):=(zSs κ m).zj (zU4 κ m)
def zB8:=yi (T:=T) [⟨[(0,.s),(3,.i .i64)],[],[]⟩] [⟨.normal,⟨[(0,.s)],[],[]⟩⟩,⟨.ret,⟨[(2,.b)],[],[]⟩⟩]
theorem zPB:zN zB8:=zQ _ _
theorem zPE(κ:Nat)(m:Int):zP Tryz.prog C (G m) Tryz.f22.ntmps 0 (zG (.blk 0) (zC Tryz.f22)) (zB8.cut (zW 0 [0,3]) (qS.l0 κ κ)):=
 Piece.loop zPB zY mixed (zUj κ m) zF zbC (cut:=zS) (X:=zlG) (id:=0) (body:=zf (zG (.blk 0) (zC Tryz.f22))) (zI (l:=[]) (by kernel_rfl) (all_nil)) (f:=qS.l0 κ) (fun s=>by kernel_rfl) (fun k s=>by kernel_rfl) κ
def zAh(κ:Nat):Cut T:=zB8.cut (zW 0 [0,3]) (qS.l0 κ κ)
theorem zMa(κ:Nat)(m:Int):zP Tryz.prog C (G m) Tryz.f22.ntmps 0 (zG (.blk 0) (zC Tryz.f22)) (zAh κ):=zPE κ m
def zUd(κ:Nat):Key→Option (Cut T):=zh zS (.blk 0) (zAh κ)
def zDi:=vB (T:=T) [.s] [] [⟨false,.b,[]⟩]
theorem zRQ:zo zDi:=zw _ _ _
theorem zWz(κ:Nat)(m:Int):wM Tryz.prog C (G m) 22 (zDi.entry (fun a0=>qS κ a0)):=
 Spec.ok zRQ zY mixed (zUj κ m) (cut:=(zUd κ)) (NR:=(zW 0 [0])) (NP:=(zW 0 [0])) (nB:=0) Tryz.func22 (c:=(zC Tryz.f22)) (by kernel_rfl) (by kernel_rfl) (fun i=>by kernel_rfl) zF zF (zI (l:=[(zG (.blk 0) (zC Tryz.f22),zAh κ)]) (by kernel_rfl) (all_cons (zMa κ m) (all_nil))) (fun i=>by kernel_rfl)
noncomputable def ziH(κ:Nat):qK T:=(zjT κ).zj 22 zDi (fun a0=>qS κ a0)
theorem p2(κ:Nat)(m:Int):ql Tryz.prog C (G m) (ziH κ):=(zUj κ m).zj (zWz κ m)
def zAc:=yi (T:=T) [⟨[(0,.s),(3,.s),(4,.i .i64),(5,.i .i64),(6,.i .i64),(7,.i .i64),(32,.b)],[],[]⟩] [⟨.normal,⟨[(0,.s),(3,.s),(4,.i .i64),(5,.i .i64),(6,.i .i64),(7,.i .i64)],[],[]⟩⟩]
theorem zMQ:zN zAc:=zQ _ _
theorem zLn(κ:Nat)(m:Int):zP Tryz.prog C (G m) Tryz.f39.ntmps 0 (zG (.cnd 32 15) (zC Tryz.f39)) (zAc.cut (zW 0 [0,3,4,5,6,7,32]) (cur _ (zq.v40 κ))):=
 Piece.join zMQ zY mixed (p2 κ m) zF zfk (cut:=zS) (X:=znj) (zI (l:=[]) (by kernel_rfl) (all_nil)) (fun s=>by kernel_rfl)
def bg(κ:Nat):Cut T:=zAc.cut (zW 0 [0,3,4,5,6,7,32]) (cur _ (zq.v40 κ))
theorem zLd(κ:Nat)(m:Int):zP Tryz.prog C (G m) Tryz.f39.ntmps 0 (zG (.cnd 32 15) (zC Tryz.f39)) (bg κ):=zLn κ m
def zRu(κ:Nat):Key→Option (Cut T):=zh zS (.cnd 32 15) (bg κ)
def pz:=yi (T:=T) [⟨[(0,.s),(3,.s),(4,.i .i64),(5,.i .i64),(6,.i .i64),(7,.i .i64)],[],[]⟩] [⟨.normal,⟨[(0,.s),(3,.s),(4,.i .i64),(5,.i .i64),(6,.i .i64),(7,.i .i64)],[],[]⟩⟩]
theorem zN9:zN pz:=zQ _ _
theorem zMc(κ:Nat)(m:Int):zP Tryz.prog C (G m) Tryz.f39.ntmps 0 (zG (.blk 5) (zC Tryz.f39)) (pz.cut (zW 0 [0,3,4,5,6,7]) (cur _ (zq.v39 κ))):=
 Piece.join zN9 zY mixed (p2 κ m) zF zf2 (cut:=(zRu κ)) (X:=zno) (zI (l:=[(zG (.cnd 32 15) (zC Tryz.f39),bg κ)]) (by kernel_rfl) (all_cons (zLd κ m) (all_nil))) (fun s=>by kernel_rfl)
def dW(κ:Nat):Cut T:=pz.cut (zW 0 [0,3,4,5,6,7]) (cur _ (zq.v39 κ))
theorem zKq(κ:Nat)(m:Int):zP Tryz.prog C (G m) Tryz.f39.ntmps 0 (zG (.blk 5) (zC Tryz.f39)) (dW κ):=zMc κ m
def zQw(κ:Nat):Key→Option (Cut T):=zh zS (.blk 5) (dW κ)
def zA6:=yi (T:=T) [⟨[(0,.s),(3,.s),(4,.i .i64),(5,.i .i64),(6,.i .i64),(7,.i .i64)],[],[]⟩] [⟨.normal,⟨[(0,.s),(3,.s),(4,.i .i64),(5,.i .i64),(6,.i .i64)],[],[]⟩⟩]
theorem zNG:zN zA6:=zQ _ _
theorem zMq(κ:Nat)(m:Int):zP Tryz.prog C (G m) Tryz.f39.ntmps 0 (zG (.blk 4) (zC Tryz.f39)) (zA6.cut (zW 0 [0,3,4,5,6,7]) (zq.l38 κ κ)):=
 Piece.loop zNG zY mixed (p2 κ m) zF zhg (cut:=(zQw κ)) (X:=znC) (id:=4) (body:=zf (zG (.blk 4) (zC Tryz.f39))) (zI (l:=[(zG (.blk 5) (zC Tryz.f39),dW κ)]) (by kernel_rfl) (all_cons (zKq κ m) (all_nil))) (f:=zq.l38 κ) (fun s=>by kernel_rfl) (fun k s=>by kernel_rfl) κ
def dc(κ:Nat):Cut T:=zA6.cut (zW 0 [0,3,4,5,6,7]) (zq.l38 κ κ)
theorem zKE(κ:Nat)(m:Int):zP Tryz.prog C (G m) Tryz.f39.ntmps 0 (zG (.blk 4) (zC Tryz.f39)) (dc κ):=zMq κ m
def zRw(κ:Nat):Key→Option (Cut T):=zh zS (.blk 4) (dc κ)
def zAk:=yi (T:=T) [⟨[(0,.s),(3,.s),(4,.i .i64),(5,.i .i64),(6,.i .i64)],[],[]⟩] [⟨.normal,⟨[(0,.s),(3,.s),(4,.i .i64),(5,.i .i64)],[],[]⟩⟩]
theorem zN8:zN zAk:=zQ _ _
theorem zMx(κ:Nat)(m:Int):zP Tryz.prog C (G m) Tryz.f39.ntmps 0 (zG (.blk 2) (zC Tryz.f39)) (zAk.cut (zW 0 [0,3,4,5,6]) (zq.l33 κ κ)):=
 Piece.loop zN8 zY mixed (p2 κ m) zF zhB (cut:=(zRw κ)) (X:=zmB) (id:=2) (body:=zf (zG (.blk 2) (zC Tryz.f39))) (zI (l:=[(zG (.blk 4) (zC Tryz.f39),dc κ)]) (by kernel_rfl) (all_cons (zKE κ m) (all_nil))) (f:=zq.l33 κ) (fun s=>by kernel_rfl) (fun k s=>by kernel_rfl) κ
def dQ(κ:Nat):Cut T:=zAk.cut (zW 0 [0,3,4,5,6]) (zq.l33 κ κ)
theorem zI2(κ:Nat)(m:Int):zP Tryz.prog C (G m) Tryz.f39.ntmps 0 (zG (.blk 2) (zC Tryz.f39)) (dQ κ):=zMx κ m
def zRq(κ:Nat):Key→Option (Cut T):=zh zS (.blk 2) (dQ κ)
def zAY:=yi (T:=T) [⟨[(0,.s),(3,.s),(4,.i .i64)],[],[]⟩] [⟨.normal,⟨[(3,.s)],[],[]⟩⟩]
theorem zNu:zN zAY:=zQ _ _
theorem zNB(κ:Nat)(m:Int):zP Tryz.prog C (G m) Tryz.f39.ntmps 0 (zG (.blk 0) (zC Tryz.f39)) (zAY.cut (zW 0 [0,3,4]) (zq.l22 κ κ)):=
 Piece.loop zNu zY mixed (p2 κ m) zF zTF (cut:=(zRq κ)) (X:=xx6) (id:=0) (body:=zf (zG (.blk 0) (zC Tryz.f39))) (zI (l:=[(zG (.blk 2) (zC Tryz.f39),dQ κ)]) (by kernel_rfl) (all_cons (zI2 κ m) (all_nil))) (f:=zq.l22 κ) (fun s=>by kernel_rfl) (fun k s=>by kernel_rfl) κ
def bZ(κ:Nat):Cut T:=zAY.cut (zW 0 [0,3,4]) (zq.l22 κ κ)
theorem zJB(κ:Nat)(m:Int):zP Tryz.prog C (G m) Tryz.f39.ntmps 0 (zG (.blk 0) (zC Tryz.f39)) (bZ κ):=zNB κ m
def zSD(κ:Nat):Key→Option (Cut T):=zh zS (.blk 0) (bZ κ)
def zDQ:=vB (T:=T) [.s] [] [⟨false,.s,[]⟩]
theorem zSE:zo zDQ:=zw _ _ _
theorem zWS(κ:Nat)(m:Int):wM Tryz.prog C (G m) 39 (zDQ.entry (fun a0=>zq κ a0)):=
 Spec.ok zSE zY mixed (p2 κ m) (cut:=(zSD κ)) (NR:=(zW 0 [0])) (NP:=(zW 0 [0])) (nB:=0) Tryz.func39 (c:=(zC Tryz.f39)) (by kernel_rfl) (by kernel_rfl) (fun i=>by kernel_rfl) zF zF (zI (l:=[(zG (.blk 0) (zC Tryz.f39),bZ κ)]) (by kernel_rfl) (all_cons (zJB κ m) (all_nil))) (fun i=>by kernel_rfl)
noncomputable def zhu(κ:Nat):qK T:=(ziH κ).zj 39 zDQ (fun a0=>zq κ a0)
theorem zTd(κ:Nat)(m:Int):ql Tryz.prog C (G m) (zhu κ):=(p2 κ m).zj (zWS κ m)
def zDk:=yi (T:=T) [⟨[(0,.s),(4,.i .i64)],[],[]⟩] [⟨.normal,⟨[(0,.s)],[],[]⟩⟩,⟨.ret,⟨[(2,.s),(3,.s)],[],[]⟩⟩]
theorem zQ0:zN zDk:=zQ _ _
theorem zSB(κ:Nat)(m:Int):zP Tryz.prog C (G m) Tryz.f29.ntmps 0 (zG (.blk 0) (zC Tryz.f29)) (zDk.cut (zW 0 [0,4]) (qZ.l0 κ κ)):=
 Piece.loop zQ0 zY mixed (zTd κ m) zF zf6 (cut:=zS) (X:=zmh) (id:=0) (body:=zf (zG (.blk 0) (zC Tryz.f29))) (zI (l:=[]) (by kernel_rfl) (all_nil)) (f:=qZ.l0 κ) (fun s=>by kernel_rfl) (fun k s=>by kernel_rfl) κ
def zCF(κ:Nat):Cut T:=zDk.cut (zW 0 [0,4]) (qZ.l0 κ κ)
theorem zOa(κ:Nat)(m:Int):zP Tryz.prog C (G m) Tryz.f29.ntmps 0 (zG (.blk 0) (zC Tryz.f29)) (zCF κ):=zSB κ m
def zU3(κ:Nat):Key→Option (Cut T):=zh zS (.blk 0) (zCF κ)
def zFc:=vB (T:=T) [.s] [] [⟨false,.qu [.s,.s],[]⟩]
theorem zUh:zo zFc:=zw _ _ _
theorem zYR(κ:Nat)(m:Int):wM Tryz.prog C (G m) 29 (zFc.entry (fun a0=>qZ κ a0)):=
 Spec.ok zUh zY mixed (zTd κ m) (cut:=(zU3 κ)) (NR:=(zW 0 [0])) (NP:=(zW 0 [0])) (nB:=0) Tryz.func29 (c:=(zC Tryz.f29)) (by kernel_rfl) (by kernel_rfl) (fun i=>by kernel_rfl) zF zF (zI (l:=[(zG (.blk 0) (zC Tryz.f29),zCF κ)]) (by kernel_rfl) (all_cons (zOa κ m) (all_nil))) (fun i=>by kernel_rfl)
noncomputable def zh6(κ:Nat):qK T:=(zhu κ).zj 29 zFc (fun a0=>qZ κ a0)
theorem zSk(κ:Nat)(m:Int):ql Tryz.prog C (G m) (zh6 κ):=(zTd κ m).zj (zYR κ m)
def zBk:=yi (T:=T) [⟨[(0,.sl 55),(1,.sl 55),(5,.i .i64)],[],[]⟩] [⟨.normal,⟨[],[],[]⟩⟩,⟨.ret,⟨[(4,.b)],[],[]⟩⟩]
theorem zQP:zN zBk:=zQ _ _
theorem zPO(κ:Nat)(m:Int):zP Tryz.prog C (G m) Tryz.f28.ntmps 0 (zG (.blk 0) (zC Tryz.f28)) (zBk.cut (zW 0 [0,1,5]) (qV.l0 κ κ)):=
 Piece.loop zQP zY mixed (zSk κ m) zF zbd (cut:=zS) (X:=zky) (id:=0) (body:=zf (zG (.blk 0) (zC Tryz.f28))) (zI (l:=[]) (by kernel_rfl) (all_nil)) (f:=qV.l0 κ) (fun s=>by kernel_rfl) (fun k s=>by kernel_rfl) κ
def zAi(κ:Nat):Cut T:=zBk.cut (zW 0 [0,1,5]) (qV.l0 κ κ)
theorem zNb(κ:Nat)(m:Int):zP Tryz.prog C (G m) Tryz.f28.ntmps 0 (zG (.blk 0) (zC Tryz.f28)) (zAi κ):=zPO κ m
def zTV(κ:Nat):Key→Option (Cut T):=zh zS (.blk 0) (zAi κ)
def zDz:=vB (T:=T) [.sl 55,.sl 55] [] [⟨false,.b,[]⟩]
theorem zRo:zo zDz:=zw _ _ _
theorem zW0(κ:Nat)(m:Int):wM Tryz.prog C (G m) 28 (zDz.entry (cur _ (qV κ))):=
 Spec.ok zRo zY mixed (zSk κ m) (cut:=(zTV κ)) (NR:=(zW 0 [0])) (NP:=(zW 0 [0])) (nB:=0) Tryz.func28 (c:=(zC Tryz.f28)) (by kernel_rfl) (by kernel_rfl) (fun i=>by kernel_rfl) zF zF (zI (l:=[(zG (.blk 0) (zC Tryz.f28),zAi κ)]) (by kernel_rfl) (all_cons (zNb κ m) (all_nil))) (fun i=>by kernel_rfl)
noncomputable def zjV(κ:Nat):qK T:=(zh6 κ).zj 28 zDz (cur _ (qV κ))
theorem zUo(κ:Nat)(m:Int):ql Tryz.prog C (G m) (zjV κ):=(zSk κ m).zj (zW0 κ m)
def zDA:=yi (T:=T) [⟨[(0,.i .i64),(3,.own 0)],[.row 9 true],[]⟩] [⟨.normal,⟨[(0,.i .i64),(3,.own 0),(12,.b)],[.row 9 true],[]⟩⟩]
theorem zSA:zN zDA:=zQ _ _
theorem zRU(κ:Nat)(m:Int):zP Tryz.prog C (G m) Tryz.f19.ntmps 0 (zG (.reg 2) (zC Tryz.f19)) (zDA.cut (zW 0 [0,3]) (cur _ (yn.v0 κ))):=
 Piece.join zSA zY mixed (zUo κ m) zF zhY (cut:=zS) (X:=znY) (zI (l:=[]) (by kernel_rfl) (all_nil)) (fun s=>by kernel_rfl)
def zBj(κ:Nat):Cut T:=zDA.cut (zW 0 [0,3]) (cur _ (yn.v0 κ))
theorem zPt(κ:Nat)(m:Int):zP Tryz.prog C (G m) Tryz.f19.ntmps 0 (zG (.reg 2) (zC Tryz.f19)) (zBj κ):=zRU κ m
def zU8(κ:Nat):Key→Option (Cut T):=zh zS (.reg 2) (zBj κ)
def zFd:=vB (T:=T) [.i .i64] [] [⟨false,.s,[]⟩]
theorem zTn:zo zFd:=zw _ _ _
theorem zXX(κ:Nat)(m:Int):wM Tryz.prog C (G m) 19 (zFd.entry (fun a0=>yn κ a0)):=
 Spec.ok zTn zY mixed (zUo κ m) (cut:=(zU8 κ)) (NR:=(zW 0 [0])) (NP:=(zW 0 [0])) (nB:=0) Tryz.func19 (c:=(zC Tryz.f19)) (by kernel_rfl) (by kernel_rfl) (fun i=>by kernel_rfl) zF zF (zI (l:=[(zG (.reg 2) (zC Tryz.f19),zBj κ)]) (by kernel_rfl) (all_cons (zPt κ m) (all_nil))) (fun i=>by kernel_rfl)
noncomputable def zjb(κ:Nat):qK T:=(zjV κ).zj 19 zFd (fun a0=>yn κ a0)
theorem zS6(κ:Nat)(m:Int):ql Tryz.prog C (G m) (zjb κ):=(zUo κ m).zj (zXX κ m)
def zEB:=yi (T:=T) [⟨[(2,.ptr 0 0),(3,.ptr 1 0),(5,.b)],[.cells 32 none zJt,.cells 32 none zJt],[]⟩] [⟨.normal,⟨[(4,.b)],[],[]⟩⟩]
theorem zSN:zN zEB:=zQ _ _
theorem zQx(κ:Nat)(m:Int):zP Tryz.prog C (G m) Tryz.f14.ntmps 0 (zG (.reg 2) (zC Tryz.f14)) (zEB.cut (zW 0 [2,3,5]) (cur _ (jN.v0 κ))):=
 Piece.join zSN zY mixed (zS6 κ m) zF zZc (cut:=zS) (X:=xx7) (zI (l:=[]) (by kernel_rfl) (all_nil)) (fun s=>by kernel_rfl)
def zCJ(κ:Nat):Cut T:=zEB.cut (zW 0 [2,3,5]) (cur _ (jN.v0 κ))
theorem zP9(κ:Nat)(m:Int):zP Tryz.prog C (G m) Tryz.f14.ntmps 0 (zG (.reg 2) (zC Tryz.f14)) (zCJ κ):=zQx κ m
def zVT(κ:Nat):Key→Option (Cut T):=zh zS (.reg 2) (zCJ κ)
def zEd:=vB (T:=T) [.agg zJt,.agg zJt] [] [⟨false,.b,[]⟩]
theorem zS9:zo zEd:=zw _ _ _
theorem zXK(κ:Nat)(m:Int):wM Tryz.prog C (G m) 14 (zEd.entry (cur _ (jN κ))):=
 Spec.ok zS9 zY mixed (zS6 κ m) (cut:=(zVT κ)) (NR:=(zW 0 [0])) (NP:=(zW 0 [0])) (nB:=0) Tryz.func14 (c:=(zC Tryz.f14)) (by kernel_rfl) (by kernel_rfl) (fun i=>by kernel_rfl) zF zF (zI (l:=[(zG (.reg 2) (zC Tryz.f14),zCJ κ)]) (by kernel_rfl) (all_cons (zP9 κ m) (all_nil))) (fun i=>by kernel_rfl)
noncomputable def zjL(κ:Nat):qK T:=(zjb κ).zj 14 zEd (cur _ (jN κ))
theorem vG(κ:Nat)(m:Int):ql Tryz.prog C (G m) (zjL κ):=(zS6 κ m).zj (zXK κ m)
def zD3:=yi (T:=T) [⟨[(1,.ptr 0 0),(2,.ptr 1 0),(3,.i .i64),(4,.ptr 2 0),(10,.b)],zeH,[]⟩] [⟨.normal,⟨[(1,.ptr 0 0),(2,.ptr 1 0),(3,.i .i64),(4,.ptr 2 0)],zeH,[]⟩⟩]
theorem zRL:zN zD3:=zQ _ _
theorem zSQ(κ:Nat)(m:Int):zP Tryz.prog C (G m) Tryz.f20.ntmps 0 (zG (.cnd 10 5) (zC Tryz.f20)) (zD3.cut (zW 0 [1,2,3,4,10]) (cur _ (za.v0 κ))):=
 Piece.join zRL zY mixed (vG κ m) zF zF1 (cut:=zS) (X:=zaG) (zI (l:=[]) (by kernel_rfl) (all_nil)) (fun s=>by kernel_rfl)
def zCT(κ:Nat):Cut T:=zD3.cut (zW 0 [1,2,3,4,10]) (cur _ (za.v0 κ))
theorem zOh(κ:Nat)(m:Int):zP Tryz.prog C (G m) Tryz.f20.ntmps 0 (zG (.cnd 10 5) (zC Tryz.f20)) (zCT κ):=zSQ κ m
def zIF(κ:Nat):Key→Option (Cut T):=zh zS (.cnd 10 5) (zCT κ)
def zDg:=yi (T:=T) [⟨[(1,.ptr 0 0),(2,.ptr 1 0),(3,.i .i64),(4,.ptr 2 0)],zeH,[]⟩] [⟨.normal,⟨[(1,.ptr 0 0),(2,.ptr 1 0),(3,.i .i64),(4,.ptr 2 0),(19,.b)],zeH,[]⟩⟩]
theorem zSF:zN zDg:=zQ _ _
theorem zRa(κ:Nat)(m:Int):zP Tryz.prog C (G m) Tryz.f20.ntmps 0 (zG (.reg 5) (zC Tryz.f20)) (zDg.cut (zW 0 [1,2,3,4]) (cur _ (za.v2 κ))):=
 Piece.join zSF zY mixed (vG κ m) zF zfg (cut:=(zIF κ)) (X:=znd) (zI (l:=[]) (by kernel_rfl) (all_nil)) (fun s=>by kernel_rfl)
def zCM(κ:Nat):Cut T:=zDg.cut (zW 0 [1,2,3,4]) (cur _ (za.v2 κ))
theorem zPR(κ:Nat)(m:Int):zP Tryz.prog C (G m) Tryz.f20.ntmps 0 (zG (.reg 5) (zC Tryz.f20)) (zCM κ):=zRa κ m
def zIJ(κ:Nat):Key→Option (Cut T):=zh (zIF κ) (.reg 5) (zCM κ)
def zED:=yi (T:=T) [⟨[(1,.ptr 0 0),(2,.ptr 1 0),(3,.i .i64),(4,.ptr 2 0),(19,.b)],zeH,[]⟩] [⟨.normal,⟨[(1,.ptr 0 0),(2,.ptr 1 0),(3,.i .i64),(4,.ptr 2 0)],zEW,[]⟩⟩]
theorem zRX:zN zED:=zQ _ _
theorem zSU(κ:Nat)(m:Int):zP Tryz.prog C (G m) Tryz.f20.ntmps 0 (zG (.cnd 19 7) (zC Tryz.f20)) (zED.cut (zW 0 [1,2,3,4,19]) (cur _ (za.v4 κ))):=
 Piece.join zRX zY mixed (vG κ m) zF zhA (cut:=(zIJ κ)) (X:=zmI) (zI (l:=[]) (by kernel_rfl) (all_nil)) (fun s=>by kernel_rfl)
def zB6(κ:Nat):Cut T:=zED.cut (zW 0 [1,2,3,4,19]) (cur _ (za.v4 κ))
theorem zPd(κ:Nat)(m:Int):zP Tryz.prog C (G m) Tryz.f20.ntmps 0 (zG (.cnd 19 7) (zC Tryz.f20)) (zB6 κ):=zSU κ m
def zIH(κ:Nat):Key→Option (Cut T):=zh (zIJ κ) (.cnd 19 7) (zB6 κ)
def zDF:=yi (T:=T) [⟨[(1,.ptr 0 0),(2,.ptr 1 0),(3,.i .i64),(4,.ptr 2 0),(24,.b)],zEW,[]⟩] [⟨.normal,⟨[(1,.ptr 0 0),(2,.ptr 1 0),(3,.i .i64),(4,.ptr 2 0)],zEW,[]⟩⟩]
theorem zSb:zN zDF:=zQ _ _
theorem zR4(κ:Nat)(m:Int):zP Tryz.prog C (G m) Tryz.f20.ntmps 0 (zG (.cnd 24 9) (zC Tryz.f20)) (zDF.cut (zW 0 [1,2,3,4,24]) (cur _ (za.v6 κ))):=
 Piece.join zSb zY mixed (vG κ m) zF zF1 (cut:=(zIH κ)) (X:=zaG) (zI (l:=[]) (by kernel_rfl) (all_nil)) (fun s=>by kernel_rfl)
def zBs(κ:Nat):Cut T:=zDF.cut (zW 0 [1,2,3,4,24]) (cur _ (za.v6 κ))
theorem zPF(κ:Nat)(m:Int):zP Tryz.prog C (G m) Tryz.f20.ntmps 0 (zG (.cnd 24 9) (zC Tryz.f20)) (zBs κ):=zR4 κ m
def zII(κ:Nat):Key→Option (Cut T):=zh (zIH κ) (.cnd 24 9) (zBs κ)
def zDm:=yi (T:=T) [⟨[(1,.ptr 0 0),(2,.ptr 1 0),(3,.i .i64),(4,.ptr 2 0)],zEW,[]⟩] [⟨.normal,⟨[(1,.ptr 0 0),(2,.ptr 1 0),(3,.i .i64),(4,.ptr 2 0),(37,.b)],zEW,[]⟩⟩]
theorem zSR:zN zDm:=zQ _ _
theorem zRk(κ:Nat)(m:Int):zP Tryz.prog C (G m) Tryz.f20.ntmps 0 (zG (.reg 9) (zC Tryz.f20)) (zDm.cut (zW 0 [1,2,3,4]) (cur _ (za.v8 κ))):=
 Piece.join zSR zY mixed (vG κ m) zF zgg (cut:=(zII κ)) (X:=znV) (zI (l:=[]) (by kernel_rfl) (all_nil)) (fun s=>by kernel_rfl)
def zCX(κ:Nat):Cut T:=zDm.cut (zW 0 [1,2,3,4]) (cur _ (za.v8 κ))
theorem zOw(κ:Nat)(m:Int):zP Tryz.prog C (G m) Tryz.f20.ntmps 0 (zG (.reg 9) (zC Tryz.f20)) (zCX κ):=zRk κ m
def zH4(κ:Nat):Key→Option (Cut T):=zh (zII κ) (.reg 9) (zCX κ)
def zCP:=yi (T:=T) [⟨[(1,.ptr 0 0),(2,.ptr 1 0),(3,.i .i64),(4,.ptr 2 0),(37,.b)],zEW,[]⟩] [⟨.normal,⟨[(1,.ptr 0 0),(2,.ptr 1 0),(3,.i .i64),(4,.ptr 2 0)],zEW,[]⟩⟩]
theorem zOX:zN zCP:=zQ _ _
theorem zPA(κ:Nat)(m:Int):zP Tryz.prog C (G m) Tryz.f20.ntmps 0 (zG (.cnd 37 11) (zC Tryz.f20)) (zCP.cut (zW 0 [1,2,3,4,37]) (cur _ (za.v10 κ))):=
 Piece.join zOX zY mixed (vG κ m) zF zF1 (cut:=(zH4 κ)) (X:=zaG) (zI (l:=[]) (by kernel_rfl) (all_nil)) (fun s=>by kernel_rfl)
def zAB(κ:Nat):Cut T:=zCP.cut (zW 0 [1,2,3,4,37]) (cur _ (za.v10 κ))
theorem zL4(κ:Nat)(m:Int):zP Tryz.prog C (G m) Tryz.f20.ntmps 0 (zG (.cnd 37 11) (zC Tryz.f20)) (zAB κ):=zPA κ m
def zEj(κ:Nat):Key→Option (Cut T):=zh (zH4 κ) (.cnd 37 11) (zAB κ)
def zCE:=yi (T:=T) [⟨[(1,.ptr 0 0),(2,.ptr 1 0),(3,.i .i64),(4,.ptr 2 0),(42,.b)],zEW,[]⟩] [⟨.normal,⟨[(1,.ptr 0 0),(2,.ptr 1 0),(3,.i .i64),(4,.ptr 2 0)],zEW,[]⟩⟩]
theorem zO1:zN zCE:=zQ _ _
theorem zQC(κ:Nat)(m:Int):zP Tryz.prog C (G m) Tryz.f20.ntmps 0 (zG (.cnd 42 13) (zC Tryz.f20)) (zCE.cut (zW 0 [1,2,3,4,42]) (cur _ (za.v12 κ))):=
 Piece.join zO1 zY mixed (vG κ m) zF zF1 (cut:=(zEj κ)) (X:=zaG) (zI (l:=[]) (by kernel_rfl) (all_nil)) (fun s=>by kernel_rfl)
def pr(κ:Nat):Cut T:=zCE.cut (zW 0 [1,2,3,4,42]) (cur _ (za.v12 κ))
theorem zLm(κ:Nat)(m:Int):zP Tryz.prog C (G m) Tryz.f20.ntmps 0 (zG (.cnd 42 13) (zC Tryz.f20)) (pr κ):=zQC κ m
def zFT(κ:Nat):Key→Option (Cut T):=zh (zEj κ) (.cnd 42 13) (pr κ)
def zCC:=yi (T:=T) [⟨[(1,.ptr 0 0),(2,.ptr 1 0),(3,.i .i64),(4,.ptr 2 0)],zEW,[]⟩] [⟨.normal,⟨[(1,.ptr 0 0),(2,.ptr 1 0),(3,.i .i64),(4,.ptr 2 0),(54,.b)],zEW,[]⟩⟩]
theorem zPT:zN zCC:=zQ _ _
theorem zOc(κ:Nat)(m:Int):zP Tryz.prog C (G m) Tryz.f20.ntmps 0 (zG (.reg 14) (zC Tryz.f20)) (zCC.cut (zW 0 [1,2,3,4]) (cur _ (za.v14 κ))):=
 Piece.join zPT zY mixed (vG κ m) zF zgd (cut:=(zFT κ)) (X:=zm3) (zI (l:=[]) (by kernel_rfl) (all_nil)) (fun s=>by kernel_rfl)
def zAZ(κ:Nat):Cut T:=zCC.cut (zW 0 [1,2,3,4]) (cur _ (za.v14 κ))
theorem zNz(κ:Nat)(m:Int):zP Tryz.prog C (G m) Tryz.f20.ntmps 0 (zG (.reg 14) (zC Tryz.f20)) (zAZ κ):=zOc κ m
def zE7(κ:Nat):Key→Option (Cut T):=zh (zFT κ) (.reg 14) (zAZ κ)
def zBz:=yi (T:=T) [⟨[(1,.ptr 0 0),(2,.ptr 1 0),(3,.i .i64),(4,.ptr 2 0),(54,.b)],zEW,[]⟩] [⟨.normal,⟨[(1,.ptr 0 0),(2,.ptr 1 0),(3,.i .i64),(4,.ptr 2 0)],zEW,[]⟩⟩]
theorem zPI:zN zBz:=zQ _ _
theorem zO8(κ:Nat)(m:Int):zP Tryz.prog C (G m) Tryz.f20.ntmps 0 (zG (.cnd 54 16) (zC Tryz.f20)) (zBz.cut (zW 0 [1,2,3,4,54]) (cur _ (za.v16 κ))):=
 Piece.join zPI zY mixed (vG κ m) zF zF1 (cut:=(zE7 κ)) (X:=zaG) (zI (l:=[]) (by kernel_rfl) (all_nil)) (fun s=>by kernel_rfl)
def zAe(κ:Nat):Cut T:=zBz.cut (zW 0 [1,2,3,4,54]) (cur _ (za.v16 κ))
theorem zMr(κ:Nat)(m:Int):zP Tryz.prog C (G m) Tryz.f20.ntmps 0 (zG (.cnd 54 16) (zC Tryz.f20)) (zAe κ):=zO8 κ m
def zFV(κ:Nat):Key→Option (Cut T):=zh (zE7 κ) (.cnd 54 16) (zAe κ)
def zB3:=yi (T:=T) [⟨[(1,.ptr 0 0),(2,.ptr 1 0),(3,.i .i64),(4,.ptr 2 0)],zEW,[]⟩] [⟨.normal,⟨[(1,.ptr 0 0),(2,.ptr 1 0),(3,.i .i64),(4,.ptr 2 0),(63,.b)],zEW,[]⟩⟩]
theorem zOt:zN zB3:=zQ _ _
theorem zPz(κ:Nat)(m:Int):zP Tryz.prog C (G m) Tryz.f20.ntmps 0 (zG (.reg 16) (zC Tryz.f20)) (zB3.cut (zW 0 [1,2,3,4]) (cur _ (za.v18 κ))):=
 Piece.join zOt zY mixed (vG κ m) zF zgs (cut:=(zFV κ)) (X:=zlz) (zI (l:=[]) (by kernel_rfl) (all_nil)) (fun s=>by kernel_rfl)
def zAw(κ:Nat):Cut T:=zB3.cut (zW 0 [1,2,3,4]) (cur _ (za.v18 κ))
theorem zNw(κ:Nat)(m:Int):zP Tryz.prog C (G m) Tryz.f20.ntmps 0 (zG (.reg 16) (zC Tryz.f20)) (zAw κ):=zPz κ m
def zEp(κ:Nat):Key→Option (Cut T):=zh (zFV κ) (.reg 16) (zAw κ)
def zB0:=yi (T:=T) [⟨[(1,.ptr 0 0),(2,.ptr 1 0),(3,.i .i64),(4,.ptr 2 0),(63,.b)],zEW,[]⟩] [⟨.normal,⟨[(1,.ptr 0 0),(2,.ptr 1 0),(3,.i .i64),(4,.ptr 2 0)],zEW,[]⟩⟩]
theorem zON:zN zB0:=zQ _ _
theorem zOb(κ:Nat)(m:Int):zP Tryz.prog C (G m) Tryz.f20.ntmps 0 (zG (.cnd 63 18) (zC Tryz.f20)) (zB0.cut (zW 0 [1,2,3,4,63]) (cur _ (za.v20 κ))):=
 Piece.join zON zY mixed (vG κ m) zF zF1 (cut:=(zEp κ)) (X:=zaG) (zI (l:=[]) (by kernel_rfl) (all_nil)) (fun s=>by kernel_rfl)
def zA4(κ:Nat):Cut T:=zB0.cut (zW 0 [1,2,3,4,63]) (cur _ (za.v20 κ))
theorem zLv(κ:Nat)(m:Int):zP Tryz.prog C (G m) Tryz.f20.ntmps 0 (zG (.cnd 63 18) (zC Tryz.f20)) (zA4 κ):=zOb κ m
def zFM(κ:Nat):Key→Option (Cut T):=zh (zEp κ) (.cnd 63 18) (zA4 κ)
def zCI:=yi (T:=T) [⟨[(1,.ptr 0 0),(2,.ptr 1 0),(4,.ptr 2 0),(68,.b)],zEW,[]⟩] [⟨.normal,⟨[(2,.ptr 0 0),(4,.ptr 1 0)],zk1,[]⟩⟩]
theorem zPW:zN zCI:=zQ _ _
theorem zPX(κ:Nat)(m:Int):zP Tryz.prog C (G m) Tryz.f20.ntmps 0 (zG (.cnd 68 20) (zC Tryz.f20)) (zCI.cut (zW 0 [1,2,4,68]) (cur _ (za.v22 κ))):=
 Piece.join zPW zY mixed (vG κ m) zF zhK (cut:=(zFM κ)) (X:=zlX) (zI (l:=[]) (by kernel_rfl) (all_nil)) (fun s=>by kernel_rfl)
def zAl(κ:Nat):Cut T:=zCI.cut (zW 0 [1,2,4,68]) (cur _ (za.v22 κ))
theorem zN2(κ:Nat)(m:Int):zP Tryz.prog C (G m) Tryz.f20.ntmps 0 (zG (.cnd 68 20) (zC Tryz.f20)) (zAl κ):=zPX κ m
def zUk(κ:Nat):Key→Option (Cut T):=zh (zFM κ) (.cnd 68 20) (zAl κ)
def zFX:=vB (T:=T) zjj [] [⟨false,.agg zJt,[]⟩]
theorem zUF:zo zFX:=zw _ _ _
theorem zYv(κ:Nat)(m:Int):wM Tryz.prog C (G m) 20 (zFX.entry (cur _ (za κ))):=
 Spec.ok zUF zY mixed (vG κ m) (cut:=(zUk κ)) (NR:=(zW 0 [0])) (NP:=(zW 0 [0])) (nB:=0) Tryz.func20 (c:=(zC Tryz.f20)) (by kernel_rfl) (by kernel_rfl) (fun i=>by kernel_rfl) zF zF (zI (l:=[(zG (.cnd 10 5) (zC Tryz.f20),zCT κ),(zG (.reg 5) (zC Tryz.f20),zCM κ),(zG (.cnd 19 7) (zC Tryz.f20),zB6 κ),(zG (.cnd 24 9) (zC Tryz.f20),zBs κ),(zG (.reg 9) (zC Tryz.f20),zCX κ),(zG (.cnd 37 11) (zC Tryz.f20),zAB κ),(zG (.cnd 42 13) (zC Tryz.f20),pr κ),(zG (.reg 14) (zC Tryz.f20),zAZ κ),(zG (.cnd 54 16) (zC Tryz.f20),zAe κ),(zG (.reg 16) (zC Tryz.f20),zAw κ),(zG (.cnd 63 18) (zC Tryz.f20),zA4 κ),(zG (.cnd 68 20) (zC Tryz.f20),zAl κ)]) (by kernel_rfl) (all_cons (zOh κ m) (all_cons (zPR κ m) (all_cons (zPd κ m) (all_cons (zPF κ m) (all_cons (zOw κ m) (all_cons (zL4 κ m) (all_cons (zLm κ m) (all_cons (zNz κ m) (all_cons (zMr κ m) (all_cons (zNw κ m) (all_cons (zLv κ m) (all_cons (zN2 κ m) (all_nil)))))))))))))) (fun i=>by kernel_rfl)
noncomputable def ziU(κ:Nat):qK T:=(zjL κ).zj 20 zFX (cur _ (za κ))
theorem zFf(κ:Nat)(m:Int):ql Tryz.prog C (G m) (ziU κ):=(vG κ m).zj (zYv κ m)
def zBo:=yi (T:=T) [⟨[(1,.ptr 0 0),(3,.s),(4,.b)],zEY,[]⟩] [⟨.normal,⟨[(1,.ptr 0 0),(34,.b)],zEY,[]⟩⟩]
theorem zOR:zN zBo:=zQ _ _
theorem zPM(κ:Nat)(m:Int):zP Tryz.prog C (G m) Tryz.f10.ntmps 0 (zG (.reg 3) (zC Tryz.f10)) (zBo.cut (zW 0 [1,3,4]) (cur _ (yA.v0 κ))):=
 Piece.join zOR zY mixed (zFf κ m) zF zfc (cut:=zS) (X:=znn) (zI (l:=[]) (by kernel_rfl) (all_nil)) (fun s=>by kernel_rfl)
def py(κ:Nat):Cut T:=zBo.cut (zW 0 [1,3,4]) (cur _ (yA.v0 κ))
theorem zNy(κ:Nat)(m:Int):zP Tryz.prog C (G m) Tryz.f10.ntmps 0 (zG (.reg 3) (zC Tryz.f10)) (py κ):=zPM κ m
def zE4(κ:Nat):Key→Option (Cut T):=zh zS (.reg 3) (py κ)
def zBw:=yi (T:=T) [⟨[(1,.ptr 0 0),(5,.b),(6,.b)],zEY,[]⟩] [⟨.normal,⟨[(1,.ptr 0 0),(5,.b),(6,.b),(60,.b)],zEY,[]⟩⟩]
theorem zPo:zN zBw:=zQ _ _
theorem zOu(κ:Nat)(m:Int):zP Tryz.prog C (G m) Tryz.f10.ntmps 0 (zG (.reg 7) (zC Tryz.f10)) (zBw.cut (zW 0 [1,5,6]) (cur _ (yA.v2 κ))):=
 Piece.join zPo zY mixed (zFf κ m) zF zfd (cut:=(zE4 κ)) (X:=zmu) (zI (l:=[]) (by kernel_rfl) (all_nil)) (fun s=>by kernel_rfl)
def p7(κ:Nat):Cut T:=zBw.cut (zW 0 [1,5,6]) (cur _ (yA.v2 κ))
theorem zNI(κ:Nat)(m:Int):zP Tryz.prog C (G m) Tryz.f10.ntmps 0 (zG (.reg 7) (zC Tryz.f10)) (p7 κ):=zOu κ m
def zFY(κ:Nat):Key→Option (Cut T):=zh (zE4 κ) (.reg 7) (p7 κ)
def zCZ:=yi (T:=T) [⟨[(1,.ptr 0 0),(5,.b),(6,.b)],zEY,[]⟩] [⟨.normal,⟨[(2,.b)],[],[]⟩⟩]
theorem zPD:zN zCZ:=zQ _ _
theorem zQM(κ:Nat)(m:Int):zP Tryz.prog C (G m) Tryz.f10.ntmps 0 (zG (.reg 9) (zC Tryz.f10)) (zCZ.cut (zW 0 [1,5,6]) (cur _ (yA.v4 κ))):=
 Piece.join zPD zY mixed (zFf κ m) zF zKv (cut:=(zFY κ)) (X:=xx0) (zI (l:=[]) (by kernel_rfl) (all_nil)) (fun s=>by kernel_rfl)
def zAj(κ:Nat):Cut T:=zCZ.cut (zW 0 [1,5,6]) (cur _ (yA.v4 κ))
theorem zMU(κ:Nat)(m:Int):zP Tryz.prog C (G m) Tryz.f10.ntmps 0 (zG (.reg 9) (zC Tryz.f10)) (zAj κ):=zQM κ m
def zUS(κ:Nat):Key→Option (Cut T):=zh (zFY κ) (.reg 9) (zAj κ)
def zDo:=vB (T:=T) zjj [] [⟨false,.b,[]⟩]
theorem zR9:zo zDo:=zw _ _ _
theorem zWv(κ:Nat)(m:Int):wM Tryz.prog C (G m) 10 (zDo.entry (cur _ (yA κ))):=
 Spec.ok zR9 zY mixed (zFf κ m) (cut:=(zUS κ)) (NR:=(zW 0 [0])) (NP:=(zW 0 [0])) (nB:=0) Tryz.func10 (c:=(zC Tryz.f10)) (by kernel_rfl) (by kernel_rfl) (fun i=>by kernel_rfl) zF zF (zI (l:=[(zG (.reg 3) (zC Tryz.f10),py κ),(zG (.reg 7) (zC Tryz.f10),p7 κ),(zG (.reg 9) (zC Tryz.f10),zAj κ)]) (by kernel_rfl) (all_cons (zNy κ m) (all_cons (zNI κ m) (all_cons (zMU κ m) (all_nil))))) (fun i=>by kernel_rfl)
noncomputable def zje(κ:Nat):qK T:=(ziU κ).zj 10 zDo (cur _ (yA κ))
theorem ue(κ:Nat)(m:Int):ql Tryz.prog C (G m) (zje κ):=(zFf κ m).zj (zWv κ m)
def zE1:=yi (T:=T) [⟨[(0,.s),(3,.s),(4,.i .i64)],[],[]⟩] [⟨.normal,⟨[(3,.s)],[],[]⟩⟩]
theorem zUJ:zN zE1:=zQ _ _
theorem zUB(κ:Nat)(m:Int):zP Tryz.prog C (G m) Tryz.f25.ntmps 0 (zG (.blk 0) (zC Tryz.f25)) (zE1.cut (zW 0 [0,3,4]) (w7.l0 κ κ)):=
 Piece.loop zUJ zY mixed (ue κ m) zF zTF (cut:=zS) (X:=xx6) (id:=0) (body:=zf (zG (.blk 0) (zC Tryz.f25))) (zI (l:=[]) (by kernel_rfl) (all_nil)) (f:=w7.l0 κ) (fun s=>by kernel_rfl) (fun k s=>by kernel_rfl) κ
def zDC(κ:Nat):Cut T:=zE1.cut (zW 0 [0,3,4]) (w7.l0 κ κ)
theorem zRs(κ:Nat)(m:Int):zP Tryz.prog C (G m) Tryz.f25.ntmps 0 (zG (.blk 0) (zC Tryz.f25)) (zDC κ):=zUB κ m
def zWl(κ:Nat):Key→Option (Cut T):=zh zS (.blk 0) (zDC κ)
def zI8:=vB (T:=T) [.s] [] [⟨false,.s,[]⟩]
theorem zVQ:zo zI8:=zw _ _ _
theorem zZu(κ:Nat)(m:Int):wM Tryz.prog C (G m) 25 (zI8.entry (fun a0=>w7 κ a0)):=
 Spec.ok zVQ zY mixed (ue κ m) (cut:=(zWl κ)) (NR:=(zW 0 [0])) (NP:=(zW 0 [0])) (nB:=0) Tryz.func25 (c:=(zC Tryz.f25)) (by kernel_rfl) (by kernel_rfl) (fun i=>by kernel_rfl) zF zF (zI (l:=[(zG (.blk 0) (zC Tryz.f25),zDC κ)]) (by kernel_rfl) (all_cons (zRs κ m) (all_nil))) (fun i=>by kernel_rfl)
noncomputable def ziw(κ:Nat):qK T:=(zje κ).zj 25 zI8 (fun a0=>w7 κ a0)
theorem zS1(κ:Nat)(m:Int):ql Tryz.prog C (G m) (ziw κ):=(ue κ m).zj (zZu κ m)
def zEA:=yi (T:=T) [⟨[(1,.ptr 0 0),(4,.s),(17,.b)],zEY,[]⟩] [⟨.normal,⟨[(1,.ptr 0 0),(4,.s)],zEY,[]⟩⟩]
theorem zRB:zN zEA:=zQ _ _
theorem zSZ(κ:Nat)(m:Int):zP Tryz.prog C (G m) Tryz.f12.ntmps 0 (zG (.cnd 17 7) (zC Tryz.f12)) (zEA.cut (zW 0 [1,4,17]) (cur _ (zL.v0 κ))):=
 Piece.join zRB zY mixed (ue κ m) zF zhS (cut:=zS) (X:=zlp) (zI (l:=[]) (by kernel_rfl) (all_nil)) (fun s=>by kernel_rfl)
def zCO(κ:Nat):Cut T:=zEA.cut (zW 0 [1,4,17]) (cur _ (zL.v0 κ))
theorem zQR(κ:Nat)(m:Int):zP Tryz.prog C (G m) Tryz.f12.ntmps 0 (zG (.cnd 17 7) (zC Tryz.f12)) (zCO κ):=zSZ κ m
def zIB(κ:Nat):Key→Option (Cut T):=zh zS (.cnd 17 7) (zCO κ)
def zDO:=yi (T:=T) [⟨[(1,.ptr 0 0),(4,.s),(5,.s),(6,.s),(30,.b)],zEY,[]⟩] [⟨.normal,⟨[(1,.ptr 0 0),(4,.s),(5,.s),(6,.s)],zEY,[]⟩⟩]
theorem zSW:zN zDO:=zQ _ _
theorem zRh(κ:Nat)(m:Int):zP Tryz.prog C (G m) Tryz.f12.ntmps 0 (zG (.cnd 30 11) (zC Tryz.f12)) (zDO.cut (zW 0 [1,4,5,6,30]) (cur _ (zL.v2 κ))):=
 Piece.join zSW zY mixed (ue κ m) zF zhE (cut:=(zIB κ)) (X:=znQ) (zI (l:=[]) (by kernel_rfl) (all_nil)) (fun s=>by kernel_rfl)
def zBq(κ:Nat):Cut T:=zDO.cut (zW 0 [1,4,5,6,30]) (cur _ (zL.v2 κ))
theorem zOr(κ:Nat)(m:Int):zP Tryz.prog C (G m) Tryz.f12.ntmps 0 (zG (.cnd 30 11) (zC Tryz.f12)) (zBq κ):=zRh κ m
def zID(κ:Nat):Key→Option (Cut T):=zh (zIB κ) (.cnd 30 11) (zBq κ)
def zD0:=yi (T:=T) [⟨[(1,.ptr 0 0),(4,.s),(5,.s),(6,.s),(7,.s),(32,.b)],zEY,[]⟩] [⟨.normal,⟨[(1,.ptr 0 0),(4,.s),(5,.s),(6,.s),(7,.s)],zEY,[]⟩⟩]
theorem zSS:zN zD0:=zQ _ _
theorem zSH(κ:Nat)(m:Int):zP Tryz.prog C (G m) Tryz.f12.ntmps 0 (zG (.cnd 32 14) (zC Tryz.f12)) (zD0.cut (zW 0 [1,4,5,6,7,32]) (cur _ (zL.v4 κ))):=
 Piece.join zSS zY mixed (ue κ m) zF zgU (cut:=(zID κ)) (X:=zmR) (zI (l:=[]) (by kernel_rfl) (all_nil)) (fun s=>by kernel_rfl)
def zBg(κ:Nat):Cut T:=zD0.cut (zW 0 [1,4,5,6,7,32]) (cur _ (zL.v4 κ))
theorem zPb(κ:Nat)(m:Int):zP Tryz.prog C (G m) Tryz.f12.ntmps 0 (zG (.cnd 32 14) (zC Tryz.f12)) (zBg κ):=zSH κ m
def zCL(κ:Nat):Key→Option (Cut T):=zh (zID κ) (.cnd 32 14) (zBg κ)
def zDs:=yi (T:=T) [⟨[(1,.ptr 0 0),(4,.s),(5,.s),(6,.s),(7,.s),(34,.i .i64),(64,.b)],zEY,[]⟩] [⟨.normal,⟨[(1,.ptr 0 0),(4,.s),(5,.s),(6,.s),(7,.s),(34,.i .i64),(64,.b)],zEY,[]⟩⟩]
theorem zQ6:zN zDs:=zQ _ _
theorem zRb(κ:Nat)(m:Int):zP Tryz.prog C (G m) Tryz.f12.ntmps 0 (zG (.cnd 64 26) (zC Tryz.f12)) (zDs.cut nn6 (cur _ (zL.v7 κ))):=
 Piece.join zQ6 zY mixed (ue κ m) zeo za8 (cut:=(zCL κ)) (X:=zjv) (zI (l:=[]) (by kernel_rfl) (all_nil)) (fun s=>by kernel_rfl)
def zBn(κ:Nat):Cut T:=zDs.cut nn6 (cur _ (zL.v7 κ))
theorem zOz(κ:Nat)(m:Int):zP Tryz.prog C (G m) Tryz.f12.ntmps 0 (zG (.cnd 64 26) (zC Tryz.f12)) (zBn κ):=zRb κ m
def zVL(κ:Nat):Key→Option (Cut T):=zh (zCL κ) (.cnd 64 26) (zBn κ)
def zDc:=yi (T:=T) [⟨[(1,.ptr 0 0),(4,.s),(5,.s),(6,.s),(7,.s),(34,.i .i64),(64,.b)],zEY,[]⟩] [⟨.normal,⟨[(1,.ptr 0 0),(4,.s),(5,.s),(6,.s),(7,.s),(34,.i .i64),(64,.b)],zEY,[]⟩⟩]
theorem zR2:zN zDc:=zQ _ _
theorem zSM(κ:Nat)(m:Int):zP Tryz.prog C (G m) Tryz.f12.ntmps 0 (zG (.cnd 64 25) (zC Tryz.f12)) (zDc.cut nn6 (cur _ (zL.v6 κ))):=
 Piece.join zR2 zY mixed (ue κ m) zeo za8 (cut:=(zVL κ)) (X:=zjv) (zI (l:=[(zG (.cnd 64 26) (zC Tryz.f12),zBn κ)]) (by kernel_rfl) (all_cons (zOz κ m) (all_nil))) (fun s=>by kernel_rfl)
def zB2(κ:Nat):Cut T:=zDc.cut nn6 (cur _ (zL.v6 κ))
theorem zPQ(κ:Nat)(m:Int):zP Tryz.prog C (G m) Tryz.f12.ntmps 0 (zG (.cnd 64 25) (zC Tryz.f12)) (zB2 κ):=zSM κ m
def zIA(κ:Nat):Key→Option (Cut T):=zh (zCL κ) (.cnd 64 25) (zB2 κ)
def zBx:=yi (T:=T) [⟨[(1,.ptr 0 0),(4,.s),(34,.i .i64),(112,.b)],zEY,[]⟩] [⟨.normal,⟨[(1,.ptr 0 0),(4,.s),(112,.b)],zEY,[]⟩⟩]
theorem zOf:zN zBx:=zQ _ _
theorem zO3(κ:Nat)(m:Int):zP Tryz.prog C (G m) Tryz.f12.ntmps 0 (zG (.cnd 112 37) (zC Tryz.f12)) (zBx.cut (zW 0 [1,4,34,112]) (cur _ (zL.v10 κ))):=
 Piece.join zOf zY mixed (zS1 κ m) zF zgF (cut:=(zIA κ)) (X:=zmb) (zI (l:=[]) (by kernel_rfl) (all_nil)) (fun s=>by kernel_rfl)
def zAO(κ:Nat):Cut T:=zBx.cut (zW 0 [1,4,34,112]) (cur _ (zL.v10 κ))
theorem zLx(κ:Nat)(m:Int):zP Tryz.prog C (G m) Tryz.f12.ntmps 0 (zG (.cnd 112 37) (zC Tryz.f12)) (zAO κ):=zO3 κ m
def zSo(κ:Nat):Key→Option (Cut T):=zh (zIA κ) (.cnd 112 37) (zAO κ)
def zFP:=vB (T:=T) zjj [] [⟨false,.s,[]⟩]
theorem zTq:zo zFP:=zw _ _ _
theorem zYm(κ:Nat)(m:Int):wM Tryz.prog C (G m) 12 (zFP.entry (cur _ (zL κ))):=
 Spec.ok zTq zY mixed (zS1 κ m) (cut:=(zSo κ)) (NR:=(zW 0 [0])) (NP:=(zW 0 [0])) (nB:=0) Tryz.func12 (c:=(zC Tryz.f12)) (by kernel_rfl) (by kernel_rfl) (fun i=>by kernel_rfl) zF zF (zI (l:=[(zG (.cnd 17 7) (zC Tryz.f12),zCO κ),(zG (.cnd 30 11) (zC Tryz.f12),zBq κ),(zG (.cnd 32 14) (zC Tryz.f12),zBg κ),(zG (.cnd 64 25) (zC Tryz.f12),zB2 κ),(zG (.cnd 112 37) (zC Tryz.f12),zAO κ)]) (by kernel_rfl) (all_cons (zQR κ m) (all_cons (zOr κ m) (all_cons (zPb κ m) (all_cons (zPQ κ m) (all_cons (zLx κ m) (all_nil))))))) (fun i=>by kernel_rfl)
noncomputable def zjU(κ:Nat):qK T:=(ziw κ).zj 12 zFP (cur _ (zL κ))
theorem wv(κ:Nat)(m:Int):ql Tryz.prog C (G m) (zjU κ):=(zS1 κ m).zj (zYm κ m)
def zAX:=yi (T:=T) [⟨[(1,.s),(2,.ptr 0 0),(4,.ptr 1 0),(5,.s),(6,.s),(7,.s),(8,.s),(9,.i .u64),(36,.i .i64),(37,.b)],uk,[]⟩] [⟨.normal,⟨[(1,.s),(2,.ptr 0 0),(4,.ptr 1 0),(5,.s),(6,.s),(7,.s),(8,.s),(9,.i .u64),(36,.i .i64),(37,.b)],uk,[]⟩⟩]
theorem zMv:zN zAX:=zQ _ _
theorem zM0(κ:Nat)(m:Int):zP Tryz.prog C (G m) Tryz.f31.ntmps 0 (zG (.cnd 37 7) (zC Tryz.f31)) (zAX.cut nn7 (cur _ (zB.v1 κ))):=
 Piece.join zMv zY mixed (wv κ m) ze0 zf7 (cut:=zS) (X:=znh) (zI (l:=[]) (by kernel_rfl) (all_nil)) (fun s=>by kernel_rfl)
def bM(κ:Nat):Cut T:=zAX.cut nn7 (cur _ (zB.v1 κ))
theorem zJ5(κ:Nat)(m:Int):zP Tryz.prog C (G m) Tryz.f31.ntmps 0 (zG (.cnd 37 7) (zC Tryz.f31)) (bM κ):=zM0 κ m
def vi(κ:Nat):Key→Option (Cut T):=zh zS (.cnd 37 7) (bM κ)
def zAS:=yi (T:=T) [⟨[(1,.s),(2,.ptr 0 0),(4,.ptr 1 0),(5,.s),(6,.s),(7,.s),(8,.s),(9,.i .u64),(36,.i .i64),(50,.b)],uk,[]⟩] [⟨.normal,⟨[(1,.s),(2,.ptr 0 0),(4,.ptr 1 0),(5,.s),(6,.s),(7,.s),(8,.s),(9,.i .u64),(36,.i .i64),(50,.b)],uk,[]⟩⟩]
theorem zOF:zN zAS:=zQ _ _
theorem zL6(κ:Nat)(m:Int):zP Tryz.prog C (G m) Tryz.f31.ntmps 0 (zG (.cnd 50 14) (zC Tryz.f31)) (zAS.cut nn8 (cur _ (zB.v6 κ))):=
 Piece.join zOF zY mixed (wv κ m) zW2 zWU (cut:=(vi κ)) (X:=zfv) (zI (l:=[]) (by kernel_rfl) (all_nil)) (fun s=>by kernel_rfl)
def dV(κ:Nat):Cut T:=zAS.cut nn8 (cur _ (zB.v6 κ))
theorem zLe(κ:Nat)(m:Int):zP Tryz.prog C (G m) Tryz.f31.ntmps 0 (zG (.cnd 50 14) (zC Tryz.f31)) (dV κ):=zL6 κ m
def zRr(κ:Nat):Key→Option (Cut T):=zh (vi κ) (.cnd 50 14) (dV κ)
def zAJ:=yi (T:=T) [⟨[(1,.s),(2,.ptr 0 0),(4,.ptr 1 0),(5,.s),(6,.s),(7,.s),(8,.s),(9,.i .u64),(36,.i .i64),(50,.b)],uk,[]⟩] [⟨.normal,⟨[(1,.s),(2,.ptr 0 0),(4,.ptr 1 0),(5,.s),(6,.s),(7,.s),(8,.s),(9,.i .u64),(36,.i .i64),(50,.b)],uk,[]⟩⟩]
theorem zMo:zN zAJ:=zQ _ _
theorem zMM(κ:Nat)(m:Int):zP Tryz.prog C (G m) Tryz.f31.ntmps 0 (zG (.cnd 50 13) (zC Tryz.f31)) (zAJ.cut nn8 (cur _ (zB.v5 κ))):=
 Piece.join zMo zY mixed (wv κ m) zW2 zWU (cut:=(zRr κ)) (X:=zfv) (zI (l:=[(zG (.cnd 50 14) (zC Tryz.f31),dV κ)]) (by kernel_rfl) (all_cons (zLe κ m) (all_nil))) (fun s=>by kernel_rfl)
def bc(κ:Nat):Cut T:=zAJ.cut nn8 (cur _ (zB.v5 κ))
theorem zLD(κ:Nat)(m:Int):zP Tryz.prog C (G m) Tryz.f31.ntmps 0 (zG (.cnd 50 13) (zC Tryz.f31)) (bc κ):=zMM κ m
def zSK(κ:Nat):Key→Option (Cut T):=zh (vi κ) (.cnd 50 13) (bc κ)
def zAv:=yi (T:=T) [⟨[(1,.s),(2,.ptr 0 0),(4,.ptr 1 0),(5,.s),(6,.s),(7,.s),(8,.s),(9,.i .u64),(36,.i .i64),(50,.b)],uk,[]⟩] [⟨.normal,⟨[(1,.s),(2,.ptr 0 0),(4,.ptr 1 0),(5,.s),(6,.s),(7,.s),(8,.s),(9,.i .u64),(36,.i .i64),(50,.b)],uk,[]⟩⟩]
theorem zMj:zN zAv:=zQ _ _
theorem zNV(κ:Nat)(m:Int):zP Tryz.prog C (G m) Tryz.f31.ntmps 0 (zG (.cnd 50 12) (zC Tryz.f31)) (zAv.cut nn8 (cur _ (zB.v4 κ))):=
 Piece.join zMj zY mixed (wv κ m) zW2 zWU (cut:=(zSK κ)) (X:=zfv) (zI (l:=[(zG (.cnd 50 13) (zC Tryz.f31),bc κ)]) (by kernel_rfl) (all_cons (zLD κ m) (all_nil))) (fun s=>by kernel_rfl)
def pP(κ:Nat):Cut T:=zAv.cut nn8 (cur _ (zB.v4 κ))
theorem zKF(κ:Nat)(m:Int):zP Tryz.prog C (G m) Tryz.f31.ntmps 0 (zG (.cnd 50 12) (zC Tryz.f31)) (pP κ):=zNV κ m
def wY(κ:Nat):Key→Option (Cut T):=zh (vi κ) (.cnd 50 12) (pP κ)
def pG:=yi (T:=T) [⟨[(1,.s),(2,.ptr 0 0),(4,.ptr 1 0),(36,.i .i64),(99,.b)],uk,[]⟩] [⟨.normal,⟨[(1,.s),(2,.ptr 0 0),(4,.ptr 1 0),(99,.b)],uk,[]⟩⟩]
theorem zLY:zN pG:=zQ _ _
theorem zKP(κ:Nat)(m:Int):zP Tryz.prog C (G m) Tryz.f31.ntmps 0 (zG (.cnd 99 32) (zC Tryz.f31)) (pG.cut (zW 0 [1,2,4,36,99]) (cur _ (zB.v15 κ))):=
 Piece.join zLY zY mixed (wv κ m) zF zgT (cut:=(wY κ)) (X:=zmp) (zI (l:=[]) (by kernel_rfl) (all_nil)) (fun s=>by kernel_rfl)
def uM(κ:Nat):Cut T:=pG.cut (zW 0 [1,2,4,36,99]) (cur _ (zB.v15 κ))
theorem zHj(κ:Nat)(m:Int):zP Tryz.prog C (G m) Tryz.f31.ntmps 0 (zG (.cnd 99 32) (zC Tryz.f31)) (uM κ):=zKP κ m
def zCl(κ:Nat):Key→Option (Cut T):=zh (wY κ) (.cnd 99 32) (uM κ)
def bI:=yi (T:=T) [⟨[(1,.s),(2,.ptr 0 0),(4,.ptr 1 0),(99,.b)],uk,[]⟩] [⟨.normal,⟨[(2,.ptr 0 0),(4,.ptr 1 0)],uk,[]⟩⟩]
theorem zKb:zN bI:=zQ _ _
theorem zJj(κ:Nat)(m:Int):zP Tryz.prog C (G m) Tryz.f31.ntmps 0 (zG (.cnd 99 33) (zC Tryz.f31)) (bI.cut (zW 0 [1,2,4,99]) (cur _ (zB.v17 κ))):=
 Piece.join zKb zY mixed (wv κ m) zF zFp (cut:=(zCl κ)) (X:=zZ3) (zI (l:=[]) (by kernel_rfl) (all_nil)) (fun s=>by kernel_rfl)
def ga(κ:Nat):Cut T:=bI.cut (zW 0 [1,2,4,99]) (cur _ (zB.v17 κ))
theorem zHV(κ:Nat)(m:Int):zP Tryz.prog C (G m) Tryz.f31.ntmps 0 (zG (.cnd 99 33) (zC Tryz.f31)) (ga κ):=zJj κ m
def zQA(κ:Nat):Key→Option (Cut T):=zh (zCl κ) (.cnd 99 33) (ga κ)
def dH:=yi (T:=T) [⟨[(1,.s),(2,.ptr 0 0),(4,.ptr 1 0),(5,.s),(7,.s),(8,.s),(36,.i .i64),(81,.b)],uk,[]⟩] [⟨.normal,⟨[(2,.ptr 0 0),(4,.ptr 1 0)],uk,[]⟩⟩]
theorem zJl:zN dH:=zQ _ _
theorem zJk(κ:Nat)(m:Int):zP Tryz.prog C (G m) Tryz.f31.ntmps 0 (zG (.cnd 81 26) (zC Tryz.f31)) (dH.cut nn9 (cur _ (zB.v14 κ))):=
 Piece.join zJl zY mixed (wv κ m) zkR zFp (cut:=(zQA κ)) (X:=zZ3) (zI (l:=[(zG (.cnd 99 32) (zC Tryz.f31),uM κ),(zG (.cnd 99 33) (zC Tryz.f31),ga κ)]) (by kernel_rfl) (all_cons (zHj κ m) (all_cons (zHV κ m) (all_nil)))) (fun s=>by kernel_rfl)
def gb(κ:Nat):Cut T:=dH.cut nn9 (cur _ (zB.v14 κ))
theorem zGK(κ:Nat)(m:Int):zP Tryz.prog C (G m) Tryz.f31.ntmps 0 (zG (.cnd 81 26) (zC Tryz.f31)) (gb κ):=zJk κ m
def zQQ(κ:Nat):Key→Option (Cut T):=zh (wY κ) (.cnd 81 26) (gb κ)
def du:=yi (T:=T) [⟨[(1,.s),(2,.ptr 0 0),(4,.ptr 1 0),(5,.s),(6,.s),(7,.s),(8,.s),(36,.i .i64),(76,.b)],uk,[]⟩] [⟨.normal,⟨[(2,.ptr 0 0),(4,.ptr 1 0)],uk,[]⟩⟩]
theorem zJR:zN du:=zQ _ _
theorem zI4(κ:Nat)(m:Int):zP Tryz.prog C (G m) Tryz.f31.ntmps 0 (zG (.cnd 76 24) (zC Tryz.f31)) (du.cut zkn (cur _ (zB.v13 κ))):=
 Piece.join zJR zY mixed (wv κ m) zhi zFp (cut:=(zQQ κ)) (X:=zZ3) (zI (l:=[(zG (.cnd 81 26) (zC Tryz.f31),gb κ)]) (by kernel_rfl) (all_cons (zGK κ m) (all_nil))) (fun s=>by kernel_rfl)
def gg(κ:Nat):Cut T:=du.cut zkn (cur _ (zB.v13 κ))
theorem zGO(κ:Nat)(m:Int):zP Tryz.prog C (G m) Tryz.f31.ntmps 0 (zG (.cnd 76 24) (zC Tryz.f31)) (gg κ):=zI4 κ m
def zPu(κ:Nat):Key→Option (Cut T):=zh (wY κ) (.cnd 76 24) (gg κ)
def bS:=yi (T:=T) [⟨[(1,.s),(2,.ptr 0 0),(4,.ptr 1 0),(5,.s),(6,.s),(7,.s),(8,.s),(36,.i .i64),(72,.b)],uk,[]⟩] [⟨.normal,⟨[(2,.ptr 0 0),(4,.ptr 1 0)],uk,[]⟩⟩]
theorem zJC:zN bS:=zQ _ _
theorem zKl(κ:Nat)(m:Int):zP Tryz.prog C (G m) Tryz.f31.ntmps 0 (zG (.cnd 72 22) (zC Tryz.f31)) (bS.cut zkC (cur _ (zB.v12 κ))):=
 Piece.join zJC zY mixed (wv κ m) zgo zFp (cut:=(zPu κ)) (X:=zZ3) (zI (l:=[(zG (.cnd 76 24) (zC Tryz.f31),gg κ)]) (by kernel_rfl) (all_cons (zGO κ m) (all_nil))) (fun s=>by kernel_rfl)
def xp(κ:Nat):Cut T:=bS.cut zkC (cur _ (zB.v12 κ))
theorem zHY(κ:Nat)(m:Int):zP Tryz.prog C (G m) Tryz.f31.ntmps 0 (zG (.cnd 72 22) (zC Tryz.f31)) (xp κ):=zKl κ m
def zPr(κ:Nat):Key→Option (Cut T):=zh (wY κ) (.cnd 72 22) (xp κ)
def di:=yi (T:=T) [⟨[(1,.s),(2,.ptr 0 0),(4,.ptr 1 0),(5,.s),(6,.s),(7,.s),(8,.s),(36,.i .i64),(57,.b)],uk,[]⟩] [⟨.normal,⟨[(2,.ptr 0 0),(4,.ptr 1 0)],uk,[]⟩⟩]
theorem zIy:zN di:=zQ _ _
theorem zIP(κ:Nat)(m:Int):zP Tryz.prog C (G m) Tryz.f31.ntmps 0 (zG (.cnd 57 17) (zC Tryz.f31)) (di.cut zkv (cur _ (zB.v11 κ))):=
 Piece.join zIy zY mixed (wv κ m) zhc zFp (cut:=(zPr κ)) (X:=zZ3) (zI (l:=[(zG (.cnd 72 22) (zC Tryz.f31),xp κ)]) (by kernel_rfl) (all_cons (zHY κ m) (all_nil))) (fun s=>by kernel_rfl)
def xZ(κ:Nat):Cut T:=di.cut zkv (cur _ (zB.v11 κ))
theorem zHb(κ:Nat)(m:Int):zP Tryz.prog C (G m) Tryz.f31.ntmps 0 (zG (.cnd 57 17) (zC Tryz.f31)) (xZ κ):=zIP κ m
def zO0(κ:Nat):Key→Option (Cut T):=zh (wY κ) (.cnd 57 17) (xZ κ)
def dE:=yi (T:=T) [⟨[(1,.s),(2,.ptr 0 0),(4,.ptr 1 0),(5,.s),(6,.s),(7,.s),(8,.s),(9,.i .u64),(36,.i .i64),(50,.b)],uk,[]⟩] [⟨.normal,⟨[(2,.ptr 0 0),(4,.ptr 1 0)],uk,[]⟩⟩]
theorem zLg:zN dE:=zQ _ _
theorem zLf(κ:Nat)(m:Int):zP Tryz.prog C (G m) Tryz.f31.ntmps 0 (zG (.cnd 50 15) (zC Tryz.f31)) (dE.cut nn8 (cur _ (zB.v10 κ))):=
 Piece.join zLg zY mixed (wv κ m) zW2 zFp (cut:=(zO0 κ)) (X:=zZ3) (zI (l:=[(zG (.cnd 57 17) (zC Tryz.f31),xZ κ)]) (by kernel_rfl) (all_cons (zHb κ m) (all_nil))) (fun s=>by kernel_rfl)
def gu(κ:Nat):Cut T:=dE.cut nn8 (cur _ (zB.v10 κ))
theorem zF8(κ:Nat)(m:Int):zP Tryz.prog C (G m) Tryz.f31.ntmps 0 (zG (.cnd 50 15) (zC Tryz.f31)) (gu κ):=zLf κ m
def zP0(κ:Nat):Key→Option (Cut T):=zh (wY κ) (.cnd 50 15) (gu κ)
def zAt:=yi (T:=T) [⟨[(1,.s),(2,.ptr 0 0),(4,.ptr 1 0),(5,.s),(6,.s),(7,.s),(8,.s),(9,.i .u64),(36,.i .i64),(37,.b)],uk,[]⟩] [⟨.normal,⟨[(2,.ptr 0 0),(4,.ptr 1 0)],[.cells 32 none [.i .i64,.i .i64,.own 2,.s,.i .u64,.b,.b,.s,.i .u64,.i .u64,.s],.cells 32 none zUe,.row 55 true],[]⟩⟩]
theorem zMK:zN zAt:=zQ _ _
theorem zMp(κ:Nat)(m:Int):zP Tryz.prog C (G m) Tryz.f31.ntmps 0 (zG (.cnd 37 8) (zC Tryz.f31)) (zAt.cut nn7 (cur _ (zB.v3 κ))):=
 Piece.join zMK zY mixed (wv κ m) ze0 zg0 (cut:=(zP0 κ)) (X:=zl5) (zI (l:=[(zG (.cnd 50 12) (zC Tryz.f31),pP κ),(zG (.cnd 50 15) (zC Tryz.f31),gu κ)]) (by kernel_rfl) (all_cons (zKF κ m) (all_cons (zF8 κ m) (all_nil)))) (fun s=>by kernel_rfl)
def xq(κ:Nat):Cut T:=zAt.cut nn7 (cur _ (zB.v3 κ))
theorem zGA(κ:Nat)(m:Int):zP Tryz.prog C (G m) Tryz.f31.ntmps 0 (zG (.cnd 37 8) (zC Tryz.f31)) (xq κ):=zMp κ m
def zO6(κ:Nat):Key→Option (Cut T):=zh (vi κ) (.cnd 37 8) (xq κ)
end Go.Proofs.YtdoifigogbdodaaGreatDoor.Ev.Seat
