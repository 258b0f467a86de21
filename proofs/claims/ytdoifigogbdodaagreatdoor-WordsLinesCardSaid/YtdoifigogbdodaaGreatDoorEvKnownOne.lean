import Derived.Test.YtdoifigogbdodaaGreatDoorEvPlain
set_option linter.unusedVariables false
set_option linter.unusedSimpArgs false
set_option maxHeartbeats 1000000
namespace Go.Proofs.YtdoifigogbdodaaGreatDoor.Ev.Seat
open Go Ev Go.Proofs
noncomputable def gamB(κ:Nat):Gam T:=(gamJoin (gamScal (gamLib gam0 κ) κ) κ).give []
theorem gamB_ok(κ:Nat)(m:Int):GOk Tryz.prog C (G m) (gamB κ):=(gamJoin_ok κ m (gamScal_ok κ m (gamLib_ok κ m gam0_ok))).give
def kk0:List Sh:=[.s,.i .i64,.i .i64,.i .i64]
def kk1:List Sh:=[.ifc 74 (.s),.ifc 89 (.agg [])]
def kk2:List Sh:=[.ifc 78 (.agg []),.ifc 74 (.s)]
def kk3:List Sh:=[.ifc 74 (.s),.ifc 82 (.fn 40 [] [])]
def kk5:List ShO:=[.cells 94 none [.pn,.own 1],.row 5 true]
def kk6:List ShO:=[.cells 94 none [.ptr 0 0,.own 1],.row 5 true]
def kk7:List ShO:=[.cells 115 none kk0]
def kk8:List Sh:=[.ifc 78 (.agg []),.ifc 74 (.s),.ifc 68 (.agg [])]
def kk9:List Sh:=[.ifc 78 (.agg []),.ifc 74 (.s),.ifc 79 (.agg [])]
def kk10:List Sh:=[.ifc 78 (.agg []),.ifc 74 (.s),.ifc 82 (.fn 40 [] [])]
def kk11:List ShO:=[.cells 115 none kk0,.row 55 true]
def kk12:List Sh:=[.ifc 78 (.agg []),.ifc 74 (.s),.ifc 74 (.s),.ifc 88 (.agg [])]
def kk13:List Sh:=[.ifc 78 (.agg []),.ifc 74 (.s),.ifc 74 (.s),.ifc 87 (.agg [])]
def kk14:List Sh:=[.ifc 78 (.agg []),.ifc 74 (.s),.ifc 79 (.agg []),.ifc 80 (.agg [])]
def kk15:List Sh:=[.i .i64,.i .i64,.cap0,.s,.i .u64,.b,.b,.s,.i .u64,.i .u64,.s]
def kk16:List Sh:=[.i .i64,.i .i64,.sl 55,.s,.i .u64,.b,.b,.s,.i .u64,.i .u64,.s]
def kk17:List ShO:=[.cells 94 none [.ptr 0 0,.own 2],.cells 55 none [.s,.s],.row 5 true]
def kk18:List ShO:=[.cells 115 none kk0,.cells 55 none [.s,.s]]
def kk19:List Sh:=[.i .i64,.i .i64,.cap0,.s,.i .u64,.b,.b,.s,.i .u64,.i .u64,.cap0]
def kk20:List Sh:=[.i .i64,.i .i64,.sl 55,.s,.i .u64,.b,.b,.s,.i .u64,.i .u64,.sl 5]
def kk21:List Sh:=[.agg kk16]
def kk22:List Sh:=[.ifc 74 (.s),.ifc 89 (.agg []),.ifc 82 (.fn 43 [] []),.ifc 82 (.fn 44 [] [])]
def kk23:List Sh:=[.agg kk20]
def kk24:List ShO:=[.cells 32 none kk16]
def kk25:List ShO:=[.cells 26 none kk19]
def kk26:List ShO:=[.cells 26 none kk20]
def kk27:List Sh:=[.ifc 78 (.agg []),.ifc 74 (.s),.ifc 86 (.agg [.s,.s,.fn 41 [] []]),.ifc 86 (.agg [.s,.s,.fn 42 [] []]),.ifc 82 (.fn 40 [] [])]
def kk28:List ShO:=[.cells 26 none kk20,.row 9 true,.cells 20 none kk1]
def kk29:List ShO:=[.cells 26 none kk20,.row 9 true,.cells 20 none kk2]
def kk30:List ShO:=[.cells 26 none kk20,.row 9 true,.cells 20 none kk3]
def kk31:List Sh:=[.agg kk20,.agg kk20]
def kk32:List ShO:=[.cells 26 none kk20,.row 9 true,.cells 20 none kk8]
def kk33:List ShO:=[.cells 26 none kk20,.row 9 true,.cells 20 none kk9]
def kk36:List ShO:=[.cells 32 none kk15,.cells 32 none kk16]
def kk37:List ShO:=[.cells 26 none kk20,.row 9 true,.cells 20 none kk10]
def kk38:List ShO:=[.cells 26 none kk20,.cells 26 none kk20]
def kk39:List ShO:=[.cells 26 none kk20,.row 9 true,.cells 20 none kk12]
def kk40:List ShO:=[.cells 26 none kk20,.row 9 true,.cells 20 none kk13]
def kk41:List ShO:=[.cells 26 none kk20,.row 9 true,.cells 20 none kk14]
def kk42:List ShO:=[.cells 26 none kk20,.row 9 true,.cells 20 none kk22]
def kk43:List ShO:=[.cells 26 none kk20,.cells 26 none kk20,.cells 20 none kk1]
def kk44:List ShO:=[.cells 26 none kk20,.cells 26 none kk20,.cells 20 none kk2]
def kk45:List ShO:=[.cells 26 none kk20,.cells 26 none kk20,.cells 20 none kk3]
def kk46:List ShO:=[.cells 26 none kk20,.cells 26 none kk20,.cells 20 none kk8]
def kk47:List ShO:=[.cells 26 none kk20,.cells 26 none kk20,.cells 20 none kk9]
def kk48:List ShO:=[.cells 26 none kk20,.row 9 true,.cells 20 none kk27]
def kk49:List ShO:=[.cells 26 none kk20,.cells 26 none kk20,.cells 20 none kk10]
def kk50:List ShO:=[.cells 32 none kk16,.cells 32 none kk15,.cells 32 none kk15]
def kk51:List ShO:=[.cells 32 none kk16,.cells 32 none kk15,.cells 32 none kk16]
def kk52:List ShO:=[.cells 26 none kk20,.cells 26 none kk20,.cells 20 none kk12]
def kk53:List ShO:=[.cells 26 none kk20,.cells 26 none kk20,.cells 20 none kk13]
def kk54:List ShO:=[.cells 26 none kk20,.cells 26 none kk20,.cells 20 none kk14]
def kk55:List ShO:=[.cells 26 none kk20,.cells 26 none kk20,.cells 20 none kk22]
def kk56:List ShO:=[.cells 26 none kk20,.cells 26 none kk20,.cells 20 none kk27]
def xx0:Ex T→NormT T:=(xN (gcN 0 [2]) [] (gcN 0 [2]) (gcN 0 [1000000]))
theorem xx0_ok{m:Int}(x:Ex T):NormOk C (G m) 0 (xx0 x):=(xN_ok gcN_ok (ex_nil) gcN_ok gcN_ok) x
def xx1:Ex T→NormT T:=(xN (gcN 1 []) [] (gcN 1 []) (gcN 1 [1000000]))
theorem xx1_ok{m:Int}(x:Ex T):NormOk C (G m) 1 (xx1 x):=(xN_ok gcN_ok (ex_nil) gcN_ok gcN_ok) x
def xx2:Ex T→NormT T:=(xN (gcN 2 []) [] (gcN 2 []) (gcN 2 [1000000]))
theorem xx2_ok{m:Int}(x:Ex T):NormOk C (G m) 2 (xx2 x):=(xN_ok gcN_ok (ex_nil) gcN_ok gcN_ok) x
def xx3:Ex T→NormT T:=(xN (gcN 0 [3,5,12,13,14,32]) [(1,(gcN 0 [3,12,13,14])),(0,(gcN 0 [3]))] (gcN 0 [2]) (gcN 0 [1000000]))
theorem xx3_ok{m:Int}(x:Ex T):NormOk C (G m) 0 (xx3 x):=(xN_ok gcN_ok (ex_cons gcN_ok (ex_cons gcN_ok (ex_nil))) gcN_ok gcN_ok) x
def xx4:Ex T→NormT T:=(xN (gcN 0 [3,12,13,14]) [(1,(gcN 0 [3,12,13,14])),(0,(gcN 0 [3]))] (gcN 0 [2]) (gcN 0 [1000000]))
theorem xx4_ok{m:Int}(x:Ex T):NormOk C (G m) 0 (xx4 x):=(xN_ok gcN_ok (ex_cons gcN_ok (ex_cons gcN_ok (ex_nil))) gcN_ok gcN_ok) x
def xx5:Ex T→NormT T:=(xN (gcN 0 [3,12,13,14]) [(0,(gcN 0 [3]))] (gcN 0 [2]) (gcN 0 [1000000]))
theorem xx5_ok{m:Int}(x:Ex T):NormOk C (G m) 0 (xx5 x):=(xN_ok gcN_ok (ex_cons gcN_ok (ex_nil)) gcN_ok gcN_ok) x
def xx6:Ex T→NormT T:=(xN (gcN 0 [3]) [] (gcN 0 [2]) (gcN 0 [1000000]))
theorem xx6_ok{m:Int}(x:Ex T):NormOk C (G m) 0 (xx6 x):=(xN_ok gcN_ok (ex_nil) gcN_ok gcN_ok) x
def nn0:NormT T:=(andN (gcN 0 [3,12,13,14]) (andN (promC 0 1 [] 5) (gcN 0 [3,12,13,14])))
theorem nn0_ok{m:Int}:NormOk C (G m) 0 nn0:=(andN_ok gcN_ok (andN_ok promC_ok gcN_ok))
def xx7:Ex T→NormT T:=(xN (gcN 0 [4]) [] (gcN 0 [4]) (gcN 0 [1000000]))
theorem xx7_ok{m:Int}(x:Ex T):NormOk C (G m) 0 (xx7 x):=(xN_ok gcN_ok (ex_nil) gcN_ok gcN_ok) x
def xx8:Ex T→NormT T:=(xN (gcN 1 [0,3,4]) [] (gcN 1 [2]) (gcN 1 [1000000]))
theorem xx8_ok{m:Int}(x:Ex T):NormOk C (G m) 1 (xx8 x):=(xN_ok gcN_ok (ex_nil) gcN_ok gcN_ok) x
def xx9:Ex T→NormT T:=(xN (gcN 1 [0,4,14]) [] (gcN 1 [4]) (gcN 1 [1000000]))
theorem xx9_ok{m:Int}(x:Ex T):NormOk C (G m) 1 (xx9 x):=(xN_ok gcN_ok (ex_nil) gcN_ok gcN_ok) x
def xx10:Ex T→NormT T:=(xN (gcN 1 [0,4]) [] (gcN 1 [4]) (gcN 1 [1000000]))
theorem xx10_ok{m:Int}(x:Ex T):NormOk C (G m) 1 (xx10 x):=(xN_ok gcN_ok (ex_nil) gcN_ok gcN_ok) x
def xx11:Ex T→NormT T:=(xN (gcN 1 [4,5]) [] (gcN 1 [4]) (gcN 1 [1000000]))
theorem xx11_ok{m:Int}(x:Ex T):NormOk C (G m) 1 (xx11 x):=(xN_ok gcN_ok (ex_nil) gcN_ok gcN_ok) x
def xx12:Ex T→NormT T:=(xN (gcN 0 [5,6,28]) [(0,(gcN 0 [5,6]))] (gcN 0 [2,3,4]) (gcN 0 [1000000]))
theorem xx12_ok{m:Int}(x:Ex T):NormOk C (G m) 0 (xx12 x):=(xN_ok gcN_ok (ex_cons gcN_ok (ex_nil)) gcN_ok gcN_ok) x
def xx13:Ex T→NormT T:=(xN (gcN 0 [5,6]) [] (gcN 0 [2,3,4]) (gcN 0 [1000000]))
theorem xx13_ok{m:Int}(x:Ex T):NormOk C (G m) 0 (xx13 x):=(xN_ok gcN_ok (ex_nil) gcN_ok gcN_ok) x
def xx14:Ex T→NormT T:=(xN (gcN 0 [0,5,6]) [(0,(gcN 0 []))] (gcN 0 [2]) (gcN 0 [1000000]))
theorem xx14_ok{m:Int}(x:Ex T):NormOk C (G m) 0 (xx14 x):=(xN_ok gcN_ok (ex_cons gcN_ok (ex_nil)) gcN_ok gcN_ok) x
def nn1:NormT T:=(andN (gcN 0 [3,6,7,8]) (andN (promC 0 1 [] 5) (gcN 0 [3,6,7,8])))
theorem nn1_ok{m:Int}:NormOk C (G m) 0 nn1:=(andN_ok gcN_ok (andN_ok promC_ok gcN_ok))
def xx15:Ex T→NormT T:=(xN (andN (gcN 0 [1,4,13,14,15]) (andN (slC 0 2 [] 55) (andN (slC 0 10 [] 5) (gcN 0 [1,4,13,14,15])))) [(0,(gcN 0 [4]))] (gcN 0 [2,3]) (gcN 0 [1000000]))
theorem xx15_ok{m:Int}(x:Ex T):NormOk C (G m) 0 (xx15 x):=(xN_ok (andN_ok gcN_ok (andN_ok (slC_ok C_ok) (andN_ok (slC_ok C_ok) gcN_ok))) (ex_cons gcN_ok (ex_nil)) gcN_ok gcN_ok) x
def nn2:NormT T:=(andN (gcN 0 [1,4,13,14,15]) (andN (slC 0 2 [] 55) (andN (slC 0 10 [] 5) (gcN 0 [1,4,13,14,15]))))
theorem nn2_ok{m:Int}:NormOk C (G m) 0 nn2:=(andN_ok gcN_ok (andN_ok (slC_ok C_ok) (andN_ok (slC_ok C_ok) gcN_ok)))
def xx16:Ex T→NormT T:=(xN (gcN 0 [0,4,5,6,7,32]) [(1,(gcN 0 [0,4,5])),(0,(gcN 0 [4]))] (gcN 0 [2,3]) (gcN 0 [1000000]))
theorem xx16_ok{m:Int}(x:Ex T):NormOk C (G m) 0 (xx16 x):=(xN_ok gcN_ok (ex_cons gcN_ok (ex_cons gcN_ok (ex_nil))) gcN_ok gcN_ok) x
def xx17:Ex T→NormT T:=(xN (gcN 0 [4]) [] (gcN 0 [2,3]) (gcN 0 [1000000]))
theorem xx17_ok{m:Int}(x:Ex T):NormOk C (G m) 0 (xx17 x):=(xN_ok gcN_ok (ex_nil) gcN_ok gcN_ok) x
def nn3:NormT T:=(andN (promS 4 [] 5) (gcN 0 [0,4,5]))
theorem nn3_ok{m:Int}:NormOk C (G m) 0 nn3:=(andN_ok promS_ok gcN_ok)
def xx18:Ex T→NormT T:=(xN (andN (gcN 0 [0,1,4,6,7,21,22,23]) (andN (slC 0 2 [] 55) (andN (slC 0 10 [] 5) (andN (slC 1 2 [] 55) (andN (slC 1 10 [] 5) (gcN 0 [0,1,4,6,7,21,22,23])))))) [(0,(gcN 0 [4,6]))] (gcN 0 [4,5]) (gcN 0 [1000000]))
theorem xx18_ok{m:Int}(x:Ex T):NormOk C (G m) 0 (xx18 x):=(xN_ok (andN_ok gcN_ok (andN_ok (slC_ok C_ok) (andN_ok (slC_ok C_ok) (andN_ok (slC_ok C_ok) (andN_ok (slC_ok C_ok) gcN_ok))))) (ex_cons gcN_ok (ex_nil)) gcN_ok gcN_ok) x
def nn4:NormT T:=(andN (gcN 0 [0,1,4,6,7,21,22,23]) (andN (slC 0 2 [] 55) (andN (slC 0 10 [] 5) (andN (slC 1 2 [] 55) (andN (slC 1 10 [] 5) (gcN 0 [0,1,4,6,7,21,22,23]))))))
theorem nn4_ok{m:Int}:NormOk C (G m) 0 nn4:=(andN_ok gcN_ok (andN_ok (slC_ok C_ok) (andN_ok (slC_ok C_ok) (andN_ok (slC_ok C_ok) (andN_ok (slC_ok C_ok) gcN_ok)))))
def xx19:Ex T→NormT T:=(xN (gcN 0 [4,5]) [] (gcN 0 [4,5]) (gcN 0 [1000000]))
theorem xx19_ok{m:Int}(x:Ex T):NormOk C (G m) 0 (xx19 x):=(xN_ok gcN_ok (ex_nil) gcN_ok gcN_ok) x
def xx20:Ex T→NormT T:=(xN (gcN 0 []) [] (gcN 0 [4]) (gcN 0 [1000000]))
theorem xx20_ok{m:Int}(x:Ex T):NormOk C (G m) 0 (xx20 x):=(xN_ok gcN_ok (ex_nil) gcN_ok gcN_ok) x
def xx21:Ex T→NormT T:=(xN (gcN 0 [0,2,4,5,23]) [(1,(gcN 0 [0,2,4])),(0,(gcN 0 [2]))] (gcN 0 [2,3]) (gcN 0 [1000000]))
theorem xx21_ok{m:Int}(x:Ex T):NormOk C (G m) 0 (xx21 x):=(xN_ok gcN_ok (ex_cons gcN_ok (ex_cons gcN_ok (ex_nil))) gcN_ok gcN_ok) x
def xx22:Ex T→NormT T:=(xN (gcN 0 [2]) [] (gcN 0 [2,3]) (gcN 0 [1000000]))
theorem xx22_ok{m:Int}(x:Ex T):NormOk C (G m) 0 (xx22 x):=(xN_ok gcN_ok (ex_nil) gcN_ok gcN_ok) x
def xx23:Ex T→NormT T:=(xN (gcN 0 [0]) [] (gcN 0 [0]) (gcN 0 [1000000]))
theorem xx23_ok{m:Int}(x:Ex T):NormOk C (G m) 0 (xx23 x):=(xN_ok gcN_ok (ex_nil) gcN_ok gcN_ok) x
def xx26:Ex T→NormT T:=(xN (gcN 0 [0,3,4]) [(1,(gcN 0 [0,3])),(0,(gcN 0 [0]))] (gcN 0 [2]) (gcN 0 [1000000]))
theorem xx26_ok{m:Int}(x:Ex T):NormOk C (G m) 0 (xx26 x):=(xN_ok gcN_ok (ex_cons gcN_ok (ex_cons gcN_ok (ex_nil))) gcN_ok gcN_ok) x
def xx27:Ex T→NormT T:=(xN (gcN 0 [0,3,44]) [(1,(gcN 0 [0,3])),(0,(gcN 0 [0]))] (gcN 0 [2]) (gcN 0 [1000000]))
theorem xx27_ok{m:Int}(x:Ex T):NormOk C (G m) 0 (xx27 x):=(xN_ok gcN_ok (ex_cons gcN_ok (ex_cons gcN_ok (ex_nil))) gcN_ok gcN_ok) x
def xx28:Ex T→NormT T:=(xN (gcN 0 [0]) [] (gcN 0 [2]) (gcN 0 [1000000]))
theorem xx28_ok{m:Int}(x:Ex T):NormOk C (G m) 0 (xx28 x):=(xN_ok gcN_ok (ex_nil) gcN_ok gcN_ok) x
def xx29:Ex T→NormT T:=(xN (gcN 0 [0,3,4,6,38]) [(1,(gcN 0 [0,3,4])),(0,(gcN 0 [0,3]))] (gcN 0 [2]) (gcN 0 [1000000]))
theorem xx29_ok{m:Int}(x:Ex T):NormOk C (G m) 0 (xx29 x):=(xN_ok gcN_ok (ex_cons gcN_ok (ex_cons gcN_ok (ex_nil))) gcN_ok gcN_ok) x
def xx30:Ex T→NormT T:=(xN (gcN 0 [0,3,4]) [(1,(gcN 0 [0,3,4])),(0,(gcN 0 [0,3]))] (gcN 0 [2]) (gcN 0 [1000000]))
theorem xx30_ok{m:Int}(x:Ex T):NormOk C (G m) 0 (xx30 x):=(xN_ok gcN_ok (ex_cons gcN_ok (ex_cons gcN_ok (ex_nil))) gcN_ok gcN_ok) x
def xx31:Ex T→NormT T:=(xN (gcN 0 [0,3,4]) [(0,(gcN 0 [0,3]))] (gcN 0 [2]) (gcN 0 [1000000]))
theorem xx31_ok{m:Int}(x:Ex T):NormOk C (G m) 0 (xx31 x):=(xN_ok gcN_ok (ex_cons gcN_ok (ex_nil)) gcN_ok gcN_ok) x
def xx32:Ex T→NormT T:=(xN (gcN 0 [0,3]) [] (gcN 0 [2]) (gcN 0 [1000000]))
theorem xx32_ok{m:Int}(x:Ex T):NormOk C (G m) 0 (xx32 x):=(xN_ok gcN_ok (ex_nil) gcN_ok gcN_ok) x
def xx48:Ex T→NormT T:=(xN (gcN 0 [0,3,12]) [] (gcN 0 [2]) (gcN 0 [1000000]))
theorem xx48_ok{m:Int}(x:Ex T):NormOk C (G m) 0 (xx48 x):=(xN_ok gcN_ok (ex_nil) gcN_ok gcN_ok) x
def xx49:Ex T→NormT T:=(xN (gcN 0 [1,2,3,4]) [] (gcN 0 [2]) (gcN 0 [1000000]))
theorem xx49_ok{m:Int}(x:Ex T):NormOk C (G m) 0 (xx49 x):=(xN_ok gcN_ok (ex_nil) gcN_ok gcN_ok) x
def xx50:Ex T→NormT T:=(xN (gcN 0 [1,2,3,4,19]) [] (gcN 0 [2]) (gcN 0 [1000000]))
theorem xx50_ok{m:Int}(x:Ex T):NormOk C (G m) 0 (xx50 x):=(xN_ok gcN_ok (ex_nil) gcN_ok gcN_ok) x
def xx51:Ex T→NormT T:=(xN (andN (gcN 0 [1,2,3,4]) (andN (slC 2 2 [] 55) (gcN 0 [1,2,3,4]))) [] (gcN 0 [2]) (gcN 0 [1000000]))
theorem xx51_ok{m:Int}(x:Ex T):NormOk C (G m) 0 (xx51 x):=(xN_ok (andN_ok gcN_ok (andN_ok (slC_ok C_ok) gcN_ok)) (ex_nil) gcN_ok gcN_ok) x
def xx52:Ex T→NormT T:=(xN (gcN 0 [1,2,3,4,37]) [] (gcN 0 [2]) (gcN 0 [1000000]))
theorem xx52_ok{m:Int}(x:Ex T):NormOk C (G m) 0 (xx52 x):=(xN_ok gcN_ok (ex_nil) gcN_ok gcN_ok) x
def xx53:Ex T→NormT T:=(xN (gcN 0 [1,2,3,4,54]) [] (gcN 0 [2]) (gcN 0 [1000000]))
theorem xx53_ok{m:Int}(x:Ex T):NormOk C (G m) 0 (xx53 x):=(xN_ok gcN_ok (ex_nil) gcN_ok gcN_ok) x
def xx54:Ex T→NormT T:=(xN (gcN 0 [1,2,3,4,63]) [] (gcN 0 [2]) (gcN 0 [1000000]))
theorem xx54_ok{m:Int}(x:Ex T):NormOk C (G m) 0 (xx54 x):=(xN_ok gcN_ok (ex_nil) gcN_ok gcN_ok) x
def xx55:Ex T→NormT T:=(xN (gcN 0 [2,4]) [] (gcN 0 [2]) (gcN 0 [1000000]))
theorem xx55_ok{m:Int}(x:Ex T):NormOk C (G m) 0 (xx55 x):=(xN_ok gcN_ok (ex_nil) gcN_ok gcN_ok) x
def xx56:Ex T→NormT T:=(xN (gcN 0 [1,34]) [] (gcN 0 [2]) (gcN 0 [1000000]))
theorem xx56_ok{m:Int}(x:Ex T):NormOk C (G m) 0 (xx56 x):=(xN_ok gcN_ok (ex_nil) gcN_ok gcN_ok) x
def xx57:Ex T→NormT T:=(xN (gcN 0 [1,5,6,60]) [] (gcN 0 [2]) (gcN 0 [1000000]))
theorem xx57_ok{m:Int}(x:Ex T):NormOk C (G m) 0 (xx57 x):=(xN_ok gcN_ok (ex_nil) gcN_ok gcN_ok) x
def xx58:Ex T→NormT T:=(xN (gcN 0 [1,4]) [] (gcN 0 [2]) (gcN 0 [1000000]))
theorem xx58_ok{m:Int}(x:Ex T):NormOk C (G m) 0 (xx58 x):=(xN_ok gcN_ok (ex_nil) gcN_ok gcN_ok) x
def xx59:Ex T→NormT T:=(xN (gcN 0 [1,4,5,6]) [] (gcN 0 [2]) (gcN 0 [1000000]))
theorem xx59_ok{m:Int}(x:Ex T):NormOk C (G m) 0 (xx59 x):=(xN_ok gcN_ok (ex_nil) gcN_ok gcN_ok) x
def xx60:Ex T→NormT T:=(xN (gcN 0 [1,4,5,6,7]) [] (gcN 0 [2]) (gcN 0 [1000000]))
theorem xx60_ok{m:Int}(x:Ex T):NormOk C (G m) 0 (xx60 x):=(xN_ok gcN_ok (ex_nil) gcN_ok gcN_ok) x
def xx61:Ex T→NormT T:=(xN (gcN 0 [1,4,5,6,7,34,64]) [(0,(gcN 0 [4]))] (gcN 0 [2]) (gcN 0 [1000000]))
theorem xx61_ok{m:Int}(x:Ex T):NormOk C (G m) 0 (xx61 x):=(xN_ok gcN_ok (ex_cons gcN_ok (ex_nil)) gcN_ok gcN_ok) x
def nn6:NormT T:=(gcN 0 [1,4,5,6,7,34,64])
theorem nn6_ok{m:Int}:NormOk C (G m) 0 nn6:=gcN_ok
def xx62:Ex T→NormT T:=(xN (gcN 0 [1,4,112]) [(0,(gcN 0 [4]))] (gcN 0 [2]) (gcN 0 [1000000]))
theorem xx62_ok{m:Int}(x:Ex T):NormOk C (G m) 0 (xx62 x):=(xN_ok gcN_ok (ex_cons gcN_ok (ex_nil)) gcN_ok gcN_ok) x
def xx73:Ex T→NormT T:=(xN (gcN 0 [2,3,46]) [] (gcN 0 [4]) (gcN 0 [1000000]))
theorem xx73_ok{m:Int}(x:Ex T):NormOk C (G m) 0 (xx73 x):=(xN_ok gcN_ok (ex_nil) gcN_ok gcN_ok) x
def xx74:Ex T→NormT T:=(xN (gcN 0 [2,6,7,73]) [] (gcN 0 [4]) (gcN 0 [1000000]))
theorem xx74_ok{m:Int}(x:Ex T):NormOk C (G m) 0 (xx74 x):=(xN_ok gcN_ok (ex_nil) gcN_ok gcN_ok) x
def p_scalar_Ident_0:=mkP (T:=T) [⟨[(0,.s)],[],[]⟩] [⟨.normal,⟨[(2,.b)],[],[]⟩⟩]
theorem p_scalar_Ident_0_ok:PieceOk p_scalar_Ident_0:=mkP_ok _ _
theorem p_scalar_Ident_0_ct(κ:Nat)(m:Int):CutOk Tryz.prog C (G m) Tryz.f48.ntmps 0 (pieceOf (.reg 1) (getBody Tryz.f48)) (p_scalar_Ident_0.cut (gcN 0 [0]) (fun a0=>scalar_Ident.v0 κ a0)):=
 Piece.join p_scalar_Ident_0_ok C_ok mixed (gamB_ok κ m) gcN_ok xx0_ok (cut:=noCut) (X:=xx0) (cuts_by (l:=[]) (by kernel_rfl) (all_nil)) (fun s=>by kernel_rfl)
def cc_scalar_Ident_1(κ:Nat):Cut T:=p_scalar_Ident_0.cut (gcN 0 [0]) (fun a0=>scalar_Ident.v0 κ a0)
theorem cc_scalar_Ident_1_ok(κ:Nat)(m:Int):CutOk Tryz.prog C (G m) Tryz.f48.ntmps 0 (pieceOf (.reg 1) (getBody Tryz.f48)) (cc_scalar_Ident_1 κ):=p_scalar_Ident_0_ct κ m
def ct_scalar_Ident_1(κ:Nat):Key→Option (Cut T):=addCut noCut (.reg 1) (cc_scalar_Ident_1 κ)
def sp_scalar_Ident:=mkS (T:=T) [.s] [] [⟨false,.b,[]⟩]
theorem sp_scalar_Ident_ok:SpecOk sp_scalar_Ident:=mkS_ok _ _ _
theorem ok_scalar_Ident(κ:Nat)(m:Int):EOk Tryz.prog C (G m) 48 (sp_scalar_Ident.entry (fun a0=>scalar_Ident κ a0)):=
 Spec.ok sp_scalar_Ident_ok C_ok mixed (gamB_ok κ m) (cut:=(ct_scalar_Ident_1 κ)) (NR:=(gcN 0 [0])) (NP:=(gcN 0 [0])) (nB:=0) Tryz.func48 (c:=(getBody Tryz.f48)) (by kernel_rfl) (by kernel_rfl) (fun i=>by kernel_rfl) gcN_ok gcN_ok (cuts_by (l:=[(pieceOf (.reg 1) (getBody Tryz.f48),cc_scalar_Ident_1 κ)]) (by kernel_rfl) (all_cons (cc_scalar_Ident_1_ok κ m) (all_nil))) (fun i=>by kernel_rfl)
noncomputable def gam1(κ:Nat):Gam T:=(gamB κ).addS 48 sp_scalar_Ident (fun a0=>scalar_Ident κ a0)
theorem gam1_ok(κ:Nat)(m:Int):GOk Tryz.prog C (G m) (gam1 κ):=(gamB_ok κ m).addS (ok_scalar_Ident κ m)
def p_strings_Builder_copyCheck_0:=mkP (T:=T) [⟨[(0,.ptr 0 0),(6,.b)],[.cells 94 none [.pn,.cap0]],[]⟩] [⟨.normal,⟨[],[.cells 94 none [.ptr 0 0,.cap0]],[]⟩⟩]
theorem p_strings_Builder_copyCheck_0_ok:PieceOk p_strings_Builder_copyCheck_0:=mkP_ok _ _
theorem p_strings_Builder_copyCheck_0_ct(κ:Nat)(m:Int):CutOk Tryz.prog C (G m) Tryz.f62.ntmps 1 (pieceOf (.cnd 6 2) (getBody Tryz.f62)) (p_strings_Builder_copyCheck_0.cut (gcN 1 [0,6]) (fun a0=>strings_Builder_copyCheck.v0 κ a0)):=
 Piece.join p_strings_Builder_copyCheck_0_ok C_ok mixed (gam1_ok κ m) gcN_ok xx1_ok (cut:=noCut) (X:=xx1) (cuts_by (l:=[]) (by kernel_rfl) (all_nil)) (fun s=>by kernel_rfl)
def cc_strings_Builder_copyCheck_1(κ:Nat):Cut T:=p_strings_Builder_copyCheck_0.cut (gcN 1 [0,6]) (fun a0=>strings_Builder_copyCheck.v0 κ a0)
theorem cc_strings_Builder_copyCheck_1_ok(κ:Nat)(m:Int):CutOk Tryz.prog C (G m) Tryz.f62.ntmps 1 (pieceOf (.cnd 6 2) (getBody Tryz.f62)) (cc_strings_Builder_copyCheck_1 κ):=p_strings_Builder_copyCheck_0_ct κ m
def ct_strings_Builder_copyCheck_1(κ:Nat):Key→Option (Cut T):=addCut noCut (.cnd 6 2) (cc_strings_Builder_copyCheck_1 κ)
def sp_strings_Builder_copyCheck:=mkS (T:=T) [.ptr 0 0] [.cells 94 none [.pn,.cap0]] [⟨false,.tup [],[.cells 94 none [.ptr 0 0,.cap0]]⟩]
theorem sp_strings_Builder_copyCheck_ok:SpecOk sp_strings_Builder_copyCheck:=mkS_ok _ _ _
theorem ok_strings_Builder_copyCheck(κ:Nat)(m:Int):EOk Tryz.prog C (G m) 62 (sp_strings_Builder_copyCheck.entry (fun _ =>strings_Builder_copyCheck κ)):=
 Spec.ok sp_strings_Builder_copyCheck_ok C_ok mixed (gam1_ok κ m) (cut:=(ct_strings_Builder_copyCheck_1 κ)) (NR:=(gcN 1 [0])) (NP:=(gcN 1 [0])) (nB:=1) Tryz.func62 (c:=(getBody Tryz.f62)) (by kernel_rfl) (by kernel_rfl) (fun i=>by kernel_rfl) gcN_ok gcN_ok (cuts_by (l:=[(pieceOf (.cnd 6 2) (getBody Tryz.f62),cc_strings_Builder_copyCheck_1 κ)]) (by kernel_rfl) (all_cons (cc_strings_Builder_copyCheck_1_ok κ m) (all_nil))) (fun i=>by kernel_rfl)
noncomputable def gam2(κ:Nat):Gam T:=(gam1 κ).addS 62 sp_strings_Builder_copyCheck (fun _ =>strings_Builder_copyCheck κ)
theorem gam2_ok(κ:Nat)(m:Int):GOk Tryz.prog C (G m) (gam2 κ):=(gam1_ok κ m).addS (ok_strings_Builder_copyCheck κ m)
def p_strings_Builder_copyCheck_2_0:=mkP (T:=T) [⟨[(0,.ptr 0 0),(6,.b)],kk6,[]⟩] [⟨.normal,⟨[],kk6,[]⟩⟩]
theorem p_strings_Builder_copyCheck_2_0_ok:PieceOk p_strings_Builder_copyCheck_2_0:=mkP_ok _ _
theorem p_strings_Builder_copyCheck_2_0_ct(κ:Nat)(m:Int):CutOk Tryz.prog C (G m) Tryz.f62.ntmps 2 (pieceOf (.cnd 6 2) (getBody Tryz.f62)) (p_strings_Builder_copyCheck_2_0.cut (gcN 2 [0,6]) (cur _ (strings_Builder_copyCheck_2.v0 κ))):=
 Piece.join p_strings_Builder_copyCheck_2_0_ok C_ok mixed (gam2_ok κ m) gcN_ok xx2_ok (cut:=noCut) (X:=xx2) (cuts_by (l:=[]) (by kernel_rfl) (all_nil)) (fun s=>by kernel_rfl)
def cc_strings_Builder_copyCheck_2_1(κ:Nat):Cut T:=p_strings_Builder_copyCheck_2_0.cut (gcN 2 [0,6]) (cur _ (strings_Builder_copyCheck_2.v0 κ))
theorem cc_strings_Builder_copyCheck_2_1_ok(κ:Nat)(m:Int):CutOk Tryz.prog C (G m) Tryz.f62.ntmps 2 (pieceOf (.cnd 6 2) (getBody Tryz.f62)) (cc_strings_Builder_copyCheck_2_1 κ):=p_strings_Builder_copyCheck_2_0_ct κ m
def ct_strings_Builder_copyCheck_2_1(κ:Nat):Key→Option (Cut T):=addCut noCut (.cnd 6 2) (cc_strings_Builder_copyCheck_2_1 κ)
def sp_strings_Builder_copyCheck_2:=mkS (T:=T) [.ptr 0 0] kk6 [⟨false,.tup [],kk6⟩]
theorem sp_strings_Builder_copyCheck_2_ok:SpecOk sp_strings_Builder_copyCheck_2:=mkS_ok _ _ _
theorem ok_strings_Builder_copyCheck_2(κ:Nat)(m:Int):EOk Tryz.prog C (G m) 62 (sp_strings_Builder_copyCheck_2.entry (fun a0=>strings_Builder_copyCheck_2 κ a0)):=
 Spec.ok sp_strings_Builder_copyCheck_2_ok C_ok mixed (gam2_ok κ m) (cut:=(ct_strings_Builder_copyCheck_2_1 κ)) (NR:=(gcN 2 [0])) (NP:=(gcN 2 [0])) (nB:=2) Tryz.func62 (c:=(getBody Tryz.f62)) (by kernel_rfl) (by kernel_rfl) (fun i=>by kernel_rfl) gcN_ok gcN_ok (cuts_by (l:=[(pieceOf (.cnd 6 2) (getBody Tryz.f62),cc_strings_Builder_copyCheck_2_1 κ)]) (by kernel_rfl) (all_cons (cc_strings_Builder_copyCheck_2_1_ok κ m) (all_nil))) (fun i=>by kernel_rfl)
noncomputable def gam4(κ:Nat):Gam T:=(gam2 κ).addS 62 sp_strings_Builder_copyCheck_2 (fun a0=>strings_Builder_copyCheck_2 κ a0)
theorem gam4_ok(κ:Nat)(m:Int):GOk Tryz.prog C (G m) (gam4 κ):=(gam2_ok κ m).addS (ok_strings_Builder_copyCheck_2 κ m)
def sp_strings_Builder_WriteString_2:=mkS (T:=T) [.ptr 0 0,.s] kk6 [⟨false,.tup [.i .i64,.if0],kk6⟩]
theorem sp_strings_Builder_WriteString_2_ok:SpecOk sp_strings_Builder_WriteString_2:=mkS_ok _ _ _
theorem ok_strings_Builder_WriteString_2(κ:Nat)(m:Int):EOk Tryz.prog C (G m) 51 (sp_strings_Builder_WriteString_2.entry (cur _ (strings_Builder_WriteString_2 κ))):=
 Spec.ok sp_strings_Builder_WriteString_2_ok C_ok mixed (gam4_ok κ m) (cut:=noCut) (NR:=(gcN 2 [0])) (NP:=(gcN 2 [0])) (nB:=2) Tryz.func51 (c:=(getBody Tryz.f51)) (by kernel_rfl) (by kernel_rfl) (fun i=>by kernel_rfl) gcN_ok gcN_ok (cuts_by (l:=[]) (by kernel_rfl) (all_nil)) (fun i=>by kernel_rfl)
noncomputable def gam5(κ:Nat):Gam T:=(gam4 κ).addS 51 sp_strings_Builder_WriteString_2 (cur _ (strings_Builder_WriteString_2 κ))
theorem gam5_ok(κ:Nat)(m:Int):GOk Tryz.prog C (G m) (gam5 κ):=(gam4_ok κ m).addS (ok_strings_Builder_WriteString_2 κ m)
def p_strings_Builder_copyCheck_3_0:=mkP (T:=T) [⟨[(0,.ptr 0 0),(6,.b)],kk5,[]⟩] [⟨.normal,⟨[],kk6,[]⟩⟩]
theorem p_strings_Builder_copyCheck_3_0_ok:PieceOk p_strings_Builder_copyCheck_3_0:=mkP_ok _ _
theorem p_strings_Builder_copyCheck_3_0_ct(κ:Nat)(m:Int):CutOk Tryz.prog C (G m) Tryz.f62.ntmps 2 (pieceOf (.cnd 6 2) (getBody Tryz.f62)) (p_strings_Builder_copyCheck_3_0.cut (gcN 2 [0,6]) (cur _ (strings_Builder_copyCheck_3.v0 κ))):=
 Piece.join p_strings_Builder_copyCheck_3_0_ok C_ok mixed (gam5_ok κ m) gcN_ok xx2_ok (cut:=noCut) (X:=xx2) (cuts_by (l:=[]) (by kernel_rfl) (all_nil)) (fun s=>by kernel_rfl)
def cc_strings_Builder_copyCheck_3_1(κ:Nat):Cut T:=p_strings_Builder_copyCheck_3_0.cut (gcN 2 [0,6]) (cur _ (strings_Builder_copyCheck_3.v0 κ))
theorem cc_strings_Builder_copyCheck_3_1_ok(κ:Nat)(m:Int):CutOk Tryz.prog C (G m) Tryz.f62.ntmps 2 (pieceOf (.cnd 6 2) (getBody Tryz.f62)) (cc_strings_Builder_copyCheck_3_1 κ):=p_strings_Builder_copyCheck_3_0_ct κ m
def ct_strings_Builder_copyCheck_3_1(κ:Nat):Key→Option (Cut T):=addCut noCut (.cnd 6 2) (cc_strings_Builder_copyCheck_3_1 κ)
def sp_strings_Builder_copyCheck_3:=mkS (T:=T) [.ptr 0 0] kk5 [⟨false,.tup [],kk6⟩]
theorem sp_strings_Builder_copyCheck_3_ok:SpecOk sp_strings_Builder_copyCheck_3:=mkS_ok _ _ _
theorem ok_strings_Builder_copyCheck_3(κ:Nat)(m:Int):EOk Tryz.prog C (G m) 62 (sp_strings_Builder_copyCheck_3.entry (fun a0=>strings_Builder_copyCheck_3 κ a0)):=
 Spec.ok sp_strings_Builder_copyCheck_3_ok C_ok mixed (gam5_ok κ m) (cut:=(ct_strings_Builder_copyCheck_3_1 κ)) (NR:=(gcN 2 [0])) (NP:=(gcN 2 [0])) (nB:=2) Tryz.func62 (c:=(getBody Tryz.f62)) (by kernel_rfl) (by kernel_rfl) (fun i=>by kernel_rfl) gcN_ok gcN_ok (cuts_by (l:=[(pieceOf (.cnd 6 2) (getBody Tryz.f62),cc_strings_Builder_copyCheck_3_1 κ)]) (by kernel_rfl) (all_cons (cc_strings_Builder_copyCheck_3_1_ok κ m) (all_nil))) (fun i=>by kernel_rfl)
noncomputable def gam6(κ:Nat):Gam T:=(gam5 κ).addS 62 sp_strings_Builder_copyCheck_3 (fun a0=>strings_Builder_copyCheck_3 κ a0)
theorem gam6_ok(κ:Nat)(m:Int):GOk Tryz.prog C (G m) (gam6 κ):=(gam5_ok κ m).addS (ok_strings_Builder_copyCheck_3 κ m)
def sp_strings_Builder_WriteString_3:=mkS (T:=T) [.ptr 0 0,.s] kk5 [⟨false,.tup [.i .i64,.if0],kk6⟩]
theorem sp_strings_Builder_WriteString_3_ok:SpecOk sp_strings_Builder_WriteString_3:=mkS_ok _ _ _
theorem ok_strings_Builder_WriteString_3(κ:Nat)(m:Int):EOk Tryz.prog C (G m) 51 (sp_strings_Builder_WriteString_3.entry (cur _ (strings_Builder_WriteString_3 κ))):=
 Spec.ok sp_strings_Builder_WriteString_3_ok C_ok mixed (gam6_ok κ m) (cut:=noCut) (NR:=(gcN 2 [0])) (NP:=(gcN 2 [0])) (nB:=2) Tryz.func51 (c:=(getBody Tryz.f51)) (by kernel_rfl) (by kernel_rfl) (fun i=>by kernel_rfl) gcN_ok gcN_ok (cuts_by (l:=[]) (by kernel_rfl) (all_nil)) (fun i=>by kernel_rfl)
noncomputable def gam7(κ:Nat):Gam T:=(gam6 κ).addS 51 sp_strings_Builder_WriteString_3 (cur _ (strings_Builder_WriteString_3 κ))
theorem gam7_ok(κ:Nat)(m:Int):GOk Tryz.prog C (G m) (gam7 κ):=(gam6_ok κ m).addS (ok_strings_Builder_WriteString_3 κ m)
def sp_strings_Builder_String:=mkS (T:=T) [.ptr 0 0] kk5 [⟨false,.s,[.cells 94 none [.pn,.any],.dead]⟩]
theorem sp_strings_Builder_String_ok:SpecOk sp_strings_Builder_String:=mkS_ok _ _ _
theorem ok_strings_Builder_String(κ:Nat)(m:Int):EOk Tryz.prog C (G m) 52 (sp_strings_Builder_String.entry (fun a0=>strings_Builder_String κ a0)):=
 Spec.ok sp_strings_Builder_String_ok C_ok mixed (gam7_ok κ m) (cut:=noCut) (NR:=(gcN 2 [0])) (NP:=(gcN 2 [0])) (nB:=2) Tryz.func52 (c:=(getBody Tryz.f52)) (by kernel_rfl) (by kernel_rfl) (fun i=>by kernel_rfl) gcN_ok gcN_ok (cuts_by (l:=[]) (by kernel_rfl) (all_nil)) (fun i=>by kernel_rfl)
noncomputable def gam8(κ:Nat):Gam T:=(gam7 κ).addS 52 sp_strings_Builder_String (fun a0=>strings_Builder_String κ a0)
theorem gam8_ok(κ:Nat)(m:Int):GOk Tryz.prog C (G m) (gam8 κ):=(gam7_ok κ m).addS (ok_strings_Builder_String κ m)
def sp_strings_Builder_String_2:=mkS (T:=T) [.ptr 0 0] kk6 [⟨false,.s,[.cells 94 none [.ptr 0 0,.any],.dead]⟩]
theorem sp_strings_Builder_String_2_ok:SpecOk sp_strings_Builder_String_2:=mkS_ok _ _ _
theorem ok_strings_Builder_String_2(κ:Nat)(m:Int):EOk Tryz.prog C (G m) 52 (sp_strings_Builder_String_2.entry (fun a0=>strings_Builder_String_2 κ a0)):=
 Spec.ok sp_strings_Builder_String_2_ok C_ok mixed (gam8_ok κ m) (cut:=noCut) (NR:=(gcN 2 [0])) (NP:=(gcN 2 [0])) (nB:=2) Tryz.func52 (c:=(getBody Tryz.f52)) (by kernel_rfl) (by kernel_rfl) (fun i=>by kernel_rfl) gcN_ok gcN_ok (cuts_by (l:=[]) (by kernel_rfl) (all_nil)) (fun i=>by kernel_rfl)
noncomputable def gam9(κ:Nat):Gam T:=(gam8 κ).addS 52 sp_strings_Builder_String_2 (fun a0=>strings_Builder_String_2 κ a0)
theorem gam9_ok(κ:Nat)(m:Int):GOk Tryz.prog C (G m) (gam9 κ):=(gam8_ok κ m).addS (ok_strings_Builder_String_2 κ m)
def p_path_Show_25:=mkP (T:=T) [⟨[(3,.ptr 0 0),(5,.ptr 1 0),(12,.sl 55),(13,.i .i64),(14,.i .i64)],[.cells 94 none [.pn,.own 2],.cells 55 none [.s,.s],.row 5 true],[]⟩] [⟨.normal,⟨[(3,.ptr 0 0),(5,.ptr 1 0),(12,.sl 55),(13,.i .i64),(14,.i .i64),(32,.b)],[.cells 94 none [.pn,.own 2],.cells 55 none [.s,.s],.row 5 true],[]⟩⟩]
theorem p_path_Show_25_ok:PieceOk p_path_Show_25:=mkP_ok _ _
theorem p_path_Show_25_ct(κ:Nat)(m:Int):CutOk Tryz.prog C (G m) Tryz.f46.ntmps 0 (pieceOf (.reg 9) (getBody Tryz.f46)) (p_path_Show_25.cut (gcN 0 [3,5,12,13,14]) (cur _ (path_Show.v25 κ))):=
 Piece.join p_path_Show_25_ok C_ok mixed (gam7_ok κ m) gcN_ok xx3_ok (cut:=noCut) (X:=xx3) (cuts_by (l:=[]) (by kernel_rfl) (all_nil)) (fun s=>by kernel_rfl)
def cc_path_Show_26(κ:Nat):Cut T:=p_path_Show_25.cut (gcN 0 [3,5,12,13,14]) (cur _ (path_Show.v25 κ))
theorem cc_path_Show_26_ok(κ:Nat)(m:Int):CutOk Tryz.prog C (G m) Tryz.f46.ntmps 0 (pieceOf (.reg 9) (getBody Tryz.f46)) (cc_path_Show_26 κ):=p_path_Show_25_ct κ m
def ct_path_Show_26(κ:Nat):Key→Option (Cut T):=addCut noCut (.reg 9) (cc_path_Show_26 κ)
def p_path_Show_27:=mkP (T:=T) [⟨[(3,.ptr 0 0),(5,.ptr 1 0),(12,.sl 55),(13,.i .i64),(14,.i .i64),(39,.b)],kk17,[]⟩] [⟨.normal,⟨[(3,.ptr 0 0),(12,.sl 55),(13,.i .i64),(14,.i .i64)],kk6,[]⟩⟩]
theorem p_path_Show_27_ok:PieceOk p_path_Show_27:=mkP_ok _ _
theorem p_path_Show_27_ct(κ:Nat)(m:Int):CutOk Tryz.prog C (G m) Tryz.f46.ntmps 0 (pieceOf (.cnd 39 14) (getBody Tryz.f46)) (p_path_Show_27.cut (gcN 0 [3,5,12,13,14,39]) (cur _ (path_Show.v27 κ))):=
 Piece.join p_path_Show_27_ok C_ok mixed (gam7_ok κ m) gcN_ok xx4_ok (cut:=(ct_path_Show_26 κ)) (X:=xx4) (cuts_by (l:=[]) (by kernel_rfl) (all_nil)) (fun s=>by kernel_rfl)
def cc_path_Show_28(κ:Nat):Cut T:=p_path_Show_27.cut (gcN 0 [3,5,12,13,14,39]) (cur _ (path_Show.v27 κ))
theorem cc_path_Show_28_ok(κ:Nat)(m:Int):CutOk Tryz.prog C (G m) Tryz.f46.ntmps 0 (pieceOf (.cnd 39 14) (getBody Tryz.f46)) (cc_path_Show_28 κ):=p_path_Show_27_ct κ m
def ct_path_Show_28(κ:Nat):Key→Option (Cut T):=addCut (ct_path_Show_26 κ) (.cnd 39 14) (cc_path_Show_28 κ)
def p_path_Show_24:=mkP (T:=T) [⟨[(3,.ptr 0 0),(12,.sl 55),(13,.i .i64),(14,.i .i64)],kk5,[]⟩] [⟨.normal,⟨[(3,.ptr 0 0),(12,.sl 55),(13,.i .i64),(14,.i .i64)],kk6,[]⟩⟩,⟨.ret,⟨[(2,.s)],[],[]⟩⟩]
theorem p_path_Show_24_ok:PieceOk p_path_Show_24:=mkP_ok _ _
theorem p_path_Show_24_ct(κ:Nat)(m:Int):CutOk Tryz.prog C (G m) Tryz.f46.ntmps 0 (pieceOf (.blk 1) (getBody Tryz.f46)) (p_path_Show_24.cut (gcN 0 [3,12,13,14]) (cur _ (path_Show.v24 κ))):=
 Piece.join p_path_Show_24_ok C_ok mixed (gam7_ok κ m) gcN_ok xx5_ok (cut:=(ct_path_Show_28 κ)) (X:=xx5) (cuts_by (l:=[(pieceOf (.reg 9) (getBody Tryz.f46),cc_path_Show_26 κ),(pieceOf (.cnd 39 14) (getBody Tryz.f46),cc_path_Show_28 κ)]) (by kernel_rfl) (all_cons (cc_path_Show_26_ok κ m) (all_cons (cc_path_Show_28_ok κ m) (all_nil)))) (fun s=>by kernel_rfl)
def p_path_Show_30:=mkP (T:=T) [⟨[(3,.ptr 0 0),(5,.ptr 1 0),(12,.sl 55),(13,.i .i64),(14,.i .i64)],kk17,[]⟩] [⟨.normal,⟨[(3,.ptr 0 0),(5,.ptr 1 0),(12,.sl 55),(13,.i .i64),(14,.i .i64),(32,.b)],kk17,[]⟩⟩]
theorem p_path_Show_30_ok:PieceOk p_path_Show_30:=mkP_ok _ _
theorem p_path_Show_30_ct(κ:Nat)(m:Int):CutOk Tryz.prog C (G m) Tryz.f46.ntmps 0 (pieceOf (.reg 9) (getBody Tryz.f46)) (p_path_Show_30.cut (gcN 0 [3,5,12,13,14]) (cur _ (path_Show.v30 κ))):=
 Piece.join p_path_Show_30_ok C_ok mixed (gam7_ok κ m) gcN_ok xx3_ok (cut:=noCut) (X:=xx3) (cuts_by (l:=[]) (by kernel_rfl) (all_nil)) (fun s=>by kernel_rfl)
def cc_path_Show_31(κ:Nat):Cut T:=p_path_Show_30.cut (gcN 0 [3,5,12,13,14]) (cur _ (path_Show.v30 κ))
theorem cc_path_Show_31_ok(κ:Nat)(m:Int):CutOk Tryz.prog C (G m) Tryz.f46.ntmps 0 (pieceOf (.reg 9) (getBody Tryz.f46)) (cc_path_Show_31 κ):=p_path_Show_30_ct κ m
def ct_path_Show_31(κ:Nat):Key→Option (Cut T):=addCut noCut (.reg 9) (cc_path_Show_31 κ)
def p_path_Show_32:=mkP (T:=T) [⟨[(3,.ptr 0 0),(5,.ptr 1 0),(12,.sl 55),(13,.i .i64),(14,.i .i64),(39,.b)],kk17,[]⟩] [⟨.normal,⟨[(3,.ptr 0 0),(12,.sl 55),(13,.i .i64),(14,.i .i64)],kk6,[]⟩⟩]
theorem p_path_Show_32_ok:PieceOk p_path_Show_32:=mkP_ok _ _
theorem p_path_Show_32_ct(κ:Nat)(m:Int):CutOk Tryz.prog C (G m) Tryz.f46.ntmps 0 (pieceOf (.cnd 39 14) (getBody Tryz.f46)) (p_path_Show_32.cut (gcN 0 [3,5,12,13,14,39]) (cur _ (path_Show.v32 κ))):=
 Piece.join p_path_Show_32_ok C_ok mixed (gam7_ok κ m) gcN_ok xx4_ok (cut:=(ct_path_Show_31 κ)) (X:=xx4) (cuts_by (l:=[]) (by kernel_rfl) (all_nil)) (fun s=>by kernel_rfl)
def cc_path_Show_33(κ:Nat):Cut T:=p_path_Show_32.cut (gcN 0 [3,5,12,13,14,39]) (cur _ (path_Show.v32 κ))
theorem cc_path_Show_33_ok(κ:Nat)(m:Int):CutOk Tryz.prog C (G m) Tryz.f46.ntmps 0 (pieceOf (.cnd 39 14) (getBody Tryz.f46)) (cc_path_Show_33 κ):=p_path_Show_32_ct κ m
def ct_path_Show_33(κ:Nat):Key→Option (Cut T):=addCut (ct_path_Show_31 κ) (.cnd 39 14) (cc_path_Show_33 κ)
def p_path_Show_29:=mkP (T:=T) [⟨[(3,.ptr 0 0),(12,.sl 55),(13,.i .i64),(14,.i .i64)],kk6,[]⟩] [⟨.normal,⟨[(3,.ptr 0 0),(12,.sl 55),(13,.i .i64),(14,.i .i64)],kk6,[]⟩⟩,⟨.ret,⟨[(2,.s)],[],[]⟩⟩]
theorem p_path_Show_29_ok:PieceOk p_path_Show_29:=mkP_ok _ _
theorem p_path_Show_29_ct(κ:Nat)(m:Int):CutOk Tryz.prog C (G m) Tryz.f46.ntmps 0 (pieceOf (.blk 1) (getBody Tryz.f46)) (p_path_Show_29.cut (gcN 0 [3,12,13,14]) (cur _ (path_Show.v29 κ))):=
 Piece.join p_path_Show_29_ok C_ok mixed (gam7_ok κ m) gcN_ok xx5_ok (cut:=(ct_path_Show_33 κ)) (X:=xx5) (cuts_by (l:=[(pieceOf (.reg 9) (getBody Tryz.f46),cc_path_Show_31 κ),(pieceOf (.cnd 39 14) (getBody Tryz.f46),cc_path_Show_33 κ)]) (by kernel_rfl) (all_cons (cc_path_Show_31_ok κ m) (all_cons (cc_path_Show_33_ok κ m) (all_nil)))) (fun s=>by kernel_rfl)
def cc_path_Show_34(κ:Nat):Cut T:=p_path_Show_24.cutOr (gcN 0 [3,12,13,14]) (cur _ (path_Show.v24 κ)) (p_path_Show_29.cut (gcN 0 [3,12,13,14]) (cur _ (path_Show.v29 κ)))
theorem cc_path_Show_34_ok(κ:Nat)(m:Int):CutOk Tryz.prog C (G m) Tryz.f46.ntmps 0 (pieceOf (.blk 1) (getBody Tryz.f46)) (cc_path_Show_34 κ):=Piece.or_ok (p_path_Show_24_ct κ m) (p_path_Show_29_ct κ m)
def ct_path_Show_34(κ:Nat):Key→Option (Cut T):=addCut noCut (.blk 1) (cc_path_Show_34 κ)
def p_path_Show_23:=mkP (T:=T) [⟨[(3,.ptr 0 0),(12,.sl 55),(13,.i .i64),(14,.i .i64)],kk5,[]⟩,⟨[(3,.ptr 0 0),(12,.sl 55),(13,.i .i64),(14,.i .i64)],kk6,[]⟩] [⟨.normal,⟨[(3,.ptr 0 0)],kk5,[]⟩⟩,⟨.ret,⟨[(2,.s)],[],[]⟩⟩,⟨.normal,⟨[(3,.ptr 0 0)],kk6,[]⟩⟩]
theorem p_path_Show_23_ok:PieceOk p_path_Show_23:=mkP_ok _ _
theorem p_path_Show_23_ct(κ:Nat)(m:Int):CutOk Tryz.prog C (G m) Tryz.f46.ntmps 0 (pieceOf (.blk 0) (getBody Tryz.f46)) (p_path_Show_23.cut nn0 (path_Show.l23 κ κ)):=
 Piece.loop p_path_Show_23_ok C_ok mixed (gam7_ok κ m) nn0_ok xx6_ok (cut:=(ct_path_Show_34 κ)) (X:=xx6) (id:=0) (body:=bodyOf (pieceOf (.blk 0) (getBody Tryz.f46))) (cuts_by (l:=[(pieceOf (.blk 1) (getBody Tryz.f46),cc_path_Show_34 κ)]) (by kernel_rfl) (all_cons (cc_path_Show_34_ok κ m) (all_nil))) (f:=path_Show.l23 κ) (fun s=>by rcases s with s|s<;>kernel_rfl) (fun k s=>by rcases s with s|s<;>kernel_rfl) κ
def cc_path_Show_35(κ:Nat):Cut T:=p_path_Show_23.cut nn0 (path_Show.l23 κ κ)
theorem cc_path_Show_35_ok(κ:Nat)(m:Int):CutOk Tryz.prog C (G m) Tryz.f46.ntmps 0 (pieceOf (.blk 0) (getBody Tryz.f46)) (cc_path_Show_35 κ):=p_path_Show_23_ct κ m
def ct_path_Show_35(κ:Nat):Key→Option (Cut T):=addCut noCut (.blk 0) (cc_path_Show_35 κ)
def sp_path_Show:=mkS (T:=T) [.sl 55] [] [⟨false,.s,[]⟩]
theorem sp_path_Show_ok:SpecOk sp_path_Show:=mkS_ok _ _ _
theorem ok_path_Show(κ:Nat)(m:Int):EOk Tryz.prog C (G m) 46 (sp_path_Show.entry (fun a0=>path_Show κ a0)):=
 Spec.ok sp_path_Show_ok C_ok mixed (gam9_ok κ m) (cut:=(ct_path_Show_35 κ)) (NR:=(gcN 0 [0])) (NP:=(gcN 0 [0])) (nB:=0) Tryz.func46 (c:=(getBody Tryz.f46)) (by kernel_rfl) (by kernel_rfl) (fun i=>by kernel_rfl) gcN_ok gcN_ok (cuts_by (l:=[(pieceOf (.blk 0) (getBody Tryz.f46),cc_path_Show_35 κ)]) (by kernel_rfl) (all_cons (cc_path_Show_35_ok κ m) (all_nil))) (fun i=>by kernel_rfl)
noncomputable def gam10(κ:Nat):Gam T:=(gam9 κ).addS 46 sp_path_Show (fun a0=>path_Show κ a0)
theorem gam10_ok(κ:Nat)(m:Int):GOk Tryz.prog C (G m) (gam10 κ):=(gam9_ok κ m).addS (ok_path_Show κ m)
def p_internal_stringslite_HasPrefix_0:=mkP (T:=T) [⟨[(0,.s),(1,.s)],[],[]⟩] [⟨.normal,⟨[(4,.b)],[],[]⟩⟩]
theorem p_internal_stringslite_HasPrefix_0_ok:PieceOk p_internal_stringslite_HasPrefix_0:=mkP_ok _ _
theorem p_internal_stringslite_HasPrefix_0_ct(κ:Nat)(m:Int):CutOk Tryz.prog C (G m) Tryz.f105.ntmps 0 (pieceOf (.reg 1) (getBody Tryz.f105)) (p_internal_stringslite_HasPrefix_0.cut (gcN 0 [0,1]) (cur _ (internal_stringslite_HasPrefix.v0 κ))):=
 Piece.join p_internal_stringslite_HasPrefix_0_ok C_ok mixed (gam10_ok κ m) gcN_ok xx7_ok (cut:=noCut) (X:=xx7) (cuts_by (l:=[]) (by kernel_rfl) (all_nil)) (fun s=>by kernel_rfl)
def cc_internal_stringslite_HasPrefix_1(κ:Nat):Cut T:=p_internal_stringslite_HasPrefix_0.cut (gcN 0 [0,1]) (cur _ (internal_stringslite_HasPrefix.v0 κ))
theorem cc_internal_stringslite_HasPrefix_1_ok(κ:Nat)(m:Int):CutOk Tryz.prog C (G m) Tryz.f105.ntmps 0 (pieceOf (.reg 1) (getBody Tryz.f105)) (cc_internal_stringslite_HasPrefix_1 κ):=p_internal_stringslite_HasPrefix_0_ct κ m
def ct_internal_stringslite_HasPrefix_1(κ:Nat):Key→Option (Cut T):=addCut noCut (.reg 1) (cc_internal_stringslite_HasPrefix_1 κ)
def sp_internal_stringslite_HasPrefix:=mkS (T:=T) [.s,.s] [] [⟨false,.b,[]⟩]
theorem sp_internal_stringslite_HasPrefix_ok:SpecOk sp_internal_stringslite_HasPrefix:=mkS_ok _ _ _
theorem ok_internal_stringslite_HasPrefix(κ:Nat)(m:Int):EOk Tryz.prog C (G m) 105 (sp_internal_stringslite_HasPrefix.entry (cur _ (internal_stringslite_HasPrefix κ))):=
 Spec.ok sp_internal_stringslite_HasPrefix_ok C_ok mixed (gam10_ok κ m) (cut:=(ct_internal_stringslite_HasPrefix_1 κ)) (NR:=(gcN 0 [0])) (NP:=(gcN 0 [0])) (nB:=0) Tryz.func105 (c:=(getBody Tryz.f105)) (by kernel_rfl) (by kernel_rfl) (fun i=>by kernel_rfl) gcN_ok gcN_ok (cuts_by (l:=[(pieceOf (.reg 1) (getBody Tryz.f105),cc_internal_stringslite_HasPrefix_1 κ)]) (by kernel_rfl) (all_cons (cc_internal_stringslite_HasPrefix_1_ok κ m) (all_nil))) (fun i=>by kernel_rfl)
noncomputable def gam11(κ:Nat):Gam T:=(gam10 κ).addS 105 sp_internal_stringslite_HasPrefix (cur _ (internal_stringslite_HasPrefix κ))
theorem gam11_ok(κ:Nat)(m:Int):GOk Tryz.prog C (G m) (gam11 κ):=(gam10_ok κ m).addS (ok_internal_stringslite_HasPrefix κ m)
def sp_strings_HasPrefix:=mkS (T:=T) [.s,.s] [] [⟨false,.b,[]⟩]
theorem sp_strings_HasPrefix_ok:SpecOk sp_strings_HasPrefix:=mkS_ok _ _ _
theorem ok_strings_HasPrefix(κ:Nat)(m:Int):EOk Tryz.prog C (G m) 85 (sp_strings_HasPrefix.entry (cur _ (strings_HasPrefix κ))):=
 Spec.ok sp_strings_HasPrefix_ok C_ok mixed (gam11_ok κ m) (cut:=noCut) (NR:=(gcN 0 [0])) (NP:=(gcN 0 [0])) (nB:=0) Tryz.func85 (c:=(getBody Tryz.f85)) (by kernel_rfl) (by kernel_rfl) (fun i=>by kernel_rfl) gcN_ok gcN_ok (cuts_by (l:=[]) (by kernel_rfl) (all_nil)) (fun i=>by kernel_rfl)
noncomputable def gam12(κ:Nat):Gam T:=(gam11 κ).addS 85 sp_strings_HasPrefix (cur _ (strings_HasPrefix κ))
theorem gam12_ok(κ:Nat)(m:Int):GOk Tryz.prog C (G m) (gam12 κ):=(gam11_ok κ m).addS (ok_strings_HasPrefix κ m)
def p_path_reader_fail_0:=mkP (T:=T) [⟨[(0,.ptr 0 0),(1,.i .i64),(8,.b)],kk7,[]⟩] [⟨.normal,⟨[],kk7,[]⟩⟩]
theorem p_path_reader_fail_0_ok:PieceOk p_path_reader_fail_0:=mkP_ok _ _
theorem p_path_reader_fail_0_ct(κ:Nat)(m:Int):CutOk Tryz.prog C (G m) Tryz.f86.ntmps 1 (pieceOf (.cnd 8 2) (getBody Tryz.f86)) (p_path_reader_fail_0.cut (gcN 1 [0,1,8]) (cur _ (path_reader_fail.v0 κ))):=
 Piece.join p_path_reader_fail_0_ok C_ok mixed (gam12_ok κ m) gcN_ok xx1_ok (cut:=noCut) (X:=xx1) (cuts_by (l:=[]) (by kernel_rfl) (all_nil)) (fun s=>by kernel_rfl)
def cc_path_reader_fail_1(κ:Nat):Cut T:=p_path_reader_fail_0.cut (gcN 1 [0,1,8]) (cur _ (path_reader_fail.v0 κ))
theorem cc_path_reader_fail_1_ok(κ:Nat)(m:Int):CutOk Tryz.prog C (G m) Tryz.f86.ntmps 1 (pieceOf (.cnd 8 2) (getBody Tryz.f86)) (cc_path_reader_fail_1 κ):=p_path_reader_fail_0_ct κ m
def ct_path_reader_fail_1(κ:Nat):Key→Option (Cut T):=addCut noCut (.cnd 8 2) (cc_path_reader_fail_1 κ)
def sp_path_reader_fail:=mkS (T:=T) [.ptr 0 0,.i .i64] kk7 [⟨false,.tup [],kk7⟩]
theorem sp_path_reader_fail_ok:SpecOk sp_path_reader_fail:=mkS_ok _ _ _
theorem ok_path_reader_fail(κ:Nat)(m:Int):EOk Tryz.prog C (G m) 86 (sp_path_reader_fail.entry (cur _ (path_reader_fail κ))):=
 Spec.ok sp_path_reader_fail_ok C_ok mixed (gam12_ok κ m) (cut:=(ct_path_reader_fail_1 κ)) (NR:=(gcN 1 [0])) (NP:=(gcN 1 [0])) (nB:=1) Tryz.func86 (c:=(getBody Tryz.f86)) (by kernel_rfl) (by kernel_rfl) (fun i=>by kernel_rfl) gcN_ok gcN_ok (cuts_by (l:=[(pieceOf (.cnd 8 2) (getBody Tryz.f86),cc_path_reader_fail_1 κ)]) (by kernel_rfl) (all_cons (cc_path_reader_fail_1_ok κ m) (all_nil))) (fun i=>by kernel_rfl)
noncomputable def gam13(κ:Nat):Gam T:=(gam12 κ).addS 86 sp_path_reader_fail (cur _ (path_reader_fail κ))
theorem gam13_ok(κ:Nat)(m:Int):GOk Tryz.prog C (G m) (gam13 κ):=(gam12_ok κ m).addS (ok_path_reader_fail κ m)
def sp_internal_stringslite_CutPrefix:=mkS (T:=T) [.s,.s] [] [⟨false,.tup [.s,.b],[]⟩]
theorem sp_internal_stringslite_CutPrefix_ok:SpecOk sp_internal_stringslite_CutPrefix:=mkS_ok _ _ _
theorem ok_internal_stringslite_CutPrefix(κ:Nat)(m:Int):EOk Tryz.prog C (G m) 119 (sp_internal_stringslite_CutPrefix.entry (cur _ (internal_stringslite_CutPrefix κ))):=
 Spec.ok sp_internal_stringslite_CutPrefix_ok C_ok mixed (gam13_ok κ m) (cut:=noCut) (NR:=(gcN 0 [0])) (NP:=(gcN 0 [0])) (nB:=0) Tryz.func119 (c:=(getBody Tryz.f119)) (by kernel_rfl) (by kernel_rfl) (fun i=>by kernel_rfl) gcN_ok gcN_ok (cuts_by (l:=[]) (by kernel_rfl) (all_nil)) (fun i=>by kernel_rfl)
noncomputable def gam14(κ:Nat):Gam T:=(gam13 κ).addS 119 sp_internal_stringslite_CutPrefix (cur _ (internal_stringslite_CutPrefix κ))
theorem gam14_ok(κ:Nat)(m:Int):GOk Tryz.prog C (G m) (gam14 κ):=(gam13_ok κ m).addS (ok_internal_stringslite_CutPrefix κ m)
def sp_strings_CutPrefix:=mkS (T:=T) [.s,.s] [] [⟨false,.tup [.s,.b],[]⟩]
theorem sp_strings_CutPrefix_ok:SpecOk sp_strings_CutPrefix:=mkS_ok _ _ _
theorem ok_strings_CutPrefix(κ:Nat)(m:Int):EOk Tryz.prog C (G m) 106 (sp_strings_CutPrefix.entry (cur _ (strings_CutPrefix κ))):=
 Spec.ok sp_strings_CutPrefix_ok C_ok mixed (gam14_ok κ m) (cut:=noCut) (NR:=(gcN 0 [0])) (NP:=(gcN 0 [0])) (nB:=0) Tryz.func106 (c:=(getBody Tryz.f106)) (by kernel_rfl) (by kernel_rfl) (fun i=>by kernel_rfl) gcN_ok gcN_ok (cuts_by (l:=[]) (by kernel_rfl) (all_nil)) (fun i=>by kernel_rfl)
noncomputable def gam15(κ:Nat):Gam T:=(gam14 κ).addS 106 sp_strings_CutPrefix (cur _ (strings_CutPrefix κ))
theorem gam15_ok(κ:Nat)(m:Int):GOk Tryz.prog C (G m) (gam15 κ):=(gam14_ok κ m).addS (ok_strings_CutPrefix κ m)
def sp_path_reader_sign:=mkS (T:=T) [.ptr 0 0,.s] kk7 [⟨false,.tup [],kk7⟩]
theorem sp_path_reader_sign_ok:SpecOk sp_path_reader_sign:=mkS_ok _ _ _
theorem ok_path_reader_sign(κ:Nat)(m:Int):EOk Tryz.prog C (G m) 87 (sp_path_reader_sign.entry (cur _ (path_reader_sign κ))):=
 Spec.ok sp_path_reader_sign_ok C_ok mixed (gam15_ok κ m) (cut:=noCut) (NR:=(gcN 1 [0])) (NP:=(gcN 1 [0])) (nB:=1) Tryz.func87 (c:=(getBody Tryz.f87)) (by kernel_rfl) (by kernel_rfl) (fun i=>by kernel_rfl) gcN_ok gcN_ok (cuts_by (l:=[]) (by kernel_rfl) (all_nil)) (fun i=>by kernel_rfl)
noncomputable def gam16(κ:Nat):Gam T:=(gam15 κ).addS 87 sp_path_reader_sign (cur _ (path_reader_sign κ))
theorem gam16_ok(κ:Nat)(m:Int):GOk Tryz.prog C (G m) (gam16 κ):=(gam15_ok κ m).addS (ok_path_reader_sign κ m)
def p_path_reader_name_0:=mkP (T:=T) [⟨[(0,.ptr 0 0),(3,.s),(4,.s),(25,.b)],kk7,[]⟩] [⟨.normal,⟨[(0,.ptr 0 0),(3,.s),(4,.s)],kk7,[]⟩⟩]
theorem p_path_reader_name_0_ok:PieceOk p_path_reader_name_0:=mkP_ok _ _
theorem p_path_reader_name_0_ct(κ:Nat)(m:Int):CutOk Tryz.prog C (G m) Tryz.f88.ntmps 1 (pieceOf (.cnd 25 5) (getBody Tryz.f88)) (p_path_reader_name_0.cut (gcN 1 [0,3,4,25]) (cur _ (path_reader_name.v0 κ))):=
 Piece.join p_path_reader_name_0_ok C_ok mixed (gam16_ok κ m) gcN_ok xx8_ok (cut:=noCut) (X:=xx8) (cuts_by (l:=[]) (by kernel_rfl) (all_nil)) (fun s=>by kernel_rfl)
def cc_path_reader_name_1(κ:Nat):Cut T:=p_path_reader_name_0.cut (gcN 1 [0,3,4,25]) (cur _ (path_reader_name.v0 κ))
theorem cc_path_reader_name_1_ok(κ:Nat)(m:Int):CutOk Tryz.prog C (G m) Tryz.f88.ntmps 1 (pieceOf (.cnd 25 5) (getBody Tryz.f88)) (cc_path_reader_name_1 κ):=p_path_reader_name_0_ct κ m
def ct_path_reader_name_1(κ:Nat):Key→Option (Cut T):=addCut noCut (.cnd 25 5) (cc_path_reader_name_1 κ)
def sp_path_reader_name:=mkS (T:=T) [.ptr 0 0] kk7 [⟨false,.s,kk7⟩]
theorem sp_path_reader_name_ok:SpecOk sp_path_reader_name:=mkS_ok _ _ _
theorem ok_path_reader_name(κ:Nat)(m:Int):EOk Tryz.prog C (G m) 88 (sp_path_reader_name.entry (cur _ (path_reader_name κ))):=
 Spec.ok sp_path_reader_name_ok C_ok mixed (gam16_ok κ m) (cut:=(ct_path_reader_name_1 κ)) (NR:=(gcN 1 [0])) (NP:=(gcN 1 [0])) (nB:=1) Tryz.func88 (c:=(getBody Tryz.f88)) (by kernel_rfl) (by kernel_rfl) (fun i=>by kernel_rfl) gcN_ok gcN_ok (cuts_by (l:=[(pieceOf (.cnd 25 5) (getBody Tryz.f88),cc_path_reader_name_1 κ)]) (by kernel_rfl) (all_cons (cc_path_reader_name_1_ok κ m) (all_nil))) (fun i=>by kernel_rfl)
noncomputable def gam17(κ:Nat):Gam T:=(gam16 κ).addS 88 sp_path_reader_name (cur _ (path_reader_name κ))
theorem gam17_ok(κ:Nat)(m:Int):GOk Tryz.prog C (G m) (gam17 κ):=(gam16_ok κ m).addS (ok_path_reader_name κ m)
def p_path_reader_step_0:=mkP (T:=T) [⟨[(0,.ptr 0 0),(1,.i .i64),(4,.ptr 1 0)],kk18,[]⟩] [⟨.normal,⟨[(0,.ptr 0 0),(4,.ptr 1 0),(14,.b)],kk18,[]⟩⟩]
theorem p_path_reader_step_0_ok:PieceOk p_path_reader_step_0:=mkP_ok _ _
theorem p_path_reader_step_0_ct(κ:Nat)(m:Int):CutOk Tryz.prog C (G m) Tryz.f66.ntmps 1 (pieceOf (.reg 1) (getBody Tryz.f66)) (p_path_reader_step_0.cut (gcN 1 [0,1,4]) (cur _ (path_reader_step.v0 κ))):=
 Piece.join p_path_reader_step_0_ok C_ok mixed (gam12_ok κ m) gcN_ok xx9_ok (cut:=noCut) (X:=xx9) (cuts_by (l:=[]) (by kernel_rfl) (all_nil)) (fun s=>by kernel_rfl)
def cc_path_reader_step_1(κ:Nat):Cut T:=p_path_reader_step_0.cut (gcN 1 [0,1,4]) (cur _ (path_reader_step.v0 κ))
theorem cc_path_reader_step_1_ok(κ:Nat)(m:Int):CutOk Tryz.prog C (G m) Tryz.f66.ntmps 1 (pieceOf (.reg 1) (getBody Tryz.f66)) (cc_path_reader_step_1 κ):=p_path_reader_step_0_ct κ m
def ct_path_reader_step_1(κ:Nat):Key→Option (Cut T):=addCut noCut (.reg 1) (cc_path_reader_step_1 κ)
def p_path_reader_step_2:=mkP (T:=T) [⟨[(0,.ptr 0 0),(4,.ptr 1 0),(14,.b)],kk18,[]⟩] [⟨.normal,⟨[(0,.ptr 0 0),(4,.ptr 1 0)],kk18,[]⟩⟩]
theorem p_path_reader_step_2_ok:PieceOk p_path_reader_step_2:=mkP_ok _ _
theorem p_path_reader_step_2_ct(κ:Nat)(m:Int):CutOk Tryz.prog C (G m) Tryz.f66.ntmps 1 (pieceOf (.cnd 14 3) (getBody Tryz.f66)) (p_path_reader_step_2.cut (gcN 1 [0,4,14]) (cur _ (path_reader_step.v2 κ))):=
 Piece.join p_path_reader_step_2_ok C_ok mixed (gam13_ok κ m) gcN_ok xx10_ok (cut:=(ct_path_reader_step_1 κ)) (X:=xx10) (cuts_by (l:=[]) (by kernel_rfl) (all_nil)) (fun s=>by kernel_rfl)
def cc_path_reader_step_3(κ:Nat):Cut T:=p_path_reader_step_2.cut (gcN 1 [0,4,14]) (cur _ (path_reader_step.v2 κ))
theorem cc_path_reader_step_3_ok(κ:Nat)(m:Int):CutOk Tryz.prog C (G m) Tryz.f66.ntmps 1 (pieceOf (.cnd 14 3) (getBody Tryz.f66)) (cc_path_reader_step_3 κ):=p_path_reader_step_2_ct κ m
def ct_path_reader_step_3(κ:Nat):Key→Option (Cut T):=addCut (ct_path_reader_step_1 κ) (.cnd 14 3) (cc_path_reader_step_3 κ)
def p_path_reader_step_4:=mkP (T:=T) [⟨[(0,.ptr 0 0),(4,.ptr 1 0),(5,.ptr 2 0),(26,.b)],[.cells 115 none kk0,.cells 55 none [.s,.s],.cells 55 none [.s,.s]],[]⟩] [⟨.normal,⟨[(4,.ptr 1 0),(5,.ptr 2 0)],[.cells 115 none kk0,.cells 55 none [.s,.s],.cells 55 none [.s,.s]],[]⟩⟩]
theorem p_path_reader_step_4_ok:PieceOk p_path_reader_step_4:=mkP_ok _ _
theorem p_path_reader_step_4_ct(κ:Nat)(m:Int):CutOk Tryz.prog C (G m) Tryz.f66.ntmps 1 (pieceOf (.cnd 26 7) (getBody Tryz.f66)) (p_path_reader_step_4.cut (gcN 1 [0,4,5,26]) (cur _ (path_reader_step.v4 κ))):=
 Piece.join p_path_reader_step_4_ok C_ok mixed (gam17_ok κ m) gcN_ok xx11_ok (cut:=(ct_path_reader_step_3 κ)) (X:=xx11) (cuts_by (l:=[]) (by kernel_rfl) (all_nil)) (fun s=>by kernel_rfl)
def cc_path_reader_step_5(κ:Nat):Cut T:=p_path_reader_step_4.cut (gcN 1 [0,4,5,26]) (cur _ (path_reader_step.v4 κ))
theorem cc_path_reader_step_5_ok(κ:Nat)(m:Int):CutOk Tryz.prog C (G m) Tryz.f66.ntmps 1 (pieceOf (.cnd 26 7) (getBody Tryz.f66)) (cc_path_reader_step_5 κ):=p_path_reader_step_4_ct κ m
def ct_path_reader_step_5(κ:Nat):Key→Option (Cut T):=addCut (ct_path_reader_step_3 κ) (.cnd 26 7) (cc_path_reader_step_5 κ)
def sp_path_reader_step:=mkS (T:=T) [.ptr 0 0,.i .i64] kk7 [⟨false,.agg [.s,.s],kk7⟩]
theorem sp_path_reader_step_ok:SpecOk sp_path_reader_step:=mkS_ok _ _ _
theorem ok_path_reader_step(κ:Nat)(m:Int):EOk Tryz.prog C (G m) 66 (sp_path_reader_step.entry (cur _ (path_reader_step κ))):=
 Spec.ok sp_path_reader_step_ok C_ok mixed (gam17_ok κ m) (cut:=(ct_path_reader_step_5 κ)) (NR:=(gcN 1 [0])) (NP:=(gcN 1 [0])) (nB:=1) Tryz.func66 (c:=(getBody Tryz.f66)) (by kernel_rfl) (by kernel_rfl) (fun i=>by kernel_rfl) gcN_ok gcN_ok (cuts_by (l:=[(pieceOf (.reg 1) (getBody Tryz.f66),cc_path_reader_step_1 κ),(pieceOf (.cnd 14 3) (getBody Tryz.f66),cc_path_reader_step_3 κ),(pieceOf (.cnd 26 7) (getBody Tryz.f66),cc_path_reader_step_5 κ)]) (by kernel_rfl) (all_cons (cc_path_reader_step_1_ok κ m) (all_cons (cc_path_reader_step_3_ok κ m) (all_cons (cc_path_reader_step_5_ok κ m) (all_nil))))) (fun i=>by kernel_rfl)
noncomputable def gam18(κ:Nat):Gam T:=(gam17 κ).addS 66 sp_path_reader_step (cur _ (path_reader_step κ))
theorem gam18_ok(κ:Nat)(m:Int):GOk Tryz.prog C (G m) (gam18 κ):=(gam17_ok κ m).addS (ok_path_reader_step κ m)
def p_path_Parse_3:=mkP (T:=T) [⟨[(5,.ptr 0 0),(6,.own 1)],kk11,[]⟩] [⟨.normal,⟨[(5,.ptr 0 0),(6,.own 1),(28,.b)],kk11,[]⟩⟩]
theorem p_path_Parse_3_ok:PieceOk p_path_Parse_3:=mkP_ok _ _
theorem p_path_Parse_3_ct(κ:Nat)(m:Int):CutOk Tryz.prog C (G m) Tryz.f55.ntmps 0 (pieceOf (.reg 5) (getBody Tryz.f55)) (p_path_Parse_3.cut (gcN 0 [5,6]) (cur _ (path_Parse.v3 κ))):=
 Piece.join p_path_Parse_3_ok C_ok mixed (gam18_ok κ m) gcN_ok xx12_ok (cut:=noCut) (X:=xx12) (cuts_by (l:=[]) (by kernel_rfl) (all_nil)) (fun s=>by kernel_rfl)
def cc_path_Parse_4(κ:Nat):Cut T:=p_path_Parse_3.cut (gcN 0 [5,6]) (cur _ (path_Parse.v3 κ))
theorem cc_path_Parse_4_ok(κ:Nat)(m:Int):CutOk Tryz.prog C (G m) Tryz.f55.ntmps 0 (pieceOf (.reg 5) (getBody Tryz.f55)) (cc_path_Parse_4 κ):=p_path_Parse_3_ct κ m
def ct_path_Parse_4(κ:Nat):Key→Option (Cut T):=addCut noCut (.reg 5) (cc_path_Parse_4 κ)
def p_path_Parse_2:=mkP (T:=T) [⟨[(5,.ptr 0 0),(6,.own 1)],kk11,[]⟩] [⟨.normal,⟨[(5,.ptr 0 0),(6,.own 1)],kk11,[]⟩⟩]
theorem p_path_Parse_2_ok:PieceOk p_path_Parse_2:=mkP_ok _ _
theorem p_path_Parse_2_ct(κ:Nat)(m:Int):CutOk Tryz.prog C (G m) Tryz.f55.ntmps 0 (pieceOf (.blk 0) (getBody Tryz.f55)) (p_path_Parse_2.cut (gcN 0 [5,6]) (path_Parse.l2 κ κ)):=
 Piece.loop p_path_Parse_2_ok C_ok mixed (gam18_ok κ m) gcN_ok xx13_ok (cut:=(ct_path_Parse_4 κ)) (X:=xx13) (id:=0) (body:=bodyOf (pieceOf (.blk 0) (getBody Tryz.f55))) (cuts_by (l:=[(pieceOf (.reg 5) (getBody Tryz.f55),cc_path_Parse_4 κ)]) (by kernel_rfl) (all_cons (cc_path_Parse_4_ok κ m) (all_nil))) (f:=path_Parse.l2 κ) (fun s=>by kernel_rfl) (fun k s=>by kernel_rfl) κ
def cc_path_Parse_5(κ:Nat):Cut T:=p_path_Parse_2.cut (gcN 0 [5,6]) (path_Parse.l2 κ κ)
theorem cc_path_Parse_5_ok(κ:Nat)(m:Int):CutOk Tryz.prog C (G m) Tryz.f55.ntmps 0 (pieceOf (.blk 0) (getBody Tryz.f55)) (cc_path_Parse_5 κ):=p_path_Parse_2_ct κ m
def ct_path_Parse_5(κ:Nat):Key→Option (Cut T):=addCut noCut (.blk 0) (cc_path_Parse_5 κ)
def sp_path_Parse:=mkS (T:=T) [.s] [] [⟨false,.tup [.own 0,.i .i64,.i .i64],[.row 55 true]⟩]
theorem sp_path_Parse_ok:SpecOk sp_path_Parse:=mkS_ok _ _ _
theorem ok_path_Parse(κ:Nat)(m:Int):EOk Tryz.prog C (G m) 55 (sp_path_Parse.entry (fun a0=>path_Parse κ a0)):=
 Spec.ok sp_path_Parse_ok C_ok mixed (gam18_ok κ m) (cut:=(ct_path_Parse_5 κ)) (NR:=(andN (promS 0 [0] 55) (gcN 0 [0]))) (NP:=(gcN 0 [0])) (nB:=0) Tryz.func55 (c:=(getBody Tryz.f55)) (by kernel_rfl) (by kernel_rfl) (fun i=>by kernel_rfl) (andN_ok promS_ok gcN_ok) gcN_ok (cuts_by (l:=[(pieceOf (.blk 0) (getBody Tryz.f55),cc_path_Parse_5 κ)]) (by kernel_rfl) (all_cons (cc_path_Parse_5_ok κ m) (all_nil))) (fun i=>by kernel_rfl)
noncomputable def gam19(κ:Nat):Gam T:=(gam18 κ).addS 55 sp_path_Parse (fun a0=>path_Parse κ a0)
theorem gam19_ok(κ:Nat)(m:Int):GOk Tryz.prog C (G m) (gam19 κ):=(gam18_ok κ m).addS (ok_path_Parse κ m)
def p_words_parts_5:=mkP (T:=T) [⟨[(0,.i .i64),(5,.i .i64),(6,.b)],[],[]⟩] [⟨.normal,⟨[(0,.i .i64),(5,.i .i64),(6,.b)],[],[]⟩⟩]
theorem p_words_parts_5_ok:PieceOk p_words_parts_5:=mkP_ok _ _
theorem p_words_parts_5_ct(κ:Nat)(m:Int):CutOk Tryz.prog C (G m) Tryz.f32.ntmps 0 (pieceOf (.cnd 6 9) (getBody Tryz.f32)) (p_words_parts_5.cut (gcN 0 [0,5,6]) (cur _ (words_parts.v5 κ))):=
 Piece.join p_words_parts_5_ok C_ok mixed (gam19_ok κ m) gcN_ok xx14_ok (cut:=noCut) (X:=xx14) (cuts_by (l:=[]) (by kernel_rfl) (all_nil)) (fun s=>by kernel_rfl)
def cc_words_parts_6(κ:Nat):Cut T:=p_words_parts_5.cut (gcN 0 [0,5,6]) (cur _ (words_parts.v5 κ))
theorem cc_words_parts_6_ok(κ:Nat)(m:Int):CutOk Tryz.prog C (G m) Tryz.f32.ntmps 0 (pieceOf (.cnd 6 9) (getBody Tryz.f32)) (cc_words_parts_6 κ):=p_words_parts_5_ct κ m
def ct_words_parts_6(κ:Nat):Key→Option (Cut T):=addCut noCut (.cnd 6 9) (cc_words_parts_6 κ)
def p_words_parts_4:=mkP (T:=T) [⟨[(0,.i .i64),(5,.i .i64),(6,.b)],[],[]⟩] [⟨.normal,⟨[(0,.i .i64),(5,.i .i64),(6,.b)],[],[]⟩⟩]
theorem p_words_parts_4_ok:PieceOk p_words_parts_4:=mkP_ok _ _
theorem p_words_parts_4_ct(κ:Nat)(m:Int):CutOk Tryz.prog C (G m) Tryz.f32.ntmps 0 (pieceOf (.cnd 6 8) (getBody Tryz.f32)) (p_words_parts_4.cut (gcN 0 [0,5,6]) (cur _ (words_parts.v4 κ))):=
 Piece.join p_words_parts_4_ok C_ok mixed (gam19_ok κ m) gcN_ok xx14_ok (cut:=(ct_words_parts_6 κ)) (X:=xx14) (cuts_by (l:=[(pieceOf (.cnd 6 9) (getBody Tryz.f32),cc_words_parts_6 κ)]) (by kernel_rfl) (all_cons (cc_words_parts_6_ok κ m) (all_nil))) (fun s=>by kernel_rfl)
def cc_words_parts_7(κ:Nat):Cut T:=p_words_parts_4.cut (gcN 0 [0,5,6]) (cur _ (words_parts.v4 κ))
theorem cc_words_parts_7_ok(κ:Nat)(m:Int):CutOk Tryz.prog C (G m) Tryz.f32.ntmps 0 (pieceOf (.cnd 6 8) (getBody Tryz.f32)) (cc_words_parts_7 κ):=p_words_parts_4_ct κ m
def ct_words_parts_7(κ:Nat):Key→Option (Cut T):=addCut noCut (.cnd 6 8) (cc_words_parts_7 κ)
def p_words_parts_3:=mkP (T:=T) [⟨[(0,.i .i64),(5,.i .i64),(6,.b)],[],[]⟩] [⟨.normal,⟨[(0,.i .i64),(5,.i .i64),(6,.b)],[],[]⟩⟩]
theorem p_words_parts_3_ok:PieceOk p_words_parts_3:=mkP_ok _ _
theorem p_words_parts_3_ct(κ:Nat)(m:Int):CutOk Tryz.prog C (G m) Tryz.f32.ntmps 0 (pieceOf (.cnd 6 7) (getBody Tryz.f32)) (p_words_parts_3.cut (gcN 0 [0,5,6]) (cur _ (words_parts.v3 κ))):=
 Piece.join p_words_parts_3_ok C_ok mixed (gam19_ok κ m) gcN_ok xx14_ok (cut:=(ct_words_parts_7 κ)) (X:=xx14) (cuts_by (l:=[(pieceOf (.cnd 6 8) (getBody Tryz.f32),cc_words_parts_7 κ)]) (by kernel_rfl) (all_cons (cc_words_parts_7_ok κ m) (all_nil))) (fun s=>by kernel_rfl)
def cc_words_parts_8(κ:Nat):Cut T:=p_words_parts_3.cut (gcN 0 [0,5,6]) (cur _ (words_parts.v3 κ))
theorem cc_words_parts_8_ok(κ:Nat)(m:Int):CutOk Tryz.prog C (G m) Tryz.f32.ntmps 0 (pieceOf (.cnd 6 7) (getBody Tryz.f32)) (cc_words_parts_8 κ):=p_words_parts_3_ct κ m
def ct_words_parts_8(κ:Nat):Key→Option (Cut T):=addCut noCut (.cnd 6 7) (cc_words_parts_8 κ)
def p_words_parts_2:=mkP (T:=T) [⟨[(0,.i .i64),(5,.i .i64),(6,.b)],[],[]⟩] [⟨.normal,⟨[(0,.i .i64),(5,.i .i64),(6,.b)],[],[]⟩⟩]
theorem p_words_parts_2_ok:PieceOk p_words_parts_2:=mkP_ok _ _
theorem p_words_parts_2_ct(κ:Nat)(m:Int):CutOk Tryz.prog C (G m) Tryz.f32.ntmps 0 (pieceOf (.cnd 6 6) (getBody Tryz.f32)) (p_words_parts_2.cut (gcN 0 [0,5,6]) (cur _ (words_parts.v2 κ))):=
 Piece.join p_words_parts_2_ok C_ok mixed (gam19_ok κ m) gcN_ok xx14_ok (cut:=(ct_words_parts_8 κ)) (X:=xx14) (cuts_by (l:=[(pieceOf (.cnd 6 7) (getBody Tryz.f32),cc_words_parts_8 κ)]) (by kernel_rfl) (all_cons (cc_words_parts_8_ok κ m) (all_nil))) (fun s=>by kernel_rfl)
def cc_words_parts_9(κ:Nat):Cut T:=p_words_parts_2.cut (gcN 0 [0,5,6]) (cur _ (words_parts.v2 κ))
theorem cc_words_parts_9_ok(κ:Nat)(m:Int):CutOk Tryz.prog C (G m) Tryz.f32.ntmps 0 (pieceOf (.cnd 6 6) (getBody Tryz.f32)) (cc_words_parts_9 κ):=p_words_parts_2_ct κ m
def ct_words_parts_9(κ:Nat):Key→Option (Cut T):=addCut noCut (.cnd 6 6) (cc_words_parts_9 κ)
def p_words_parts_1:=mkP (T:=T) [⟨[(0,.i .i64),(5,.i .i64),(6,.b)],[],[]⟩] [⟨.normal,⟨[(0,.i .i64),(5,.i .i64),(6,.b)],[],[]⟩⟩]
theorem p_words_parts_1_ok:PieceOk p_words_parts_1:=mkP_ok _ _
theorem p_words_parts_1_ct(κ:Nat)(m:Int):CutOk Tryz.prog C (G m) Tryz.f32.ntmps 0 (pieceOf (.cnd 6 5) (getBody Tryz.f32)) (p_words_parts_1.cut (gcN 0 [0,5,6]) (cur _ (words_parts.v1 κ))):=
 Piece.join p_words_parts_1_ok C_ok mixed (gam19_ok κ m) gcN_ok xx14_ok (cut:=(ct_words_parts_9 κ)) (X:=xx14) (cuts_by (l:=[(pieceOf (.cnd 6 6) (getBody Tryz.f32),cc_words_parts_9 κ)]) (by kernel_rfl) (all_cons (cc_words_parts_9_ok κ m) (all_nil))) (fun s=>by kernel_rfl)
def cc_words_parts_10(κ:Nat):Cut T:=p_words_parts_1.cut (gcN 0 [0,5,6]) (cur _ (words_parts.v1 κ))
theorem cc_words_parts_10_ok(κ:Nat)(m:Int):CutOk Tryz.prog C (G m) Tryz.f32.ntmps 0 (pieceOf (.cnd 6 5) (getBody Tryz.f32)) (cc_words_parts_10 κ):=p_words_parts_1_ct κ m
def ct_words_parts_10(κ:Nat):Key→Option (Cut T):=addCut noCut (.cnd 6 5) (cc_words_parts_10 κ)
def p_words_parts_0:=mkP (T:=T) [⟨[(0,.i .i64),(5,.i .i64),(6,.b)],[],[]⟩] [⟨.normal,⟨[(0,.i .i64),(5,.i .i64),(6,.b)],[],[]⟩⟩]
theorem p_words_parts_0_ok:PieceOk p_words_parts_0:=mkP_ok _ _
theorem p_words_parts_0_ct(κ:Nat)(m:Int):CutOk Tryz.prog C (G m) Tryz.f32.ntmps 0 (pieceOf (.cnd 6 4) (getBody Tryz.f32)) (p_words_parts_0.cut (gcN 0 [0,5,6]) (cur _ (words_parts.v0 κ))):=
 Piece.join p_words_parts_0_ok C_ok mixed (gam19_ok κ m) gcN_ok xx14_ok (cut:=(ct_words_parts_10 κ)) (X:=xx14) (cuts_by (l:=[(pieceOf (.cnd 6 5) (getBody Tryz.f32),cc_words_parts_10 κ)]) (by kernel_rfl) (all_cons (cc_words_parts_10_ok κ m) (all_nil))) (fun s=>by kernel_rfl)
def cc_words_parts_11(κ:Nat):Cut T:=p_words_parts_0.cut (gcN 0 [0,5,6]) (cur _ (words_parts.v0 κ))
theorem cc_words_parts_11_ok(κ:Nat)(m:Int):CutOk Tryz.prog C (G m) Tryz.f32.ntmps 0 (pieceOf (.cnd 6 4) (getBody Tryz.f32)) (cc_words_parts_11 κ):=p_words_parts_0_ct κ m
def ct_words_parts_11(κ:Nat):Key→Option (Cut T):=addCut noCut (.cnd 6 4) (cc_words_parts_11 κ)
def sp_words_parts:=mkS (T:=T) [.i .i64] [] [⟨false,.cap0,[]⟩,⟨false,.slc 0 0 2 2,[.cells 20 none kk1]⟩,⟨false,.slc 0 0 2 2,[.cells 20 none kk3]⟩,⟨false,.slc 0 0 4 4,[.cells 20 none kk22]⟩,⟨false,.slc 0 0 4 4,[.cells 20 none kk12]⟩,⟨false,.slc 0 0 4 4,[.cells 20 none kk13]⟩,⟨false,.slc 0 0 5 5,[.cells 20 none kk27]⟩,⟨false,.slc 0 0 3 3,[.cells 20 none kk10]⟩,⟨false,.slc 0 0 3 3,[.cells 20 none kk8]⟩,⟨false,.slc 0 0 3 3,[.cells 20 none kk9]⟩,⟨false,.slc 0 0 4 4,[.cells 20 none kk14]⟩,⟨false,.slc 0 0 2 2,[.cells 20 none kk2]⟩]
theorem sp_words_parts_ok:SpecOk sp_words_parts:=mkS_ok _ _ _
theorem ok_words_parts(κ:Nat)(m:Int):EOk Tryz.prog C (G m) 32 (sp_words_parts.entry (fun a0=>words_parts κ a0)):=
 Spec.ok sp_words_parts_ok C_ok mixed (gam19_ok κ m) (cut:=(ct_words_parts_11 κ)) (NR:=(gcN 0 [0])) (NP:=(gcN 0 [0])) (nB:=0) Tryz.func32 (c:=(getBody Tryz.f32)) (by kernel_rfl) (by kernel_rfl) (fun i=>by kernel_rfl) gcN_ok gcN_ok (cuts_by (l:=[(pieceOf (.cnd 6 4) (getBody Tryz.f32),cc_words_parts_11 κ)]) (by kernel_rfl) (all_cons (cc_words_parts_11_ok κ m) (all_nil))) (fun i=>by kernel_rfl)
noncomputable def gam20(κ:Nat):Gam T:=(gam19 κ).addS 32 sp_words_parts (fun a0=>words_parts κ a0)
theorem gam20_ok(κ:Nat)(m:Int):GOk Tryz.prog C (G m) (gam20 κ):=(gam19_ok κ m).addS (ok_words_parts κ m)
def sp_words_show:=mkS (T:=T) [.ptr 0 0,.ifc 74 (.s)] kk26 [⟨false,.tup [.s,.b],kk26⟩]
theorem sp_words_show_ok:SpecOk sp_words_show:=mkS_ok _ _ _
theorem ok_words_show(κ:Nat)(m:Int):EOk Tryz.prog C (G m) 33 (sp_words_show.entry (cur _ (words_show κ))):=
 Spec.ok sp_words_show_ok C_ok mixed (gam20_ok κ m) (cut:=noCut) (NR:=(gcN 1 [0])) (NP:=(gcN 1 [0])) (nB:=1) Tryz.func33 (c:=(getBody Tryz.f33)) (by kernel_rfl) (by kernel_rfl) (fun i=>by kernel_rfl) gcN_ok gcN_ok (cuts_by (l:=[]) (by kernel_rfl) (all_nil)) (fun i=>by kernel_rfl)
noncomputable def gam21(κ:Nat):Gam T:=(gam20 κ).addS 33 sp_words_show (cur _ (words_show κ))
theorem gam21_ok(κ:Nat)(m:Int):GOk Tryz.prog C (G m) (gam21 κ):=(gam20_ok κ m).addS (ok_words_show κ m)
def sp_words_show_2:=mkS (T:=T) [.ptr 0 0,.ifc 78 (.agg [])] kk26 [⟨false,.tup [.s,.b],kk26⟩]
theorem sp_words_show_2_ok:SpecOk sp_words_show_2:=mkS_ok _ _ _
theorem ok_words_show_2(κ:Nat)(m:Int):EOk Tryz.prog C (G m) 33 (sp_words_show_2.entry (cur _ (words_show_2 κ))):=
 Spec.ok sp_words_show_2_ok C_ok mixed (gam21_ok κ m) (cut:=noCut) (NR:=(gcN 1 [0])) (NP:=(gcN 1 [0])) (nB:=1) Tryz.func33 (c:=(getBody Tryz.f33)) (by kernel_rfl) (by kernel_rfl) (fun i=>by kernel_rfl) gcN_ok gcN_ok (cuts_by (l:=[]) (by kernel_rfl) (all_nil)) (fun i=>by kernel_rfl)
noncomputable def gam22(κ:Nat):Gam T:=(gam21 κ).addS 33 sp_words_show_2 (cur _ (words_show_2 κ))
theorem gam22_ok(κ:Nat)(m:Int):GOk Tryz.prog C (G m) (gam22 κ):=(gam21_ok κ m).addS (ok_words_show_2 κ m)
def sp_words_show_3:=mkS (T:=T) [.ptr 0 0,.ifc 89 (.agg [])] kk26 [⟨false,.tup [.s,.b],kk26⟩]
theorem sp_words_show_3_ok:SpecOk sp_words_show_3:=mkS_ok _ _ _
theorem ok_words_show_3(κ:Nat)(m:Int):EOk Tryz.prog C (G m) 33 (sp_words_show_3.entry (cur _ (words_show_3 κ))):=
 Spec.ok sp_words_show_3_ok C_ok mixed (gam22_ok κ m) (cut:=noCut) (NR:=(gcN 1 [0])) (NP:=(gcN 1 [0])) (nB:=1) Tryz.func33 (c:=(getBody Tryz.f33)) (by kernel_rfl) (by kernel_rfl) (fun i=>by kernel_rfl) gcN_ok gcN_ok (cuts_by (l:=[]) (by kernel_rfl) (all_nil)) (fun i=>by kernel_rfl)
noncomputable def gam23(κ:Nat):Gam T:=(gam22 κ).addS 33 sp_words_show_3 (cur _ (words_show_3 κ))
theorem gam23_ok(κ:Nat)(m:Int):GOk Tryz.prog C (G m) (gam23 κ):=(gam22_ok κ m).addS (ok_words_show_3 κ m)
def sp_words_n:=mkS (T:=T) [.ptr 0 0] kk26 [⟨false,.ptr 0 4,kk26⟩]
theorem sp_words_n_ok:SpecOk sp_words_n:=mkS_ok _ _ _
theorem ok_words_n(κ:Nat)(m:Int):EOk Tryz.prog C (G m) 40 (sp_words_n.entry (cur _ (words_n κ))):=
 Spec.ok sp_words_n_ok C_ok mixed (gam23_ok κ m) (cut:=noCut) (NR:=(gcN 1 [0])) (NP:=(gcN 1 [0])) (nB:=1) Tryz.func40 (c:=(getBody Tryz.f40)) (by kernel_rfl) (by kernel_rfl) (fun i=>by kernel_rfl) gcN_ok gcN_ok (cuts_by (l:=[]) (by kernel_rfl) (all_nil)) (fun i=>by kernel_rfl)
noncomputable def gam24(κ:Nat):Gam T:=(gam23 κ).addS 40 sp_words_n (cur _ (words_n κ))
theorem gam24_ok(κ:Nat)(m:Int):GOk Tryz.prog C (G m) (gam24 κ):=(gam23_ok κ m).addS (ok_words_n κ m)
def sp_words_show_4:=mkS (T:=T) [.ptr 0 0,.ifc 82 (.fn 40 [] [])] kk26 [⟨false,.tup [.s,.b],kk26⟩]
theorem sp_words_show_4_ok:SpecOk sp_words_show_4:=mkS_ok _ _ _
theorem ok_words_show_4(κ:Nat)(m:Int):EOk Tryz.prog C (G m) 33 (sp_words_show_4.entry (cur _ (words_show_4 κ))):=
 Spec.ok sp_words_show_4_ok C_ok mixed (gam24_ok κ m) (cut:=noCut) (NR:=(gcN 1 [0])) (NP:=(gcN 1 [0])) (nB:=1) Tryz.func33 (c:=(getBody Tryz.f33)) (by kernel_rfl) (by kernel_rfl) (fun i=>by kernel_rfl) gcN_ok gcN_ok (cuts_by (l:=[]) (by kernel_rfl) (all_nil)) (fun i=>by kernel_rfl)
noncomputable def gam25(κ:Nat):Gam T:=(gam24 κ).addS 33 sp_words_show_4 (cur _ (words_show_4 κ))
theorem gam25_ok(κ:Nat)(m:Int):GOk Tryz.prog C (G m) (gam25 κ):=(gam24_ok κ m).addS (ok_words_show_4 κ m)
def sp_words_flow:=mkS (T:=T) [.ptr 0 0] kk26 [⟨false,.ptr 0 8,kk26⟩]
theorem sp_words_flow_ok:SpecOk sp_words_flow:=mkS_ok _ _ _
theorem ok_words_flow(κ:Nat)(m:Int):EOk Tryz.prog C (G m) 43 (sp_words_flow.entry (cur _ (words_flow κ))):=
 Spec.ok sp_words_flow_ok C_ok mixed (gam25_ok κ m) (cut:=noCut) (NR:=(gcN 1 [0])) (NP:=(gcN 1 [0])) (nB:=1) Tryz.func43 (c:=(getBody Tryz.f43)) (by kernel_rfl) (by kernel_rfl) (fun i=>by kernel_rfl) gcN_ok gcN_ok (cuts_by (l:=[]) (by kernel_rfl) (all_nil)) (fun i=>by kernel_rfl)
noncomputable def gam26(κ:Nat):Gam T:=(gam25 κ).addS 43 sp_words_flow (cur _ (words_flow κ))
theorem gam26_ok(κ:Nat)(m:Int):GOk Tryz.prog C (G m) (gam26 κ):=(gam25_ok κ m).addS (ok_words_flow κ m)
def sp_words_show_5:=mkS (T:=T) [.ptr 0 0,.ifc 82 (.fn 43 [] [])] kk26 [⟨false,.tup [.s,.b],kk26⟩]
theorem sp_words_show_5_ok:SpecOk sp_words_show_5:=mkS_ok _ _ _
theorem ok_words_show_5(κ:Nat)(m:Int):EOk Tryz.prog C (G m) 33 (sp_words_show_5.entry (cur _ (words_show_5 κ))):=
 Spec.ok sp_words_show_5_ok C_ok mixed (gam26_ok κ m) (cut:=noCut) (NR:=(gcN 1 [0])) (NP:=(gcN 1 [0])) (nB:=1) Tryz.func33 (c:=(getBody Tryz.f33)) (by kernel_rfl) (by kernel_rfl) (fun i=>by kernel_rfl) gcN_ok gcN_ok (cuts_by (l:=[]) (by kernel_rfl) (all_nil)) (fun i=>by kernel_rfl)
noncomputable def gam27(κ:Nat):Gam T:=(gam26 κ).addS 33 sp_words_show_5 (cur _ (words_show_5 κ))
theorem gam27_ok(κ:Nat)(m:Int):GOk Tryz.prog C (G m) (gam27 κ):=(gam26_ok κ m).addS (ok_words_show_5 κ m)
def sp_words_parts_1:=mkS (T:=T) [.ptr 0 0] kk26 [⟨false,.ptr 0 5,kk26⟩]
theorem sp_words_parts_1_ok:SpecOk sp_words_parts_1:=mkS_ok _ _ _
theorem ok_words_parts_1(κ:Nat)(m:Int):EOk Tryz.prog C (G m) 41 (sp_words_parts_1.entry (cur _ (words_parts_1 κ))):=
 Spec.ok sp_words_parts_1_ok C_ok mixed (gam27_ok κ m) (cut:=noCut) (NR:=(gcN 1 [0])) (NP:=(gcN 1 [0])) (nB:=1) Tryz.func41 (c:=(getBody Tryz.f41)) (by kernel_rfl) (by kernel_rfl) (fun i=>by kernel_rfl) gcN_ok gcN_ok (cuts_by (l:=[]) (by kernel_rfl) (all_nil)) (fun i=>by kernel_rfl)
noncomputable def gam28(κ:Nat):Gam T:=(gam27 κ).addS 41 sp_words_parts_1 (cur _ (words_parts_1 κ))
theorem gam28_ok(κ:Nat)(m:Int):GOk Tryz.prog C (G m) (gam28 κ):=(gam27_ok κ m).addS (ok_words_parts_1 κ m)
def sp_words_show_6:=mkS (T:=T) [.ptr 0 0,.ifc 86 (.agg [.s,.s,.fn 41 [] []])] kk26 [⟨false,.tup [.s,.b],kk26⟩]
theorem sp_words_show_6_ok:SpecOk sp_words_show_6:=mkS_ok _ _ _
theorem ok_words_show_6(κ:Nat)(m:Int):EOk Tryz.prog C (G m) 33 (sp_words_show_6.entry (cur _ (words_show_6 κ))):=
 Spec.ok sp_words_show_6_ok C_ok mixed (gam28_ok κ m) (cut:=noCut) (NR:=(gcN 1 [0])) (NP:=(gcN 1 [0])) (nB:=1) Tryz.func33 (c:=(getBody Tryz.f33)) (by kernel_rfl) (by kernel_rfl) (fun i=>by kernel_rfl) gcN_ok gcN_ok (cuts_by (l:=[]) (by kernel_rfl) (all_nil)) (fun i=>by kernel_rfl)
noncomputable def gam29(κ:Nat):Gam T:=(gam28 κ).addS 33 sp_words_show_6 (cur _ (words_show_6 κ))
theorem gam29_ok(κ:Nat)(m:Int):GOk Tryz.prog C (G m) (gam29 κ):=(gam28_ok κ m).addS (ok_words_show_6 κ m)
def sp_words_show_7:=mkS (T:=T) [.ptr 0 0,.ifc 68 (.agg [])] kk26 [⟨false,.tup [.s,.b],kk26⟩]
theorem sp_words_show_7_ok:SpecOk sp_words_show_7:=mkS_ok _ _ _
theorem ok_words_show_7(κ:Nat)(m:Int):EOk Tryz.prog C (G m) 33 (sp_words_show_7.entry (cur _ (words_show_7 κ))):=
 Spec.ok sp_words_show_7_ok C_ok mixed (gam29_ok κ m) (cut:=noCut) (NR:=(gcN 1 [0])) (NP:=(gcN 1 [0])) (nB:=1) Tryz.func33 (c:=(getBody Tryz.f33)) (by kernel_rfl) (by kernel_rfl) (fun i=>by kernel_rfl) gcN_ok gcN_ok (cuts_by (l:=[]) (by kernel_rfl) (all_nil)) (fun i=>by kernel_rfl)
noncomputable def gam30(κ:Nat):Gam T:=(gam29 κ).addS 33 sp_words_show_7 (cur _ (words_show_7 κ))
theorem gam30_ok(κ:Nat)(m:Int):GOk Tryz.prog C (G m) (gam30 κ):=(gam29_ok κ m).addS (ok_words_show_7 κ m)
def sp_words_show_8:=mkS (T:=T) [.ptr 0 0,.ifc 79 (.agg [])] kk26 [⟨false,.tup [.s,.b],kk26⟩]
theorem sp_words_show_8_ok:SpecOk sp_words_show_8:=mkS_ok _ _ _
theorem ok_words_show_8(κ:Nat)(m:Int):EOk Tryz.prog C (G m) 33 (sp_words_show_8.entry (cur _ (words_show_8 κ))):=
 Spec.ok sp_words_show_8_ok C_ok mixed (gam30_ok κ m) (cut:=noCut) (NR:=(gcN 1 [0])) (NP:=(gcN 1 [0])) (nB:=1) Tryz.func33 (c:=(getBody Tryz.f33)) (by kernel_rfl) (by kernel_rfl) (fun i=>by kernel_rfl) gcN_ok gcN_ok (cuts_by (l:=[]) (by kernel_rfl) (all_nil)) (fun i=>by kernel_rfl)
noncomputable def gam31(κ:Nat):Gam T:=(gam30 κ).addS 33 sp_words_show_8 (cur _ (words_show_8 κ))
theorem gam31_ok(κ:Nat)(m:Int):GOk Tryz.prog C (G m) (gam31 κ):=(gam30_ok κ m).addS (ok_words_show_8 κ m)
def sp_words_size:=mkS (T:=T) [.ptr 0 0] kk26 [⟨false,.ptr 0 9,kk26⟩]
theorem sp_words_size_ok:SpecOk sp_words_size:=mkS_ok _ _ _
theorem ok_words_size(κ:Nat)(m:Int):EOk Tryz.prog C (G m) 44 (sp_words_size.entry (cur _ (words_size κ))):=
 Spec.ok sp_words_size_ok C_ok mixed (gam31_ok κ m) (cut:=noCut) (NR:=(gcN 1 [0])) (NP:=(gcN 1 [0])) (nB:=1) Tryz.func44 (c:=(getBody Tryz.f44)) (by kernel_rfl) (by kernel_rfl) (fun i=>by kernel_rfl) gcN_ok gcN_ok (cuts_by (l:=[]) (by kernel_rfl) (all_nil)) (fun i=>by kernel_rfl)
noncomputable def gam32(κ:Nat):Gam T:=(gam31 κ).addS 44 sp_words_size (cur _ (words_size κ))
theorem gam32_ok(κ:Nat)(m:Int):GOk Tryz.prog C (G m) (gam32 κ):=(gam31_ok κ m).addS (ok_words_size κ m)
def sp_words_show_9:=mkS (T:=T) [.ptr 0 0,.ifc 82 (.fn 44 [] [])] kk26 [⟨false,.tup [.s,.b],kk26⟩]
theorem sp_words_show_9_ok:SpecOk sp_words_show_9:=mkS_ok _ _ _
theorem ok_words_show_9(κ:Nat)(m:Int):EOk Tryz.prog C (G m) 33 (sp_words_show_9.entry (cur _ (words_show_9 κ))):=
 Spec.ok sp_words_show_9_ok C_ok mixed (gam32_ok κ m) (cut:=noCut) (NR:=(gcN 1 [0])) (NP:=(gcN 1 [0])) (nB:=1) Tryz.func33 (c:=(getBody Tryz.f33)) (by kernel_rfl) (by kernel_rfl) (fun i=>by kernel_rfl) gcN_ok gcN_ok (cuts_by (l:=[]) (by kernel_rfl) (all_nil)) (fun i=>by kernel_rfl)
noncomputable def gam33(κ:Nat):Gam T:=(gam32 κ).addS 33 sp_words_show_9 (cur _ (words_show_9 κ))
theorem gam33_ok(κ:Nat)(m:Int):GOk Tryz.prog C (G m) (gam33 κ):=(gam32_ok κ m).addS (ok_words_show_9 κ m)
def sp_strings_Builder_WriteByte:=mkS (T:=T) [.ptr 0 0,.i .u8] [.cells 94 none [.pn,.cap0]] [⟨false,.if0,kk6⟩]
theorem sp_strings_Builder_WriteByte_ok:SpecOk sp_strings_Builder_WriteByte:=mkS_ok _ _ _
theorem ok_strings_Builder_WriteByte(κ:Nat)(m:Int):EOk Tryz.prog C (G m) 61 (sp_strings_Builder_WriteByte.entry (fun a0=>strings_Builder_WriteByte κ a0)):=
 Spec.ok sp_strings_Builder_WriteByte_ok C_ok mixed (gam33_ok κ m) (cut:=noCut) (NR:=(gcN 1 [0])) (NP:=(gcN 1 [0])) (nB:=1) Tryz.func61 (c:=(getBody Tryz.f61)) (by kernel_rfl) (by kernel_rfl) (fun i=>by kernel_rfl) gcN_ok gcN_ok (cuts_by (l:=[]) (by kernel_rfl) (all_nil)) (fun i=>by kernel_rfl)
noncomputable def gam34(κ:Nat):Gam T:=(gam33 κ).addS 61 sp_strings_Builder_WriteByte (fun a0=>strings_Builder_WriteByte κ a0)
theorem gam34_ok(κ:Nat)(m:Int):GOk Tryz.prog C (G m) (gam34 κ):=(gam33_ok κ m).addS (ok_strings_Builder_WriteByte κ m)
def sp_strings_Builder_WriteByte_2:=mkS (T:=T) [.ptr 0 0,.i .u8] kk6 [⟨false,.if0,kk6⟩]
theorem sp_strings_Builder_WriteByte_2_ok:SpecOk sp_strings_Builder_WriteByte_2:=mkS_ok _ _ _
theorem ok_strings_Builder_WriteByte_2(κ:Nat)(m:Int):EOk Tryz.prog C (G m) 61 (sp_strings_Builder_WriteByte_2.entry (cur _ (strings_Builder_WriteByte_2 κ))):=
 Spec.ok sp_strings_Builder_WriteByte_2_ok C_ok mixed (gam34_ok κ m) (cut:=noCut) (NR:=(gcN 2 [0])) (NP:=(gcN 2 [0])) (nB:=2) Tryz.func61 (c:=(getBody Tryz.f61)) (by kernel_rfl) (by kernel_rfl) (fun i=>by kernel_rfl) gcN_ok gcN_ok (cuts_by (l:=[]) (by kernel_rfl) (all_nil)) (fun i=>by kernel_rfl)
noncomputable def gam35(κ:Nat):Gam T:=(gam34 κ).addS 61 sp_strings_Builder_WriteByte_2 (cur _ (strings_Builder_WriteByte_2 κ))
theorem gam35_ok(κ:Nat)(m:Int):GOk Tryz.prog C (G m) (gam35 κ):=(gam34_ok κ m).addS (ok_strings_Builder_WriteByte_2 κ m)
def sp_strings_Builder_WriteByte_3:=mkS (T:=T) [.ptr 0 0,.i .u8] kk5 [⟨false,.if0,kk6⟩]
theorem sp_strings_Builder_WriteByte_3_ok:SpecOk sp_strings_Builder_WriteByte_3:=mkS_ok _ _ _
theorem ok_strings_Builder_WriteByte_3(κ:Nat)(m:Int):EOk Tryz.prog C (G m) 61 (sp_strings_Builder_WriteByte_3.entry (cur _ (strings_Builder_WriteByte_3 κ))):=
 Spec.ok sp_strings_Builder_WriteByte_3_ok C_ok mixed (gam35_ok κ m) (cut:=noCut) (NR:=(gcN 2 [0])) (NP:=(gcN 2 [0])) (nB:=2) Tryz.func61 (c:=(getBody Tryz.f61)) (by kernel_rfl) (by kernel_rfl) (fun i=>by kernel_rfl) gcN_ok gcN_ok (cuts_by (l:=[]) (by kernel_rfl) (all_nil)) (fun i=>by kernel_rfl)
noncomputable def gam36(κ:Nat):Gam T:=(gam35 κ).addS 61 sp_strings_Builder_WriteByte_3 (cur _ (strings_Builder_WriteByte_3 κ))
theorem gam36_ok(κ:Nat)(m:Int):GOk Tryz.prog C (G m) (gam36 κ):=(gam35_ok κ m).addS (ok_strings_Builder_WriteByte_3 κ m)
def p_words_hex_0:=mkP (T:=T) [⟨[(3,.ptr 0 0),(6,.sl 5),(7,.i .i64),(8,.i .i64)],kk5,[]⟩,⟨[(3,.ptr 0 0),(6,.sl 5),(7,.i .i64),(8,.i .i64)],kk6,[]⟩] [⟨.normal,⟨[(3,.ptr 0 0)],kk5,[]⟩⟩,⟨.normal,⟨[(3,.ptr 0 0)],kk6,[]⟩⟩]
theorem p_words_hex_0_ok:PieceOk p_words_hex_0:=mkP_ok _ _
theorem p_words_hex_0_ct(κ:Nat)(m:Int):CutOk Tryz.prog C (G m) Tryz.f49.ntmps 0 (pieceOf (.blk 0) (getBody Tryz.f49)) (p_words_hex_0.cut nn1 (words_hex.l0 κ κ)):=
 Piece.loop p_words_hex_0_ok C_ok mixed (gam36_ok κ m) nn1_ok xx6_ok (cut:=noCut) (X:=xx6) (id:=0) (body:=bodyOf (pieceOf (.blk 0) (getBody Tryz.f49))) (cuts_by (l:=[]) (by kernel_rfl) (all_nil)) (f:=words_hex.l0 κ) (fun s=>by rcases s with s|s<;>kernel_rfl) (fun k s=>by rcases s with s|s<;>kernel_rfl) κ
def cc_words_hex_1(κ:Nat):Cut T:=p_words_hex_0.cut nn1 (words_hex.l0 κ κ)
theorem cc_words_hex_1_ok(κ:Nat)(m:Int):CutOk Tryz.prog C (G m) Tryz.f49.ntmps 0 (pieceOf (.blk 0) (getBody Tryz.f49)) (cc_words_hex_1 κ):=p_words_hex_0_ct κ m
def ct_words_hex_1(κ:Nat):Key→Option (Cut T):=addCut noCut (.blk 0) (cc_words_hex_1 κ)
def sp_words_hex:=mkS (T:=T) [.sl 5] [] [⟨false,.s,[]⟩]
theorem sp_words_hex_ok:SpecOk sp_words_hex:=mkS_ok _ _ _
theorem ok_words_hex(κ:Nat)(m:Int):EOk Tryz.prog C (G m) 49 (sp_words_hex.entry (fun a0=>words_hex κ a0)):=
 Spec.ok sp_words_hex_ok C_ok mixed (gam36_ok κ m) (cut:=(ct_words_hex_1 κ)) (NR:=(gcN 0 [0])) (NP:=(gcN 0 [0])) (nB:=0) Tryz.func49 (c:=(getBody Tryz.f49)) (by kernel_rfl) (by kernel_rfl) (fun i=>by kernel_rfl) gcN_ok gcN_ok (cuts_by (l:=[(pieceOf (.blk 0) (getBody Tryz.f49),cc_words_hex_1 κ)]) (by kernel_rfl) (all_cons (cc_words_hex_1_ok κ m) (all_nil))) (fun i=>by kernel_rfl)
noncomputable def gam37(κ:Nat):Gam T:=(gam36 κ).addS 49 sp_words_hex (fun a0=>words_hex κ a0)
theorem gam37_ok(κ:Nat)(m:Int):GOk Tryz.prog C (G m) (gam37 κ):=(gam36_ok κ m).addS (ok_words_hex κ m)
def sp_words_show_10:=mkS (T:=T) [.ptr 0 0,.ifc 88 (.agg [])] kk26 [⟨false,.tup [.s,.b],kk26⟩]
theorem sp_words_show_10_ok:SpecOk sp_words_show_10:=mkS_ok _ _ _
theorem ok_words_show_10(κ:Nat)(m:Int):EOk Tryz.prog C (G m) 33 (sp_words_show_10.entry (cur _ (words_show_10 κ))):=
 Spec.ok sp_words_show_10_ok C_ok mixed (gam37_ok κ m) (cut:=noCut) (NR:=(gcN 1 [0])) (NP:=(gcN 1 [0])) (nB:=1) Tryz.func33 (c:=(getBody Tryz.f33)) (by kernel_rfl) (by kernel_rfl) (fun i=>by kernel_rfl) gcN_ok gcN_ok (cuts_by (l:=[]) (by kernel_rfl) (all_nil)) (fun i=>by kernel_rfl)
noncomputable def gam38(κ:Nat):Gam T:=(gam37 κ).addS 33 sp_words_show_10 (cur _ (words_show_10 κ))
theorem gam38_ok(κ:Nat)(m:Int):GOk Tryz.prog C (G m) (gam38 κ):=(gam37_ok κ m).addS (ok_words_show_10 κ m)
def sp_words_show_11:=mkS (T:=T) [.ptr 0 0,.ifc 87 (.agg [])] kk26 [⟨false,.tup [.s,.b],kk26⟩]
theorem sp_words_show_11_ok:SpecOk sp_words_show_11:=mkS_ok _ _ _
theorem ok_words_show_11(κ:Nat)(m:Int):EOk Tryz.prog C (G m) 33 (sp_words_show_11.entry (cur _ (words_show_11 κ))):=
 Spec.ok sp_words_show_11_ok C_ok mixed (gam38_ok κ m) (cut:=noCut) (NR:=(gcN 1 [0])) (NP:=(gcN 1 [0])) (nB:=1) Tryz.func33 (c:=(getBody Tryz.f33)) (by kernel_rfl) (by kernel_rfl) (fun i=>by kernel_rfl) gcN_ok gcN_ok (cuts_by (l:=[]) (by kernel_rfl) (all_nil)) (fun i=>by kernel_rfl)
noncomputable def gam39(κ:Nat):Gam T:=(gam38 κ).addS 33 sp_words_show_11 (cur _ (words_show_11 κ))
theorem gam39_ok(κ:Nat)(m:Int):GOk Tryz.prog C (G m) (gam39 κ):=(gam38_ok κ m).addS (ok_words_show_11 κ m)
def sp_words_parts_2:=mkS (T:=T) [.ptr 0 0] kk26 [⟨false,.ptr 0 6,kk26⟩]
theorem sp_words_parts_2_ok:SpecOk sp_words_parts_2:=mkS_ok _ _ _
theorem ok_words_parts_2(κ:Nat)(m:Int):EOk Tryz.prog C (G m) 42 (sp_words_parts_2.entry (cur _ (words_parts_2 κ))):=
 Spec.ok sp_words_parts_2_ok C_ok mixed (gam39_ok κ m) (cut:=noCut) (NR:=(gcN 1 [0])) (NP:=(gcN 1 [0])) (nB:=1) Tryz.func42 (c:=(getBody Tryz.f42)) (by kernel_rfl) (by kernel_rfl) (fun i=>by kernel_rfl) gcN_ok gcN_ok (cuts_by (l:=[]) (by kernel_rfl) (all_nil)) (fun i=>by kernel_rfl)
noncomputable def gam40(κ:Nat):Gam T:=(gam39 κ).addS 42 sp_words_parts_2 (cur _ (words_parts_2 κ))
theorem gam40_ok(κ:Nat)(m:Int):GOk Tryz.prog C (G m) (gam40 κ):=(gam39_ok κ m).addS (ok_words_parts_2 κ m)
def sp_words_show_12:=mkS (T:=T) [.ptr 0 0,.ifc 86 (.agg [.s,.s,.fn 42 [] []])] kk26 [⟨false,.tup [.s,.b],kk26⟩]
theorem sp_words_show_12_ok:SpecOk sp_words_show_12:=mkS_ok _ _ _
theorem ok_words_show_12(κ:Nat)(m:Int):EOk Tryz.prog C (G m) 33 (sp_words_show_12.entry (cur _ (words_show_12 κ))):=
 Spec.ok sp_words_show_12_ok C_ok mixed (gam40_ok κ m) (cut:=noCut) (NR:=(gcN 1 [0])) (NP:=(gcN 1 [0])) (nB:=1) Tryz.func33 (c:=(getBody Tryz.f33)) (by kernel_rfl) (by kernel_rfl) (fun i=>by kernel_rfl) gcN_ok gcN_ok (cuts_by (l:=[]) (by kernel_rfl) (all_nil)) (fun i=>by kernel_rfl)
noncomputable def gam41(κ:Nat):Gam T:=(gam40 κ).addS 33 sp_words_show_12 (cur _ (words_show_12 κ))
theorem gam41_ok(κ:Nat)(m:Int):GOk Tryz.prog C (G m) (gam41 κ):=(gam40_ok κ m).addS (ok_words_show_12 κ m)
def p_lex_Plain_0:=mkP (T:=T) [⟨[(0,.s)],[],[]⟩] [⟨.normal,⟨[(2,.b)],[],[]⟩⟩]
theorem p_lex_Plain_0_ok:PieceOk p_lex_Plain_0:=mkP_ok _ _
theorem p_lex_Plain_0_ct(κ:Nat)(m:Int):CutOk Tryz.prog C (G m) Tryz.f47.ntmps 0 (pieceOf (.reg 1) (getBody Tryz.f47)) (p_lex_Plain_0.cut (gcN 0 [0]) (fun a0=>lex_Plain.v0 κ a0)):=
 Piece.join p_lex_Plain_0_ok C_ok mixed (gam41_ok κ m) gcN_ok xx0_ok (cut:=noCut) (X:=xx0) (cuts_by (l:=[]) (by kernel_rfl) (all_nil)) (fun s=>by kernel_rfl)
def cc_lex_Plain_1(κ:Nat):Cut T:=p_lex_Plain_0.cut (gcN 0 [0]) (fun a0=>lex_Plain.v0 κ a0)
theorem cc_lex_Plain_1_ok(κ:Nat)(m:Int):CutOk Tryz.prog C (G m) Tryz.f47.ntmps 0 (pieceOf (.reg 1) (getBody Tryz.f47)) (cc_lex_Plain_1 κ):=p_lex_Plain_0_ct κ m
def ct_lex_Plain_1(κ:Nat):Key→Option (Cut T):=addCut noCut (.reg 1) (cc_lex_Plain_1 κ)
def sp_lex_Plain:=mkS (T:=T) [.s] [] [⟨false,.b,[]⟩]
theorem sp_lex_Plain_ok:SpecOk sp_lex_Plain:=mkS_ok _ _ _
theorem ok_lex_Plain(κ:Nat)(m:Int):EOk Tryz.prog C (G m) 47 (sp_lex_Plain.entry (fun a0=>lex_Plain κ a0)):=
 Spec.ok sp_lex_Plain_ok C_ok mixed (gam41_ok κ m) (cut:=(ct_lex_Plain_1 κ)) (NR:=(gcN 0 [0])) (NP:=(gcN 0 [0])) (nB:=0) Tryz.func47 (c:=(getBody Tryz.f47)) (by kernel_rfl) (by kernel_rfl) (fun i=>by kernel_rfl) gcN_ok gcN_ok (cuts_by (l:=[(pieceOf (.reg 1) (getBody Tryz.f47),cc_lex_Plain_1 κ)]) (by kernel_rfl) (all_cons (cc_lex_Plain_1_ok κ m) (all_nil))) (fun i=>by kernel_rfl)
noncomputable def gam42(κ:Nat):Gam T:=(gam41 κ).addS 47 sp_lex_Plain (fun a0=>lex_Plain κ a0)
theorem gam42_ok(κ:Nat)(m:Int):GOk Tryz.prog C (G m) (gam42 κ):=(gam41_ok κ m).addS (ok_lex_Plain κ m)
def sp_words_show_13:=mkS (T:=T) [.ptr 0 0,.ifc 80 (.agg [])] kk26 [⟨false,.tup [.s,.b],kk26⟩]
theorem sp_words_show_13_ok:SpecOk sp_words_show_13:=mkS_ok _ _ _
theorem ok_words_show_13(κ:Nat)(m:Int):EOk Tryz.prog C (G m) 33 (sp_words_show_13.entry (cur _ (words_show_13 κ))):=
 Spec.ok sp_words_show_13_ok C_ok mixed (gam42_ok κ m) (cut:=noCut) (NR:=(gcN 1 [0])) (NP:=(gcN 1 [0])) (nB:=1) Tryz.func33 (c:=(getBody Tryz.f33)) (by kernel_rfl) (by kernel_rfl) (fun i=>by kernel_rfl) gcN_ok gcN_ok (cuts_by (l:=[]) (by kernel_rfl) (all_nil)) (fun i=>by kernel_rfl)
noncomputable def gam43(κ:Nat):Gam T:=(gam42 κ).addS 33 sp_words_show_13 (cur _ (words_show_13 κ))
theorem gam43_ok(κ:Nat)(m:Int):GOk Tryz.prog C (G m) (gam43 κ):=(gam42_ok κ m).addS (ok_words_show_13 κ m)
def sp_strings_Join:=mkS (T:=T) [.cap0,.s] [] [⟨false,.s,[]⟩]
theorem sp_strings_Join_ok:SpecOk sp_strings_Join:=mkS_ok _ _ _
theorem ok_strings_Join(κ:Nat)(m:Int):EOk Tryz.prog C (G m) 34 (sp_strings_Join.entry (fun a0=>strings_Join κ a0)):=
 Spec.ok sp_strings_Join_ok C_ok mixed (gam43_ok κ m) (cut:=noCut) (NR:=(gcN 0 [0])) (NP:=(gcN 0 [0])) (nB:=0) Tryz.func34 (c:=(getBody Tryz.f34)) (by kernel_rfl) (by kernel_rfl) (fun i=>by kernel_rfl) gcN_ok gcN_ok (cuts_by (l:=[]) (by kernel_rfl) (all_nil)) (fun i=>by kernel_rfl)
noncomputable def gam44(κ:Nat):Gam T:=(gam43 κ).addS 34 sp_strings_Join (fun a0=>strings_Join κ a0)
theorem gam44_ok(κ:Nat)(m:Int):GOk Tryz.prog C (G m) (gam44 κ):=(gam43_ok κ m).addS (ok_strings_Join κ m)
def p_words_line_0:=mkP (T:=T) [⟨[(1,.ptr 0 0),(4,.cap0),(13,.cap0),(14,.lit .i64 0),(15,.lit .i64 0)],kk26,[]⟩] [⟨(.exit 0),⟨[(4,.cap0)],[],[]⟩⟩]
theorem p_words_line_0_ok:PieceOk p_words_line_0:=mkP_ok _ _
theorem p_words_line_0_ct(κ:Nat)(m:Int):CutOk Tryz.prog C (G m) Tryz.f17.ntmps 0 (bodyOf (pieceOf (.blk 0) (getBody Tryz.f17))) (p_words_line_0.cut nn2 (cur _ (words_line.v0 κ))):=
 Piece.join p_words_line_0_ok C_ok mixed (gam20_ok κ m) nn2_ok xx15_ok (cut:=noCut) (X:=xx15) (cuts_by (l:=[]) (by kernel_rfl) (all_nil)) (fun s=>by kernel_rfl)
def p_words_line_1:=mkP (T:=T) [⟨[(1,.ptr 0 0),(4,.cap0),(13,.slc 1 0 2 2),(14,.lit .i64 2),(15,.lit .i64 0)],[.cells 26 none kk20,.cells 20 none kk1],[]⟩] [⟨.normal,⟨[(1,.ptr 0 0),(4,.own 1),(13,.slc 2 0 2 2),(14,.lit .i64 2),(15,.lit .i64 1)],kk28,[]⟩⟩]
theorem p_words_line_1_ok:PieceOk p_words_line_1:=mkP_ok _ _
theorem p_words_line_1_ct(κ:Nat)(m:Int):CutOk Tryz.prog C (G m) Tryz.f17.ntmps 0 (bodyOf (pieceOf (.blk 0) (getBody Tryz.f17))) (p_words_line_1.cut nn2 (cur _ (words_line.v1 κ))):=
 Piece.join p_words_line_1_ok C_ok mixed (gam21_ok κ m) nn2_ok xx15_ok (cut:=noCut) (X:=xx15) (cuts_by (l:=[]) (by kernel_rfl) (all_nil)) (fun s=>by kernel_rfl)
def p_words_line_2:=mkP (T:=T) [⟨[(1,.ptr 0 0),(4,.cap0),(13,.slc 1 0 2 2),(14,.lit .i64 2),(15,.lit .i64 0)],[.cells 26 none kk20,.cells 20 none kk3],[]⟩] [⟨.normal,⟨[(1,.ptr 0 0),(4,.own 1),(13,.slc 2 0 2 2),(14,.lit .i64 2),(15,.lit .i64 1)],kk30,[]⟩⟩]
theorem p_words_line_2_ok:PieceOk p_words_line_2:=mkP_ok _ _
theorem p_words_line_2_ct(κ:Nat)(m:Int):CutOk Tryz.prog C (G m) Tryz.f17.ntmps 0 (bodyOf (pieceOf (.blk 0) (getBody Tryz.f17))) (p_words_line_2.cut nn2 (cur _ (words_line.v2 κ))):=
 Piece.join p_words_line_2_ok C_ok mixed (gam21_ok κ m) nn2_ok xx15_ok (cut:=noCut) (X:=xx15) (cuts_by (l:=[]) (by kernel_rfl) (all_nil)) (fun s=>by kernel_rfl)
def p_words_line_3:=mkP (T:=T) [⟨[(1,.ptr 0 0),(4,.cap0),(13,.slc 1 0 4 4),(14,.lit .i64 4),(15,.lit .i64 0)],[.cells 26 none kk20,.cells 20 none kk22],[]⟩] [⟨.normal,⟨[(1,.ptr 0 0),(4,.own 1),(13,.slc 2 0 4 4),(14,.lit .i64 4),(15,.lit .i64 1)],kk42,[]⟩⟩]
theorem p_words_line_3_ok:PieceOk p_words_line_3:=mkP_ok _ _
theorem p_words_line_3_ct(κ:Nat)(m:Int):CutOk Tryz.prog C (G m) Tryz.f17.ntmps 0 (bodyOf (pieceOf (.blk 0) (getBody Tryz.f17))) (p_words_line_3.cut nn2 (cur _ (words_line.v3 κ))):=
 Piece.join p_words_line_3_ok C_ok mixed (gam21_ok κ m) nn2_ok xx15_ok (cut:=noCut) (X:=xx15) (cuts_by (l:=[]) (by kernel_rfl) (all_nil)) (fun s=>by kernel_rfl)
def p_words_line_4:=mkP (T:=T) [⟨[(1,.ptr 0 0),(4,.cap0),(13,.slc 1 0 4 4),(14,.lit .i64 4),(15,.lit .i64 0)],[.cells 26 none kk20,.cells 20 none kk12],[]⟩] [⟨.normal,⟨[(1,.ptr 0 0),(4,.own 1),(13,.slc 2 0 4 4),(14,.lit .i64 4),(15,.lit .i64 1)],kk39,[]⟩⟩,⟨.ret,⟨[(2,.s),(3,.b)],[],[]⟩⟩]
theorem p_words_line_4_ok:PieceOk p_words_line_4:=mkP_ok _ _
theorem p_words_line_4_ct(κ:Nat)(m:Int):CutOk Tryz.prog C (G m) Tryz.f17.ntmps 0 (bodyOf (pieceOf (.blk 0) (getBody Tryz.f17))) (p_words_line_4.cut nn2 (cur _ (words_line.v4 κ))):=
 Piece.join p_words_line_4_ok C_ok mixed (gam22_ok κ m) nn2_ok xx15_ok (cut:=noCut) (X:=xx15) (cuts_by (l:=[]) (by kernel_rfl) (all_nil)) (fun s=>by kernel_rfl)
def p_words_line_5:=mkP (T:=T) [⟨[(1,.ptr 0 0),(4,.cap0),(13,.slc 1 0 4 4),(14,.lit .i64 4),(15,.lit .i64 0)],[.cells 26 none kk20,.cells 20 none kk13],[]⟩] [⟨.normal,⟨[(1,.ptr 0 0),(4,.own 1),(13,.slc 2 0 4 4),(14,.lit .i64 4),(15,.lit .i64 1)],kk40,[]⟩⟩,⟨.ret,⟨[(2,.s),(3,.b)],[],[]⟩⟩]
theorem p_words_line_5_ok:PieceOk p_words_line_5:=mkP_ok _ _
theorem p_words_line_5_ct(κ:Nat)(m:Int):CutOk Tryz.prog C (G m) Tryz.f17.ntmps 0 (bodyOf (pieceOf (.blk 0) (getBody Tryz.f17))) (p_words_line_5.cut nn2 (cur _ (words_line.v5 κ))):=
 Piece.join p_words_line_5_ok C_ok mixed (gam22_ok κ m) nn2_ok xx15_ok (cut:=noCut) (X:=xx15) (cuts_by (l:=[]) (by kernel_rfl) (all_nil)) (fun s=>by kernel_rfl)
def p_words_line_6:=mkP (T:=T) [⟨[(1,.ptr 0 0),(4,.cap0),(13,.slc 1 0 5 5),(14,.lit .i64 5),(15,.lit .i64 0)],[.cells 26 none kk20,.cells 20 none kk27],[]⟩] [⟨.normal,⟨[(1,.ptr 0 0),(4,.own 1),(13,.slc 2 0 5 5),(14,.lit .i64 5),(15,.lit .i64 1)],kk48,[]⟩⟩,⟨.ret,⟨[(2,.s),(3,.b)],[],[]⟩⟩]
theorem p_words_line_6_ok:PieceOk p_words_line_6:=mkP_ok _ _
theorem p_words_line_6_ct(κ:Nat)(m:Int):CutOk Tryz.prog C (G m) Tryz.f17.ntmps 0 (bodyOf (pieceOf (.blk 0) (getBody Tryz.f17))) (p_words_line_6.cut nn2 (cur _ (words_line.v6 κ))):=
 Piece.join p_words_line_6_ok C_ok mixed (gam22_ok κ m) nn2_ok xx15_ok (cut:=noCut) (X:=xx15) (cuts_by (l:=[]) (by kernel_rfl) (all_nil)) (fun s=>by kernel_rfl)
def p_words_line_7:=mkP (T:=T) [⟨[(1,.ptr 0 0),(4,.cap0),(13,.slc 1 0 3 3),(14,.lit .i64 3),(15,.lit .i64 0)],[.cells 26 none kk20,.cells 20 none kk10],[]⟩] [⟨.normal,⟨[(1,.ptr 0 0),(4,.own 1),(13,.slc 2 0 3 3),(14,.lit .i64 3),(15,.lit .i64 1)],kk37,[]⟩⟩,⟨.ret,⟨[(2,.s),(3,.b)],[],[]⟩⟩]
theorem p_words_line_7_ok:PieceOk p_words_line_7:=mkP_ok _ _
theorem p_words_line_7_ct(κ:Nat)(m:Int):CutOk Tryz.prog C (G m) Tryz.f17.ntmps 0 (bodyOf (pieceOf (.blk 0) (getBody Tryz.f17))) (p_words_line_7.cut nn2 (cur _ (words_line.v7 κ))):=
 Piece.join p_words_line_7_ok C_ok mixed (gam22_ok κ m) nn2_ok xx15_ok (cut:=noCut) (X:=xx15) (cuts_by (l:=[]) (by kernel_rfl) (all_nil)) (fun s=>by kernel_rfl)
def p_words_line_8:=mkP (T:=T) [⟨[(1,.ptr 0 0),(4,.cap0),(13,.slc 1 0 3 3),(14,.lit .i64 3),(15,.lit .i64 0)],[.cells 26 none kk20,.cells 20 none kk8],[]⟩] [⟨.normal,⟨[(1,.ptr 0 0),(4,.own 1),(13,.slc 2 0 3 3),(14,.lit .i64 3),(15,.lit .i64 1)],kk32,[]⟩⟩,⟨.ret,⟨[(2,.s),(3,.b)],[],[]⟩⟩]
theorem p_words_line_8_ok:PieceOk p_words_line_8:=mkP_ok _ _
theorem p_words_line_8_ct(κ:Nat)(m:Int):CutOk Tryz.prog C (G m) Tryz.f17.ntmps 0 (bodyOf (pieceOf (.blk 0) (getBody Tryz.f17))) (p_words_line_8.cut nn2 (cur _ (words_line.v8 κ))):=
 Piece.join p_words_line_8_ok C_ok mixed (gam22_ok κ m) nn2_ok xx15_ok (cut:=noCut) (X:=xx15) (cuts_by (l:=[]) (by kernel_rfl) (all_nil)) (fun s=>by kernel_rfl)
def p_words_line_9:=mkP (T:=T) [⟨[(1,.ptr 0 0),(4,.cap0),(13,.slc 1 0 3 3),(14,.lit .i64 3),(15,.lit .i64 0)],[.cells 26 none kk20,.cells 20 none kk9],[]⟩] [⟨.normal,⟨[(1,.ptr 0 0),(4,.own 1),(13,.slc 2 0 3 3),(14,.lit .i64 3),(15,.lit .i64 1)],kk33,[]⟩⟩,⟨.ret,⟨[(2,.s),(3,.b)],[],[]⟩⟩]
theorem p_words_line_9_ok:PieceOk p_words_line_9:=mkP_ok _ _
theorem p_words_line_9_ct(κ:Nat)(m:Int):CutOk Tryz.prog C (G m) Tryz.f17.ntmps 0 (bodyOf (pieceOf (.blk 0) (getBody Tryz.f17))) (p_words_line_9.cut nn2 (cur _ (words_line.v9 κ))):=
 Piece.join p_words_line_9_ok C_ok mixed (gam22_ok κ m) nn2_ok xx15_ok (cut:=noCut) (X:=xx15) (cuts_by (l:=[]) (by kernel_rfl) (all_nil)) (fun s=>by kernel_rfl)
def p_words_line_10:=mkP (T:=T) [⟨[(1,.ptr 0 0),(4,.cap0),(13,.slc 1 0 4 4),(14,.lit .i64 4),(15,.lit .i64 0)],[.cells 26 none kk20,.cells 20 none kk14],[]⟩] [⟨.normal,⟨[(1,.ptr 0 0),(4,.own 1),(13,.slc 2 0 4 4),(14,.lit .i64 4),(15,.lit .i64 1)],kk41,[]⟩⟩,⟨.ret,⟨[(2,.s),(3,.b)],[],[]⟩⟩]
theorem p_words_line_10_ok:PieceOk p_words_line_10:=mkP_ok _ _
theorem p_words_line_10_ct(κ:Nat)(m:Int):CutOk Tryz.prog C (G m) Tryz.f17.ntmps 0 (bodyOf (pieceOf (.blk 0) (getBody Tryz.f17))) (p_words_line_10.cut nn2 (cur _ (words_line.v10 κ))):=
 Piece.join p_words_line_10_ok C_ok mixed (gam22_ok κ m) nn2_ok xx15_ok (cut:=noCut) (X:=xx15) (cuts_by (l:=[]) (by kernel_rfl) (all_nil)) (fun s=>by kernel_rfl)
def p_words_line_11:=mkP (T:=T) [⟨[(1,.ptr 0 0),(4,.cap0),(13,.slc 1 0 2 2),(14,.lit .i64 2),(15,.lit .i64 0)],[.cells 26 none kk20,.cells 20 none kk2],[]⟩] [⟨.normal,⟨[(1,.ptr 0 0),(4,.own 1),(13,.slc 2 0 2 2),(14,.lit .i64 2),(15,.lit .i64 1)],kk29,[]⟩⟩,⟨.ret,⟨[(2,.s),(3,.b)],[],[]⟩⟩]
theorem p_words_line_11_ok:PieceOk p_words_line_11:=mkP_ok _ _
theorem p_words_line_11_ct(κ:Nat)(m:Int):CutOk Tryz.prog C (G m) Tryz.f17.ntmps 0 (bodyOf (pieceOf (.blk 0) (getBody Tryz.f17))) (p_words_line_11.cut nn2 (cur _ (words_line.v11 κ))):=
 Piece.join p_words_line_11_ok C_ok mixed (gam22_ok κ m) nn2_ok xx15_ok (cut:=noCut) (X:=xx15) (cuts_by (l:=[]) (by kernel_rfl) (all_nil)) (fun s=>by kernel_rfl)
def p_words_line_12:=mkP (T:=T) [⟨[(1,.ptr 0 0),(4,.own 1),(13,.slc 2 0 2 2),(14,.lit .i64 2),(15,.lit .i64 1)],kk28,[]⟩] [⟨.normal,⟨[(1,.ptr 0 0),(4,.own 1),(13,.slc 2 0 2 2),(14,.lit .i64 2),(15,.lit .i64 2)],kk28,[]⟩⟩,⟨.ret,⟨[(2,.s),(3,.b)],[],[]⟩⟩]
theorem p_words_line_12_ok:PieceOk p_words_line_12:=mkP_ok _ _
theorem p_words_line_12_ct(κ:Nat)(m:Int):CutOk Tryz.prog C (G m) Tryz.f17.ntmps 0 (bodyOf (pieceOf (.blk 0) (getBody Tryz.f17))) (p_words_line_12.cut nn2 (cur _ (words_line.v12 κ))):=
 Piece.join p_words_line_12_ok C_ok mixed (gam23_ok κ m) nn2_ok xx15_ok (cut:=noCut) (X:=xx15) (cuts_by (l:=[]) (by kernel_rfl) (all_nil)) (fun s=>by kernel_rfl)
def p_words_line_13:=mkP (T:=T) [⟨[(1,.ptr 0 0),(4,.own 1),(13,.slc 2 0 2 2),(14,.lit .i64 2),(15,.lit .i64 1)],kk30,[]⟩] [⟨.normal,⟨[(1,.ptr 0 0),(4,.own 1),(13,.slc 2 0 2 2),(14,.lit .i64 2),(15,.lit .i64 2)],kk30,[]⟩⟩,⟨.ret,⟨[(2,.s),(3,.b)],[],[]⟩⟩]
theorem p_words_line_13_ok:PieceOk p_words_line_13:=mkP_ok _ _
theorem p_words_line_13_ct(κ:Nat)(m:Int):CutOk Tryz.prog C (G m) Tryz.f17.ntmps 0 (bodyOf (pieceOf (.blk 0) (getBody Tryz.f17))) (p_words_line_13.cut nn2 (cur _ (words_line.v13 κ))):=
 Piece.join p_words_line_13_ok C_ok mixed (gam25_ok κ m) nn2_ok xx15_ok (cut:=noCut) (X:=xx15) (cuts_by (l:=[]) (by kernel_rfl) (all_nil)) (fun s=>by kernel_rfl)
def p_words_line_14:=mkP (T:=T) [⟨[(1,.ptr 0 0),(4,.own 1),(13,.slc 2 0 4 4),(14,.lit .i64 4),(15,.lit .i64 1)],kk42,[]⟩] [⟨.normal,⟨[(1,.ptr 0 0),(4,.own 1),(13,.slc 2 0 4 4),(14,.lit .i64 4),(15,.lit .i64 2)],kk42,[]⟩⟩,⟨.ret,⟨[(2,.s),(3,.b)],[],[]⟩⟩]
theorem p_words_line_14_ok:PieceOk p_words_line_14:=mkP_ok _ _
theorem p_words_line_14_ct(κ:Nat)(m:Int):CutOk Tryz.prog C (G m) Tryz.f17.ntmps 0 (bodyOf (pieceOf (.blk 0) (getBody Tryz.f17))) (p_words_line_14.cut nn2 (cur _ (words_line.v14 κ))):=
 Piece.join p_words_line_14_ok C_ok mixed (gam25_ok κ m) nn2_ok xx15_ok (cut:=noCut) (X:=xx15) (cuts_by (l:=[]) (by kernel_rfl) (all_nil)) (fun s=>by kernel_rfl)
def p_words_line_15:=mkP (T:=T) [⟨[(1,.ptr 0 0),(4,.own 1),(13,.slc 2 0 4 4),(14,.lit .i64 4),(15,.lit .i64 1)],kk39,[]⟩] [⟨.normal,⟨[(1,.ptr 0 0),(4,.own 1),(13,.slc 2 0 4 4),(14,.lit .i64 4),(15,.lit .i64 2)],kk39,[]⟩⟩]
theorem p_words_line_15_ok:PieceOk p_words_line_15:=mkP_ok _ _
theorem p_words_line_15_ct(κ:Nat)(m:Int):CutOk Tryz.prog C (G m) Tryz.f17.ntmps 0 (bodyOf (pieceOf (.blk 0) (getBody Tryz.f17))) (p_words_line_15.cut nn2 (cur _ (words_line.v15 κ))):=
 Piece.join p_words_line_15_ok C_ok mixed (gam25_ok κ m) nn2_ok xx15_ok (cut:=noCut) (X:=xx15) (cuts_by (l:=[]) (by kernel_rfl) (all_nil)) (fun s=>by kernel_rfl)
def p_words_line_16:=mkP (T:=T) [⟨[(1,.ptr 0 0),(4,.own 1),(13,.slc 2 0 4 4),(14,.lit .i64 4),(15,.lit .i64 1)],kk40,[]⟩] [⟨.normal,⟨[(1,.ptr 0 0),(4,.own 1),(13,.slc 2 0 4 4),(14,.lit .i64 4),(15,.lit .i64 2)],kk40,[]⟩⟩]
theorem p_words_line_16_ok:PieceOk p_words_line_16:=mkP_ok _ _
theorem p_words_line_16_ct(κ:Nat)(m:Int):CutOk Tryz.prog C (G m) Tryz.f17.ntmps 0 (bodyOf (pieceOf (.blk 0) (getBody Tryz.f17))) (p_words_line_16.cut nn2 (cur _ (words_line.v16 κ))):=
 Piece.join p_words_line_16_ok C_ok mixed (gam25_ok κ m) nn2_ok xx15_ok (cut:=noCut) (X:=xx15) (cuts_by (l:=[]) (by kernel_rfl) (all_nil)) (fun s=>by kernel_rfl)
def p_words_line_17:=mkP (T:=T) [⟨[(1,.ptr 0 0),(4,.own 1),(13,.slc 2 0 5 5),(14,.lit .i64 5),(15,.lit .i64 1)],kk48,[]⟩] [⟨.normal,⟨[(1,.ptr 0 0),(4,.own 1),(13,.slc 2 0 5 5),(14,.lit .i64 5),(15,.lit .i64 2)],kk48,[]⟩⟩]
theorem p_words_line_17_ok:PieceOk p_words_line_17:=mkP_ok _ _
theorem p_words_line_17_ct(κ:Nat)(m:Int):CutOk Tryz.prog C (G m) Tryz.f17.ntmps 0 (bodyOf (pieceOf (.blk 0) (getBody Tryz.f17))) (p_words_line_17.cut nn2 (cur _ (words_line.v17 κ))):=
 Piece.join p_words_line_17_ok C_ok mixed (gam25_ok κ m) nn2_ok xx15_ok (cut:=noCut) (X:=xx15) (cuts_by (l:=[]) (by kernel_rfl) (all_nil)) (fun s=>by kernel_rfl)
def p_words_line_18:=mkP (T:=T) [⟨[(1,.ptr 0 0),(4,.own 1),(13,.slc 2 0 3 3),(14,.lit .i64 3),(15,.lit .i64 1)],kk37,[]⟩] [⟨.normal,⟨[(1,.ptr 0 0),(4,.own 1),(13,.slc 2 0 3 3),(14,.lit .i64 3),(15,.lit .i64 2)],kk37,[]⟩⟩]
theorem p_words_line_18_ok:PieceOk p_words_line_18:=mkP_ok _ _
theorem p_words_line_18_ct(κ:Nat)(m:Int):CutOk Tryz.prog C (G m) Tryz.f17.ntmps 0 (bodyOf (pieceOf (.blk 0) (getBody Tryz.f17))) (p_words_line_18.cut nn2 (cur _ (words_line.v18 κ))):=
 Piece.join p_words_line_18_ok C_ok mixed (gam25_ok κ m) nn2_ok xx15_ok (cut:=noCut) (X:=xx15) (cuts_by (l:=[]) (by kernel_rfl) (all_nil)) (fun s=>by kernel_rfl)
def p_words_line_19:=mkP (T:=T) [⟨[(1,.ptr 0 0),(4,.own 1),(13,.slc 2 0 3 3),(14,.lit .i64 3),(15,.lit .i64 1)],kk32,[]⟩] [⟨.normal,⟨[(1,.ptr 0 0),(4,.own 1),(13,.slc 2 0 3 3),(14,.lit .i64 3),(15,.lit .i64 2)],kk32,[]⟩⟩]
theorem p_words_line_19_ok:PieceOk p_words_line_19:=mkP_ok _ _
theorem p_words_line_19_ct(κ:Nat)(m:Int):CutOk Tryz.prog C (G m) Tryz.f17.ntmps 0 (bodyOf (pieceOf (.blk 0) (getBody Tryz.f17))) (p_words_line_19.cut nn2 (cur _ (words_line.v19 κ))):=
 Piece.join p_words_line_19_ok C_ok mixed (gam25_ok κ m) nn2_ok xx15_ok (cut:=noCut) (X:=xx15) (cuts_by (l:=[]) (by kernel_rfl) (all_nil)) (fun s=>by kernel_rfl)
def p_words_line_20:=mkP (T:=T) [⟨[(1,.ptr 0 0),(4,.own 1),(13,.slc 2 0 3 3),(14,.lit .i64 3),(15,.lit .i64 1)],kk33,[]⟩] [⟨.normal,⟨[(1,.ptr 0 0),(4,.own 1),(13,.slc 2 0 3 3),(14,.lit .i64 3),(15,.lit .i64 2)],kk33,[]⟩⟩]
theorem p_words_line_20_ok:PieceOk p_words_line_20:=mkP_ok _ _
theorem p_words_line_20_ct(κ:Nat)(m:Int):CutOk Tryz.prog C (G m) Tryz.f17.ntmps 0 (bodyOf (pieceOf (.blk 0) (getBody Tryz.f17))) (p_words_line_20.cut nn2 (cur _ (words_line.v20 κ))):=
 Piece.join p_words_line_20_ok C_ok mixed (gam25_ok κ m) nn2_ok xx15_ok (cut:=noCut) (X:=xx15) (cuts_by (l:=[]) (by kernel_rfl) (all_nil)) (fun s=>by kernel_rfl)
def p_words_line_21:=mkP (T:=T) [⟨[(1,.ptr 0 0),(4,.own 1),(13,.slc 2 0 4 4),(14,.lit .i64 4),(15,.lit .i64 1)],kk41,[]⟩] [⟨.normal,⟨[(1,.ptr 0 0),(4,.own 1),(13,.slc 2 0 4 4),(14,.lit .i64 4),(15,.lit .i64 2)],kk41,[]⟩⟩]
theorem p_words_line_21_ok:PieceOk p_words_line_21:=mkP_ok _ _
theorem p_words_line_21_ct(κ:Nat)(m:Int):CutOk Tryz.prog C (G m) Tryz.f17.ntmps 0 (bodyOf (pieceOf (.blk 0) (getBody Tryz.f17))) (p_words_line_21.cut nn2 (cur _ (words_line.v21 κ))):=
 Piece.join p_words_line_21_ok C_ok mixed (gam25_ok κ m) nn2_ok xx15_ok (cut:=noCut) (X:=xx15) (cuts_by (l:=[]) (by kernel_rfl) (all_nil)) (fun s=>by kernel_rfl)
def p_words_line_22:=mkP (T:=T) [⟨[(1,.ptr 0 0),(4,.own 1),(13,.slc 2 0 2 2),(14,.lit .i64 2),(15,.lit .i64 1)],kk29,[]⟩] [⟨.normal,⟨[(1,.ptr 0 0),(4,.own 1),(13,.slc 2 0 2 2),(14,.lit .i64 2),(15,.lit .i64 2)],kk29,[]⟩⟩]
theorem p_words_line_22_ok:PieceOk p_words_line_22:=mkP_ok _ _
theorem p_words_line_22_ct(κ:Nat)(m:Int):CutOk Tryz.prog C (G m) Tryz.f17.ntmps 0 (bodyOf (pieceOf (.blk 0) (getBody Tryz.f17))) (p_words_line_22.cut nn2 (cur _ (words_line.v22 κ))):=
 Piece.join p_words_line_22_ok C_ok mixed (gam25_ok κ m) nn2_ok xx15_ok (cut:=noCut) (X:=xx15) (cuts_by (l:=[]) (by kernel_rfl) (all_nil)) (fun s=>by kernel_rfl)
def p_words_line_23:=mkP (T:=T) [⟨[(1,.ptr 0 0),(4,.own 1),(13,.slc 2 0 2 2),(14,.lit .i64 2),(15,.lit .i64 2)],kk28,[]⟩] [⟨(.exit 0),⟨[(4,.own 0)],[.row 9 true],[]⟩⟩]
theorem p_words_line_23_ok:PieceOk p_words_line_23:=mkP_ok _ _
theorem p_words_line_23_ct(κ:Nat)(m:Int):CutOk Tryz.prog C (G m) Tryz.f17.ntmps 0 (bodyOf (pieceOf (.blk 0) (getBody Tryz.f17))) (p_words_line_23.cut nn2 (cur _ (words_line.v23 κ))):=
 Piece.join p_words_line_23_ok C_ok mixed (gam25_ok κ m) nn2_ok xx15_ok (cut:=noCut) (X:=xx15) (cuts_by (l:=[]) (by kernel_rfl) (all_nil)) (fun s=>by kernel_rfl)
def p_words_line_24:=mkP (T:=T) [⟨[(1,.ptr 0 0),(4,.own 1),(13,.slc 2 0 2 2),(14,.lit .i64 2),(15,.lit .i64 2)],kk30,[]⟩] [⟨(.exit 0),⟨[(4,.own 0)],[.row 9 true],[]⟩⟩]
theorem p_words_line_24_ok:PieceOk p_words_line_24:=mkP_ok _ _
theorem p_words_line_24_ct(κ:Nat)(m:Int):CutOk Tryz.prog C (G m) Tryz.f17.ntmps 0 (bodyOf (pieceOf (.blk 0) (getBody Tryz.f17))) (p_words_line_24.cut nn2 (cur _ (words_line.v24 κ))):=
 Piece.join p_words_line_24_ok C_ok mixed (gam25_ok κ m) nn2_ok xx15_ok (cut:=noCut) (X:=xx15) (cuts_by (l:=[]) (by kernel_rfl) (all_nil)) (fun s=>by kernel_rfl)
def p_words_line_25:=mkP (T:=T) [⟨[(1,.ptr 0 0),(4,.own 1),(13,.slc 2 0 4 4),(14,.lit .i64 4),(15,.lit .i64 2)],kk42,[]⟩] [⟨.normal,⟨[(1,.ptr 0 0),(4,.own 1),(13,.slc 2 0 4 4),(14,.lit .i64 4),(15,.lit .i64 3)],kk42,[]⟩⟩,⟨.ret,⟨[(2,.s),(3,.b)],[],[]⟩⟩]
theorem p_words_line_25_ok:PieceOk p_words_line_25:=mkP_ok _ _
theorem p_words_line_25_ct(κ:Nat)(m:Int):CutOk Tryz.prog C (G m) Tryz.f17.ntmps 0 (bodyOf (pieceOf (.blk 0) (getBody Tryz.f17))) (p_words_line_25.cut nn2 (cur _ (words_line.v25 κ))):=
 Piece.join p_words_line_25_ok C_ok mixed (gam27_ok κ m) nn2_ok xx15_ok (cut:=noCut) (X:=xx15) (cuts_by (l:=[]) (by kernel_rfl) (all_nil)) (fun s=>by kernel_rfl)
def p_words_line_26:=mkP (T:=T) [⟨[(1,.ptr 0 0),(4,.own 1),(13,.slc 2 0 4 4),(14,.lit .i64 4),(15,.lit .i64 2)],kk39,[]⟩] [⟨.normal,⟨[(1,.ptr 0 0),(4,.own 1),(13,.slc 2 0 4 4),(14,.lit .i64 4),(15,.lit .i64 3)],kk39,[]⟩⟩]
theorem p_words_line_26_ok:PieceOk p_words_line_26:=mkP_ok _ _
theorem p_words_line_26_ct(κ:Nat)(m:Int):CutOk Tryz.prog C (G m) Tryz.f17.ntmps 0 (bodyOf (pieceOf (.blk 0) (getBody Tryz.f17))) (p_words_line_26.cut nn2 (cur _ (words_line.v26 κ))):=
 Piece.join p_words_line_26_ok C_ok mixed (gam27_ok κ m) nn2_ok xx15_ok (cut:=noCut) (X:=xx15) (cuts_by (l:=[]) (by kernel_rfl) (all_nil)) (fun s=>by kernel_rfl)
def p_words_line_27:=mkP (T:=T) [⟨[(1,.ptr 0 0),(4,.own 1),(13,.slc 2 0 4 4),(14,.lit .i64 4),(15,.lit .i64 2)],kk40,[]⟩] [⟨.normal,⟨[(1,.ptr 0 0),(4,.own 1),(13,.slc 2 0 4 4),(14,.lit .i64 4),(15,.lit .i64 3)],kk40,[]⟩⟩]
theorem p_words_line_27_ok:PieceOk p_words_line_27:=mkP_ok _ _
theorem p_words_line_27_ct(κ:Nat)(m:Int):CutOk Tryz.prog C (G m) Tryz.f17.ntmps 0 (bodyOf (pieceOf (.blk 0) (getBody Tryz.f17))) (p_words_line_27.cut nn2 (cur _ (words_line.v27 κ))):=
 Piece.join p_words_line_27_ok C_ok mixed (gam27_ok κ m) nn2_ok xx15_ok (cut:=noCut) (X:=xx15) (cuts_by (l:=[]) (by kernel_rfl) (all_nil)) (fun s=>by kernel_rfl)
def p_words_line_28:=mkP (T:=T) [⟨[(1,.ptr 0 0),(4,.own 1),(13,.slc 2 0 5 5),(14,.lit .i64 5),(15,.lit .i64 2)],kk48,[]⟩] [⟨.normal,⟨[(1,.ptr 0 0),(4,.own 1),(13,.slc 2 0 5 5),(14,.lit .i64 5),(15,.lit .i64 3)],kk48,[]⟩⟩,⟨.ret,⟨[(2,.s),(3,.b)],[],[]⟩⟩]
theorem p_words_line_28_ok:PieceOk p_words_line_28:=mkP_ok _ _
theorem p_words_line_28_ct(κ:Nat)(m:Int):CutOk Tryz.prog C (G m) Tryz.f17.ntmps 0 (bodyOf (pieceOf (.blk 0) (getBody Tryz.f17))) (p_words_line_28.cut nn2 (cur _ (words_line.v28 κ))):=
 Piece.join p_words_line_28_ok C_ok mixed (gam29_ok κ m) nn2_ok xx15_ok (cut:=noCut) (X:=xx15) (cuts_by (l:=[]) (by kernel_rfl) (all_nil)) (fun s=>by kernel_rfl)
def p_words_line_29:=mkP (T:=T) [⟨[(1,.ptr 0 0),(4,.own 1),(13,.slc 2 0 3 3),(14,.lit .i64 3),(15,.lit .i64 2)],kk37,[]⟩] [⟨.normal,⟨[(1,.ptr 0 0),(4,.own 1),(13,.slc 2 0 3 3),(14,.lit .i64 3),(15,.lit .i64 3)],kk37,[]⟩⟩,⟨.ret,⟨[(2,.s),(3,.b)],[],[]⟩⟩]
theorem p_words_line_29_ok:PieceOk p_words_line_29:=mkP_ok _ _
theorem p_words_line_29_ct(κ:Nat)(m:Int):CutOk Tryz.prog C (G m) Tryz.f17.ntmps 0 (bodyOf (pieceOf (.blk 0) (getBody Tryz.f17))) (p_words_line_29.cut nn2 (cur _ (words_line.v29 κ))):=
 Piece.join p_words_line_29_ok C_ok mixed (gam29_ok κ m) nn2_ok xx15_ok (cut:=noCut) (X:=xx15) (cuts_by (l:=[]) (by kernel_rfl) (all_nil)) (fun s=>by kernel_rfl)
def p_words_line_30:=mkP (T:=T) [⟨[(1,.ptr 0 0),(4,.own 1),(13,.slc 2 0 3 3),(14,.lit .i64 3),(15,.lit .i64 2)],kk32,[]⟩] [⟨.normal,⟨[(1,.ptr 0 0),(4,.own 1),(13,.slc 2 0 3 3),(14,.lit .i64 3),(15,.lit .i64 3)],kk32,[]⟩⟩,⟨.ret,⟨[(2,.s),(3,.b)],[],[]⟩⟩]
theorem p_words_line_30_ok:PieceOk p_words_line_30:=mkP_ok _ _
theorem p_words_line_30_ct(κ:Nat)(m:Int):CutOk Tryz.prog C (G m) Tryz.f17.ntmps 0 (bodyOf (pieceOf (.blk 0) (getBody Tryz.f17))) (p_words_line_30.cut nn2 (cur _ (words_line.v30 κ))):=
 Piece.join p_words_line_30_ok C_ok mixed (gam30_ok κ m) nn2_ok xx15_ok (cut:=noCut) (X:=xx15) (cuts_by (l:=[]) (by kernel_rfl) (all_nil)) (fun s=>by kernel_rfl)
def p_words_line_31:=mkP (T:=T) [⟨[(1,.ptr 0 0),(4,.own 1),(13,.slc 2 0 3 3),(14,.lit .i64 3),(15,.lit .i64 2)],kk33,[]⟩] [⟨.normal,⟨[(1,.ptr 0 0),(4,.own 1),(13,.slc 2 0 3 3),(14,.lit .i64 3),(15,.lit .i64 3)],kk33,[]⟩⟩,⟨.ret,⟨[(2,.s),(3,.b)],[],[]⟩⟩]
theorem p_words_line_31_ok:PieceOk p_words_line_31:=mkP_ok _ _
theorem p_words_line_31_ct(κ:Nat)(m:Int):CutOk Tryz.prog C (G m) Tryz.f17.ntmps 0 (bodyOf (pieceOf (.blk 0) (getBody Tryz.f17))) (p_words_line_31.cut nn2 (cur _ (words_line.v31 κ))):=
 Piece.join p_words_line_31_ok C_ok mixed (gam31_ok κ m) nn2_ok xx15_ok (cut:=noCut) (X:=xx15) (cuts_by (l:=[]) (by kernel_rfl) (all_nil)) (fun s=>by kernel_rfl)
def p_words_line_32:=mkP (T:=T) [⟨[(1,.ptr 0 0),(4,.own 1),(13,.slc 2 0 4 4),(14,.lit .i64 4),(15,.lit .i64 2)],kk41,[]⟩] [⟨.normal,⟨[(1,.ptr 0 0),(4,.own 1),(13,.slc 2 0 4 4),(14,.lit .i64 4),(15,.lit .i64 3)],kk41,[]⟩⟩,⟨.ret,⟨[(2,.s),(3,.b)],[],[]⟩⟩]
theorem p_words_line_32_ok:PieceOk p_words_line_32:=mkP_ok _ _
theorem p_words_line_32_ct(κ:Nat)(m:Int):CutOk Tryz.prog C (G m) Tryz.f17.ntmps 0 (bodyOf (pieceOf (.blk 0) (getBody Tryz.f17))) (p_words_line_32.cut nn2 (cur _ (words_line.v32 κ))):=
 Piece.join p_words_line_32_ok C_ok mixed (gam31_ok κ m) nn2_ok xx15_ok (cut:=noCut) (X:=xx15) (cuts_by (l:=[]) (by kernel_rfl) (all_nil)) (fun s=>by kernel_rfl)
def p_words_line_33:=mkP (T:=T) [⟨[(1,.ptr 0 0),(4,.own 1),(13,.slc 2 0 2 2),(14,.lit .i64 2),(15,.lit .i64 2)],kk29,[]⟩] [⟨(.exit 0),⟨[(4,.own 0)],[.row 9 true],[]⟩⟩]
theorem p_words_line_33_ok:PieceOk p_words_line_33:=mkP_ok _ _
theorem p_words_line_33_ct(κ:Nat)(m:Int):CutOk Tryz.prog C (G m) Tryz.f17.ntmps 0 (bodyOf (pieceOf (.blk 0) (getBody Tryz.f17))) (p_words_line_33.cut nn2 (cur _ (words_line.v33 κ))):=
 Piece.join p_words_line_33_ok C_ok mixed (gam31_ok κ m) nn2_ok xx15_ok (cut:=noCut) (X:=xx15) (cuts_by (l:=[]) (by kernel_rfl) (all_nil)) (fun s=>by kernel_rfl)
def p_words_line_34:=mkP (T:=T) [⟨[(1,.ptr 0 0),(4,.own 1),(13,.slc 2 0 4 4),(14,.lit .i64 4),(15,.lit .i64 3)],kk42,[]⟩] [⟨.normal,⟨[(1,.ptr 0 0),(4,.own 1),(13,.slc 2 0 4 4),(14,.lit .i64 4),(15,.lit .i64 4)],kk42,[]⟩⟩,⟨.ret,⟨[(2,.s),(3,.b)],[],[]⟩⟩]
theorem p_words_line_34_ok:PieceOk p_words_line_34:=mkP_ok _ _
theorem p_words_line_34_ct(κ:Nat)(m:Int):CutOk Tryz.prog C (G m) Tryz.f17.ntmps 0 (bodyOf (pieceOf (.blk 0) (getBody Tryz.f17))) (p_words_line_34.cut nn2 (cur _ (words_line.v34 κ))):=
 Piece.join p_words_line_34_ok C_ok mixed (gam33_ok κ m) nn2_ok xx15_ok (cut:=noCut) (X:=xx15) (cuts_by (l:=[]) (by kernel_rfl) (all_nil)) (fun s=>by kernel_rfl)
def p_words_line_35:=mkP (T:=T) [⟨[(1,.ptr 0 0),(4,.own 1),(13,.slc 2 0 4 4),(14,.lit .i64 4),(15,.lit .i64 3)],kk39,[]⟩] [⟨.normal,⟨[(1,.ptr 0 0),(4,.own 1),(13,.slc 2 0 4 4),(14,.lit .i64 4),(15,.lit .i64 4)],kk39,[]⟩⟩,⟨.ret,⟨[(2,.s),(3,.b)],[],[]⟩⟩]
theorem p_words_line_35_ok:PieceOk p_words_line_35:=mkP_ok _ _
theorem p_words_line_35_ct(κ:Nat)(m:Int):CutOk Tryz.prog C (G m) Tryz.f17.ntmps 0 (bodyOf (pieceOf (.blk 0) (getBody Tryz.f17))) (p_words_line_35.cut nn2 (cur _ (words_line.v35 κ))):=
 Piece.join p_words_line_35_ok C_ok mixed (gam38_ok κ m) nn2_ok xx15_ok (cut:=noCut) (X:=xx15) (cuts_by (l:=[]) (by kernel_rfl) (all_nil)) (fun s=>by kernel_rfl)
def p_words_line_36:=mkP (T:=T) [⟨[(1,.ptr 0 0),(4,.own 1),(13,.slc 2 0 4 4),(14,.lit .i64 4),(15,.lit .i64 3)],kk40,[]⟩] [⟨.normal,⟨[(1,.ptr 0 0),(4,.own 1),(13,.slc 2 0 4 4),(14,.lit .i64 4),(15,.lit .i64 4)],kk40,[]⟩⟩]
theorem p_words_line_36_ok:PieceOk p_words_line_36:=mkP_ok _ _
theorem p_words_line_36_ct(κ:Nat)(m:Int):CutOk Tryz.prog C (G m) Tryz.f17.ntmps 0 (bodyOf (pieceOf (.blk 0) (getBody Tryz.f17))) (p_words_line_36.cut nn2 (cur _ (words_line.v36 κ))):=
 Piece.join p_words_line_36_ok C_ok mixed (gam39_ok κ m) nn2_ok xx15_ok (cut:=noCut) (X:=xx15) (cuts_by (l:=[]) (by kernel_rfl) (all_nil)) (fun s=>by kernel_rfl)
def p_words_line_37:=mkP (T:=T) [⟨[(1,.ptr 0 0),(4,.own 1),(13,.slc 2 0 5 5),(14,.lit .i64 5),(15,.lit .i64 3)],kk48,[]⟩] [⟨.normal,⟨[(1,.ptr 0 0),(4,.own 1),(13,.slc 2 0 5 5),(14,.lit .i64 5),(15,.lit .i64 4)],kk48,[]⟩⟩,⟨.ret,⟨[(2,.s),(3,.b)],[],[]⟩⟩]
theorem p_words_line_37_ok:PieceOk p_words_line_37:=mkP_ok _ _
theorem p_words_line_37_ct(κ:Nat)(m:Int):CutOk Tryz.prog C (G m) Tryz.f17.ntmps 0 (bodyOf (pieceOf (.blk 0) (getBody Tryz.f17))) (p_words_line_37.cut nn2 (cur _ (words_line.v37 κ))):=
 Piece.join p_words_line_37_ok C_ok mixed (gam41_ok κ m) nn2_ok xx15_ok (cut:=noCut) (X:=xx15) (cuts_by (l:=[]) (by kernel_rfl) (all_nil)) (fun s=>by kernel_rfl)
def p_words_line_38:=mkP (T:=T) [⟨[(1,.ptr 0 0),(4,.own 1),(13,.slc 2 0 3 3),(14,.lit .i64 3),(15,.lit .i64 3)],kk37,[]⟩] [⟨(.exit 0),⟨[(4,.own 0)],[.row 9 true],[]⟩⟩]
theorem p_words_line_38_ok:PieceOk p_words_line_38:=mkP_ok _ _
theorem p_words_line_38_ct(κ:Nat)(m:Int):CutOk Tryz.prog C (G m) Tryz.f17.ntmps 0 (bodyOf (pieceOf (.blk 0) (getBody Tryz.f17))) (p_words_line_38.cut nn2 (cur _ (words_line.v38 κ))):=
 Piece.join p_words_line_38_ok C_ok mixed (gam41_ok κ m) nn2_ok xx15_ok (cut:=noCut) (X:=xx15) (cuts_by (l:=[]) (by kernel_rfl) (all_nil)) (fun s=>by kernel_rfl)
def p_words_line_39:=mkP (T:=T) [⟨[(1,.ptr 0 0),(4,.own 1),(13,.slc 2 0 3 3),(14,.lit .i64 3),(15,.lit .i64 3)],kk32,[]⟩] [⟨(.exit 0),⟨[(4,.own 0)],[.row 9 true],[]⟩⟩]
theorem p_words_line_39_ok:PieceOk p_words_line_39:=mkP_ok _ _
theorem p_words_line_39_ct(κ:Nat)(m:Int):CutOk Tryz.prog C (G m) Tryz.f17.ntmps 0 (bodyOf (pieceOf (.blk 0) (getBody Tryz.f17))) (p_words_line_39.cut nn2 (cur _ (words_line.v39 κ))):=
 Piece.join p_words_line_39_ok C_ok mixed (gam41_ok κ m) nn2_ok xx15_ok (cut:=noCut) (X:=xx15) (cuts_by (l:=[]) (by kernel_rfl) (all_nil)) (fun s=>by kernel_rfl)
def p_words_line_40:=mkP (T:=T) [⟨[(1,.ptr 0 0),(4,.own 1),(13,.slc 2 0 3 3),(14,.lit .i64 3),(15,.lit .i64 3)],kk33,[]⟩] [⟨(.exit 0),⟨[(4,.own 0)],[.row 9 true],[]⟩⟩]
theorem p_words_line_40_ok:PieceOk p_words_line_40:=mkP_ok _ _
theorem p_words_line_40_ct(κ:Nat)(m:Int):CutOk Tryz.prog C (G m) Tryz.f17.ntmps 0 (bodyOf (pieceOf (.blk 0) (getBody Tryz.f17))) (p_words_line_40.cut nn2 (cur _ (words_line.v40 κ))):=
 Piece.join p_words_line_40_ok C_ok mixed (gam41_ok κ m) nn2_ok xx15_ok (cut:=noCut) (X:=xx15) (cuts_by (l:=[]) (by kernel_rfl) (all_nil)) (fun s=>by kernel_rfl)
def p_words_line_41:=mkP (T:=T) [⟨[(1,.ptr 0 0),(4,.own 1),(13,.slc 2 0 4 4),(14,.lit .i64 4),(15,.lit .i64 3)],kk41,[]⟩] [⟨.normal,⟨[(1,.ptr 0 0),(4,.own 1),(13,.slc 2 0 4 4),(14,.lit .i64 4),(15,.lit .i64 4)],kk41,[]⟩⟩,⟨.ret,⟨[(2,.s),(3,.b)],[],[]⟩⟩]
theorem p_words_line_41_ok:PieceOk p_words_line_41:=mkP_ok _ _
theorem p_words_line_41_ct(κ:Nat)(m:Int):CutOk Tryz.prog C (G m) Tryz.f17.ntmps 0 (bodyOf (pieceOf (.blk 0) (getBody Tryz.f17))) (p_words_line_41.cut nn2 (cur _ (words_line.v41 κ))):=
 Piece.join p_words_line_41_ok C_ok mixed (gam43_ok κ m) nn2_ok xx15_ok (cut:=noCut) (X:=xx15) (cuts_by (l:=[]) (by kernel_rfl) (all_nil)) (fun s=>by kernel_rfl)
def p_words_line_42:=mkP (T:=T) [⟨[(1,.ptr 0 0),(4,.own 1),(13,.slc 2 0 4 4),(14,.lit .i64 4),(15,.lit .i64 4)],kk42,[]⟩] [⟨(.exit 0),⟨[(4,.own 0)],[.row 9 true],[]⟩⟩]
theorem p_words_line_42_ok:PieceOk p_words_line_42:=mkP_ok _ _
theorem p_words_line_42_ct(κ:Nat)(m:Int):CutOk Tryz.prog C (G m) Tryz.f17.ntmps 0 (bodyOf (pieceOf (.blk 0) (getBody Tryz.f17))) (p_words_line_42.cut nn2 (cur _ (words_line.v42 κ))):=
 Piece.join p_words_line_42_ok C_ok mixed (gam43_ok κ m) nn2_ok xx15_ok (cut:=noCut) (X:=xx15) (cuts_by (l:=[]) (by kernel_rfl) (all_nil)) (fun s=>by kernel_rfl)
def p_words_line_43:=mkP (T:=T) [⟨[(1,.ptr 0 0),(4,.own 1),(13,.slc 2 0 4 4),(14,.lit .i64 4),(15,.lit .i64 4)],kk39,[]⟩] [⟨(.exit 0),⟨[(4,.own 0)],[.row 9 true],[]⟩⟩]
theorem p_words_line_43_ok:PieceOk p_words_line_43:=mkP_ok _ _
theorem p_words_line_43_ct(κ:Nat)(m:Int):CutOk Tryz.prog C (G m) Tryz.f17.ntmps 0 (bodyOf (pieceOf (.blk 0) (getBody Tryz.f17))) (p_words_line_43.cut nn2 (cur _ (words_line.v43 κ))):=
 Piece.join p_words_line_43_ok C_ok mixed (gam43_ok κ m) nn2_ok xx15_ok (cut:=noCut) (X:=xx15) (cuts_by (l:=[]) (by kernel_rfl) (all_nil)) (fun s=>by kernel_rfl)
def p_words_line_44:=mkP (T:=T) [⟨[(1,.ptr 0 0),(4,.own 1),(13,.slc 2 0 4 4),(14,.lit .i64 4),(15,.lit .i64 4)],kk40,[]⟩] [⟨(.exit 0),⟨[(4,.own 0)],[.row 9 true],[]⟩⟩]
theorem p_words_line_44_ok:PieceOk p_words_line_44:=mkP_ok _ _
theorem p_words_line_44_ct(κ:Nat)(m:Int):CutOk Tryz.prog C (G m) Tryz.f17.ntmps 0 (bodyOf (pieceOf (.blk 0) (getBody Tryz.f17))) (p_words_line_44.cut nn2 (cur _ (words_line.v44 κ))):=
 Piece.join p_words_line_44_ok C_ok mixed (gam43_ok κ m) nn2_ok xx15_ok (cut:=noCut) (X:=xx15) (cuts_by (l:=[]) (by kernel_rfl) (all_nil)) (fun s=>by kernel_rfl)
def p_words_line_45:=mkP (T:=T) [⟨[(1,.ptr 0 0),(4,.own 1),(13,.slc 2 0 5 5),(14,.lit .i64 5),(15,.lit .i64 4)],kk48,[]⟩] [⟨.normal,⟨[(1,.ptr 0 0),(4,.own 1),(13,.slc 2 0 5 5),(14,.lit .i64 5),(15,.lit .i64 5)],kk48,[]⟩⟩,⟨.ret,⟨[(2,.s),(3,.b)],[],[]⟩⟩]
theorem p_words_line_45_ok:PieceOk p_words_line_45:=mkP_ok _ _
theorem p_words_line_45_ct(κ:Nat)(m:Int):CutOk Tryz.prog C (G m) Tryz.f17.ntmps 0 (bodyOf (pieceOf (.blk 0) (getBody Tryz.f17))) (p_words_line_45.cut nn2 (cur _ (words_line.v45 κ))):=
 Piece.join p_words_line_45_ok C_ok mixed (gam43_ok κ m) nn2_ok xx15_ok (cut:=noCut) (X:=xx15) (cuts_by (l:=[]) (by kernel_rfl) (all_nil)) (fun s=>by kernel_rfl)
def p_words_line_46:=mkP (T:=T) [⟨[(1,.ptr 0 0),(4,.own 1),(13,.slc 2 0 4 4),(14,.lit .i64 4),(15,.lit .i64 4)],kk41,[]⟩] [⟨(.exit 0),⟨[(4,.own 0)],[.row 9 true],[]⟩⟩]
theorem p_words_line_46_ok:PieceOk p_words_line_46:=mkP_ok _ _
theorem p_words_line_46_ct(κ:Nat)(m:Int):CutOk Tryz.prog C (G m) Tryz.f17.ntmps 0 (bodyOf (pieceOf (.blk 0) (getBody Tryz.f17))) (p_words_line_46.cut nn2 (cur _ (words_line.v46 κ))):=
 Piece.join p_words_line_46_ok C_ok mixed (gam43_ok κ m) nn2_ok xx15_ok (cut:=noCut) (X:=xx15) (cuts_by (l:=[]) (by kernel_rfl) (all_nil)) (fun s=>by kernel_rfl)
def p_words_line_47:=mkP (T:=T) [⟨[(1,.ptr 0 0),(4,.own 1),(13,.slc 2 0 5 5),(14,.lit .i64 5),(15,.lit .i64 5)],kk48,[]⟩] [⟨(.exit 0),⟨[(4,.own 0)],[.row 9 true],[]⟩⟩]
theorem p_words_line_47_ok:PieceOk p_words_line_47:=mkP_ok _ _
theorem p_words_line_47_ct(κ:Nat)(m:Int):CutOk Tryz.prog C (G m) Tryz.f17.ntmps 0 (bodyOf (pieceOf (.blk 0) (getBody Tryz.f17))) (p_words_line_47.cut nn2 (cur _ (words_line.v47 κ))):=
 Piece.join p_words_line_47_ok C_ok mixed (gam43_ok κ m) nn2_ok xx15_ok (cut:=noCut) (X:=xx15) (cuts_by (l:=[]) (by kernel_rfl) (all_nil)) (fun s=>by kernel_rfl)
def cc_words_line_48(κ:Nat):Cut T:=loopV (p_words_line_0.cutOr nn2 (cur _ (words_line.v0 κ)) (p_words_line_1.cutOr nn2 (cur _ (words_line.v1 κ)) (p_words_line_2.cutOr nn2 (cur _ (words_line.v2 κ)) (p_words_line_3.cutOr nn2 (cur _ (words_line.v3 κ)) (p_words_line_4.cutOr nn2 (cur _ (words_line.v4 κ)) (p_words_line_5.cutOr nn2 (cur _ (words_line.v5 κ)) (p_words_line_6.cutOr nn2 (cur _ (words_line.v6 κ)) (p_words_line_7.cutOr nn2 (cur _ (words_line.v7 κ)) (p_words_line_8.cutOr nn2 (cur _ (words_line.v8 κ)) (p_words_line_9.cutOr nn2 (cur _ (words_line.v9 κ)) (p_words_line_10.cutOr nn2 (cur _ (words_line.v10 κ)) (p_words_line_11.cutOr nn2 (cur _ (words_line.v11 κ)) (p_words_line_12.cutOr nn2 (cur _ (words_line.v12 κ)) (p_words_line_13.cutOr nn2 (cur _ (words_line.v13 κ)) (p_words_line_14.cutOr nn2 (cur _ (words_line.v14 κ)) (p_words_line_15.cutOr nn2 (cur _ (words_line.v15 κ)) (p_words_line_16.cutOr nn2 (cur _ (words_line.v16 κ)) (p_words_line_17.cutOr nn2 (cur _ (words_line.v17 κ)) (p_words_line_18.cutOr nn2 (cur _ (words_line.v18 κ)) (p_words_line_19.cutOr nn2 (cur _ (words_line.v19 κ)) (p_words_line_20.cutOr nn2 (cur _ (words_line.v20 κ)) (p_words_line_21.cutOr nn2 (cur _ (words_line.v21 κ)) (p_words_line_22.cutOr nn2 (cur _ (words_line.v22 κ)) (p_words_line_23.cutOr nn2 (cur _ (words_line.v23 κ)) (p_words_line_24.cutOr nn2 (cur _ (words_line.v24 κ)) (p_words_line_25.cutOr nn2 (cur _ (words_line.v25 κ)) (p_words_line_26.cutOr nn2 (cur _ (words_line.v26 κ)) (p_words_line_27.cutOr nn2 (cur _ (words_line.v27 κ)) (p_words_line_28.cutOr nn2 (cur _ (words_line.v28 κ)) (p_words_line_29.cutOr nn2 (cur _ (words_line.v29 κ)) (p_words_line_30.cutOr nn2 (cur _ (words_line.v30 κ)) (p_words_line_31.cutOr nn2 (cur _ (words_line.v31 κ)) (p_words_line_32.cutOr nn2 (cur _ (words_line.v32 κ)) (p_words_line_33.cutOr nn2 (cur _ (words_line.v33 κ)) (p_words_line_34.cutOr nn2 (cur _ (words_line.v34 κ)) (p_words_line_35.cutOr nn2 (cur _ (words_line.v35 κ)) (p_words_line_36.cutOr nn2 (cur _ (words_line.v36 κ)) (p_words_line_37.cutOr nn2 (cur _ (words_line.v37 κ)) (p_words_line_38.cutOr nn2 (cur _ (words_line.v38 κ)) (p_words_line_39.cutOr nn2 (cur _ (words_line.v39 κ)) (p_words_line_40.cutOr nn2 (cur _ (words_line.v40 κ)) (p_words_line_41.cutOr nn2 (cur _ (words_line.v41 κ)) (p_words_line_42.cutOr nn2 (cur _ (words_line.v42 κ)) (p_words_line_43.cutOr nn2 (cur _ (words_line.v43 κ)) (p_words_line_44.cutOr nn2 (cur _ (words_line.v44 κ)) (p_words_line_45.cutOr nn2 (cur _ (words_line.v45 κ)) (p_words_line_46.cutOr nn2 (cur _ (words_line.v46 κ)) (p_words_line_47.cut nn2 (cur _ (words_line.v47 κ)))))))))))))))))))))))))))))))))))))))))))))))))) 0 6
theorem cc_words_line_48_ok(κ:Nat)(m:Int):CutOk Tryz.prog C (G m) Tryz.f17.ntmps 0 (pieceOf (.blk 0) (getBody Tryz.f17)) (cc_words_line_48 κ):=loopV_ok (body:=bodyOf (pieceOf (.blk 0) (getBody Tryz.f17))) (Piece.or_ok (p_words_line_0_ct κ m) (Piece.or_ok (p_words_line_1_ct κ m) (Piece.or_ok (p_words_line_2_ct κ m) (Piece.or_ok (p_words_line_3_ct κ m) (Piece.or_ok (p_words_line_4_ct κ m) (Piece.or_ok (p_words_line_5_ct κ m) (Piece.or_ok (p_words_line_6_ct κ m) (Piece.or_ok (p_words_line_7_ct κ m) (Piece.or_ok (p_words_line_8_ct κ m) (Piece.or_ok (p_words_line_9_ct κ m) (Piece.or_ok (p_words_line_10_ct κ m) (Piece.or_ok (p_words_line_11_ct κ m) (Piece.or_ok (p_words_line_12_ct κ m) (Piece.or_ok (p_words_line_13_ct κ m) (Piece.or_ok (p_words_line_14_ct κ m) (Piece.or_ok (p_words_line_15_ct κ m) (Piece.or_ok (p_words_line_16_ct κ m) (Piece.or_ok (p_words_line_17_ct κ m) (Piece.or_ok (p_words_line_18_ct κ m) (Piece.or_ok (p_words_line_19_ct κ m) (Piece.or_ok (p_words_line_20_ct κ m) (Piece.or_ok (p_words_line_21_ct κ m) (Piece.or_ok (p_words_line_22_ct κ m) (Piece.or_ok (p_words_line_23_ct κ m) (Piece.or_ok (p_words_line_24_ct κ m) (Piece.or_ok (p_words_line_25_ct κ m) (Piece.or_ok (p_words_line_26_ct κ m) (Piece.or_ok (p_words_line_27_ct κ m) (Piece.or_ok (p_words_line_28_ct κ m) (Piece.or_ok (p_words_line_29_ct κ m) (Piece.or_ok (p_words_line_30_ct κ m) (Piece.or_ok (p_words_line_31_ct κ m) (Piece.or_ok (p_words_line_32_ct κ m) (Piece.or_ok (p_words_line_33_ct κ m) (Piece.or_ok (p_words_line_34_ct κ m) (Piece.or_ok (p_words_line_35_ct κ m) (Piece.or_ok (p_words_line_36_ct κ m) (Piece.or_ok (p_words_line_37_ct κ m) (Piece.or_ok (p_words_line_38_ct κ m) (Piece.or_ok (p_words_line_39_ct κ m) (Piece.or_ok (p_words_line_40_ct κ m) (Piece.or_ok (p_words_line_41_ct κ m) (Piece.or_ok (p_words_line_42_ct κ m) (Piece.or_ok (p_words_line_43_ct κ m) (Piece.or_ok (p_words_line_44_ct κ m) (Piece.or_ok (p_words_line_45_ct κ m) (Piece.or_ok (p_words_line_46_ct κ m) (p_words_line_47_ct κ m)))))))))))))))))))))))))))))))))))))))))))))))) 6
def ct_words_line_48(κ:Nat):Key→Option (Cut T):=addCut noCut (.blk 0) (cc_words_line_48 κ)
def sp_words_line:=mkS (T:=T) kk23 [] [⟨false,.tup [.s,.b],[]⟩]
theorem sp_words_line_ok:SpecOk sp_words_line:=mkS_ok _ _ _
theorem ok_words_line(κ:Nat)(m:Int):EOk Tryz.prog C (G m) 17 (sp_words_line.entry (cur _ (words_line κ))):=
 Spec.ok sp_words_line_ok C_ok mixed (gam44_ok κ m) (cut:=(ct_words_line_48 κ)) (NR:=(gcN 0 [0])) (NP:=(gcN 0 [0])) (nB:=0) Tryz.func17 (c:=(getBody Tryz.f17)) (by kernel_rfl) (by kernel_rfl) (fun i=>by kernel_rfl) gcN_ok gcN_ok (cuts_by (l:=[(pieceOf (.blk 0) (getBody Tryz.f17),cc_words_line_48 κ)]) (by kernel_rfl) (all_cons (cc_words_line_48_ok κ m) (all_nil))) (fun i=>by kernel_rfl)
noncomputable def gam45(κ:Nat):Gam T:=(gam44 κ).addS 17 sp_words_line (cur _ (words_line κ))
theorem gam45_ok(κ:Nat)(m:Int):GOk Tryz.prog C (G m) (gam45 κ):=(gam44_ok κ m).addS (ok_words_line κ m)
def sp_internal_stringslite_Cut:=mkS (T:=T) [.s,.s] [] [⟨false,.tup [.s,.s,.b],[]⟩]
theorem sp_internal_stringslite_Cut_ok:SpecOk sp_internal_stringslite_Cut:=mkS_ok _ _ _
theorem ok_internal_stringslite_Cut(κ:Nat)(m:Int):EOk Tryz.prog C (G m) 53 (sp_internal_stringslite_Cut.entry (cur _ (internal_stringslite_Cut κ))):=
 Spec.ok sp_internal_stringslite_Cut_ok C_ok mixed (gam45_ok κ m) (cut:=noCut) (NR:=(gcN 0 [0])) (NP:=(gcN 0 [0])) (nB:=0) Tryz.func53 (c:=(getBody Tryz.f53)) (by kernel_rfl) (by kernel_rfl) (fun i=>by kernel_rfl) gcN_ok gcN_ok (cuts_by (l:=[]) (by kernel_rfl) (all_nil)) (fun i=>by kernel_rfl)
noncomputable def gam46(κ:Nat):Gam T:=(gam45 κ).addS 53 sp_internal_stringslite_Cut (cur _ (internal_stringslite_Cut κ))
theorem gam46_ok(κ:Nat)(m:Int):GOk Tryz.prog C (G m) (gam46 κ):=(gam45_ok κ m).addS (ok_internal_stringslite_Cut κ m)
def sp_strings_Cut:=mkS (T:=T) [.s,.s] [] [⟨false,.tup [.s,.s,.b],[]⟩]
theorem sp_strings_Cut_ok:SpecOk sp_strings_Cut:=mkS_ok _ _ _
theorem ok_strings_Cut(κ:Nat)(m:Int):EOk Tryz.prog C (G m) 35 (sp_strings_Cut.entry (cur _ (strings_Cut κ))):=
 Spec.ok sp_strings_Cut_ok C_ok mixed (gam46_ok κ m) (cut:=noCut) (NR:=(gcN 0 [0])) (NP:=(gcN 0 [0])) (nB:=0) Tryz.func35 (c:=(getBody Tryz.f35)) (by kernel_rfl) (by kernel_rfl) (fun i=>by kernel_rfl) gcN_ok gcN_ok (cuts_by (l:=[]) (by kernel_rfl) (all_nil)) (fun i=>by kernel_rfl)
noncomputable def gam47(κ:Nat):Gam T:=(gam46 κ).addS 35 sp_strings_Cut (cur _ (strings_Cut κ))
theorem gam47_ok(κ:Nat)(m:Int):GOk Tryz.prog C (G m) (gam47 κ):=(gam46_ok κ m).addS (ok_strings_Cut κ m)
def sp_words_read:=mkS (T:=T) [.ptr 0 0,.ifc 74 (.s),.s] kk26 [⟨false,.b,kk26⟩]
theorem sp_words_read_ok:SpecOk sp_words_read:=mkS_ok _ _ _
theorem ok_words_read(κ:Nat)(m:Int):EOk Tryz.prog C (G m) 36 (sp_words_read.entry (cur _ (words_read κ))):=
 Spec.ok sp_words_read_ok C_ok mixed (gam47_ok κ m) (cut:=noCut) (NR:=(gcN 1 [0])) (NP:=(gcN 1 [0])) (nB:=1) Tryz.func36 (c:=(getBody Tryz.f36)) (by kernel_rfl) (by kernel_rfl) (fun i=>by kernel_rfl) gcN_ok gcN_ok (cuts_by (l:=[]) (by kernel_rfl) (all_nil)) (fun i=>by kernel_rfl)
noncomputable def gam48(κ:Nat):Gam T:=(gam47 κ).addS 36 sp_words_read (cur _ (words_read κ))
theorem gam48_ok(κ:Nat)(m:Int):GOk Tryz.prog C (G m) (gam48 κ):=(gam47_ok κ m).addS (ok_words_read κ m)
def sp_words_read_2:=mkS (T:=T) [.ptr 0 0,.ifc 78 (.agg []),.s] kk26 [⟨false,.b,kk26⟩]
theorem sp_words_read_2_ok:SpecOk sp_words_read_2:=mkS_ok _ _ _
theorem ok_words_read_2(κ:Nat)(m:Int):EOk Tryz.prog C (G m) 36 (sp_words_read_2.entry (cur _ (words_read_2 κ))):=
 Spec.ok sp_words_read_2_ok C_ok mixed (gam48_ok κ m) (cut:=noCut) (NR:=(gcN 1 [0])) (NP:=(gcN 1 [0])) (nB:=1) Tryz.func36 (c:=(getBody Tryz.f36)) (by kernel_rfl) (by kernel_rfl) (fun i=>by kernel_rfl) gcN_ok gcN_ok (cuts_by (l:=[]) (by kernel_rfl) (all_nil)) (fun i=>by kernel_rfl)
noncomputable def gam49(κ:Nat):Gam T:=(gam48 κ).addS 36 sp_words_read_2 (cur _ (words_read_2 κ))
theorem gam49_ok(κ:Nat)(m:Int):GOk Tryz.prog C (G m) (gam49 κ):=(gam48_ok κ m).addS (ok_words_read_2 κ m)
def sp_words_read_3:=mkS (T:=T) [.ptr 0 0,.ifc 89 (.agg []),.s] kk26 [⟨false,.b,kk26⟩]
theorem sp_words_read_3_ok:SpecOk sp_words_read_3:=mkS_ok _ _ _
theorem ok_words_read_3(κ:Nat)(m:Int):EOk Tryz.prog C (G m) 36 (sp_words_read_3.entry (cur _ (words_read_3 κ))):=
 Spec.ok sp_words_read_3_ok C_ok mixed (gam49_ok κ m) (cut:=noCut) (NR:=(gcN 1 [0])) (NP:=(gcN 1 [0])) (nB:=1) Tryz.func36 (c:=(getBody Tryz.f36)) (by kernel_rfl) (by kernel_rfl) (fun i=>by kernel_rfl) gcN_ok gcN_ok (cuts_by (l:=[]) (by kernel_rfl) (all_nil)) (fun i=>by kernel_rfl)
noncomputable def gam50(κ:Nat):Gam T:=(gam49 κ).addS 36 sp_words_read_3 (cur _ (words_read_3 κ))
theorem gam50_ok(κ:Nat)(m:Int):GOk Tryz.prog C (G m) (gam50 κ):=(gam49_ok κ m).addS (ok_words_read_3 κ m)
def sp_words_read_4:=mkS (T:=T) [.ptr 0 0,.ifc 82 (.fn 40 [] []),.s] kk26 [⟨false,.b,kk26⟩]
theorem sp_words_read_4_ok:SpecOk sp_words_read_4:=mkS_ok _ _ _
theorem ok_words_read_4(κ:Nat)(m:Int):EOk Tryz.prog C (G m) 36 (sp_words_read_4.entry (cur _ (words_read_4 κ))):=
 Spec.ok sp_words_read_4_ok C_ok mixed (gam50_ok κ m) (cut:=noCut) (NR:=(gcN 1 [0])) (NP:=(gcN 1 [0])) (nB:=1) Tryz.func36 (c:=(getBody Tryz.f36)) (by kernel_rfl) (by kernel_rfl) (fun i=>by kernel_rfl) gcN_ok gcN_ok (cuts_by (l:=[]) (by kernel_rfl) (all_nil)) (fun i=>by kernel_rfl)
noncomputable def gam51(κ:Nat):Gam T:=(gam50 κ).addS 36 sp_words_read_4 (cur _ (words_read_4 κ))
theorem gam51_ok(κ:Nat)(m:Int):GOk Tryz.prog C (G m) (gam51 κ):=(gam50_ok κ m).addS (ok_words_read_4 κ m)
def sp_words_read_5:=mkS (T:=T) [.ptr 0 0,.ifc 82 (.fn 43 [] []),.s] kk26 [⟨false,.b,kk26⟩]
theorem sp_words_read_5_ok:SpecOk sp_words_read_5:=mkS_ok _ _ _
theorem ok_words_read_5(κ:Nat)(m:Int):EOk Tryz.prog C (G m) 36 (sp_words_read_5.entry (cur _ (words_read_5 κ))):=
 Spec.ok sp_words_read_5_ok C_ok mixed (gam51_ok κ m) (cut:=noCut) (NR:=(gcN 1 [0])) (NP:=(gcN 1 [0])) (nB:=1) Tryz.func36 (c:=(getBody Tryz.f36)) (by kernel_rfl) (by kernel_rfl) (fun i=>by kernel_rfl) gcN_ok gcN_ok (cuts_by (l:=[]) (by kernel_rfl) (all_nil)) (fun i=>by kernel_rfl)
noncomputable def gam52(κ:Nat):Gam T:=(gam51 κ).addS 36 sp_words_read_5 (cur _ (words_read_5 κ))
theorem gam52_ok(κ:Nat)(m:Int):GOk Tryz.prog C (G m) (gam52 κ):=(gam51_ok κ m).addS (ok_words_read_5 κ m)
def sp_words_read_6:=mkS (T:=T) [.ptr 0 0,.ifc 86 (.agg [.s,.s,.fn 41 [] []]),.s] kk26 [⟨false,.b,kk26⟩]
theorem sp_words_read_6_ok:SpecOk sp_words_read_6:=mkS_ok _ _ _
theorem ok_words_read_6(κ:Nat)(m:Int):EOk Tryz.prog C (G m) 36 (sp_words_read_6.entry (cur _ (words_read_6 κ))):=
 Spec.ok sp_words_read_6_ok C_ok mixed (gam52_ok κ m) (cut:=noCut) (NR:=(gcN 1 [0])) (NP:=(gcN 1 [0])) (nB:=1) Tryz.func36 (c:=(getBody Tryz.f36)) (by kernel_rfl) (by kernel_rfl) (fun i=>by kernel_rfl) gcN_ok gcN_ok (cuts_by (l:=[]) (by kernel_rfl) (all_nil)) (fun i=>by kernel_rfl)
noncomputable def gam53(κ:Nat):Gam T:=(gam52 κ).addS 36 sp_words_read_6 (cur _ (words_read_6 κ))
theorem gam53_ok(κ:Nat)(m:Int):GOk Tryz.prog C (G m) (gam53 κ):=(gam52_ok κ m).addS (ok_words_read_6 κ m)
def sp_words_read_7:=mkS (T:=T) [.ptr 0 0,.ifc 68 (.agg []),.s] kk26 [⟨false,.b,kk26⟩]
theorem sp_words_read_7_ok:SpecOk sp_words_read_7:=mkS_ok _ _ _
theorem ok_words_read_7(κ:Nat)(m:Int):EOk Tryz.prog C (G m) 36 (sp_words_read_7.entry (cur _ (words_read_7 κ))):=
 Spec.ok sp_words_read_7_ok C_ok mixed (gam53_ok κ m) (cut:=noCut) (NR:=(gcN 1 [0])) (NP:=(gcN 1 [0])) (nB:=1) Tryz.func36 (c:=(getBody Tryz.f36)) (by kernel_rfl) (by kernel_rfl) (fun i=>by kernel_rfl) gcN_ok gcN_ok (cuts_by (l:=[]) (by kernel_rfl) (all_nil)) (fun i=>by kernel_rfl)
noncomputable def gam54(κ:Nat):Gam T:=(gam53 κ).addS 36 sp_words_read_7 (cur _ (words_read_7 κ))
theorem gam54_ok(κ:Nat)(m:Int):GOk Tryz.prog C (G m) (gam54 κ):=(gam53_ok κ m).addS (ok_words_read_7 κ m)
def sp_words_read_8:=mkS (T:=T) [.ptr 0 0,.ifc 79 (.agg []),.s] kk26 [⟨false,.b,[.cells 26 none [.i .i64,.i .i64,.own 1,.s,.i .u64,.b,.b,.s,.i .u64,.i .u64,.sl 5],.row 55 true]⟩]
theorem sp_words_read_8_ok:SpecOk sp_words_read_8:=mkS_ok _ _ _
theorem ok_words_read_8(κ:Nat)(m:Int):EOk Tryz.prog C (G m) 36 (sp_words_read_8.entry (cur _ (words_read_8 κ))):=
 Spec.ok sp_words_read_8_ok C_ok mixed (gam54_ok κ m) (cut:=noCut) (NR:=(gcN 1 [0])) (NP:=(gcN 1 [0])) (nB:=1) Tryz.func36 (c:=(getBody Tryz.f36)) (by kernel_rfl) (by kernel_rfl) (fun i=>by kernel_rfl) gcN_ok gcN_ok (cuts_by (l:=[]) (by kernel_rfl) (all_nil)) (fun i=>by kernel_rfl)
noncomputable def gam55(κ:Nat):Gam T:=(gam54 κ).addS 36 sp_words_read_8 (cur _ (words_read_8 κ))
theorem gam55_ok(κ:Nat)(m:Int):GOk Tryz.prog C (G m) (gam55 κ):=(gam54_ok κ m).addS (ok_words_read_8 κ m)
def sp_words_read_9:=mkS (T:=T) [.ptr 0 0,.ifc 82 (.fn 44 [] []),.s] kk26 [⟨false,.b,kk26⟩]
theorem sp_words_read_9_ok:SpecOk sp_words_read_9:=mkS_ok _ _ _
theorem ok_words_read_9(κ:Nat)(m:Int):EOk Tryz.prog C (G m) 36 (sp_words_read_9.entry (cur _ (words_read_9 κ))):=
 Spec.ok sp_words_read_9_ok C_ok mixed (gam55_ok κ m) (cut:=noCut) (NR:=(gcN 1 [0])) (NP:=(gcN 1 [0])) (nB:=1) Tryz.func36 (c:=(getBody Tryz.f36)) (by kernel_rfl) (by kernel_rfl) (fun i=>by kernel_rfl) gcN_ok gcN_ok (cuts_by (l:=[]) (by kernel_rfl) (all_nil)) (fun i=>by kernel_rfl)
noncomputable def gam56(κ:Nat):Gam T:=(gam55 κ).addS 36 sp_words_read_9 (cur _ (words_read_9 κ))
theorem gam56_ok(κ:Nat)(m:Int):GOk Tryz.prog C (G m) (gam56 κ):=(gam55_ok κ m).addS (ok_words_read_9 κ m)
def p_words_unhex_5:=mkP (T:=T) [⟨[(0,.s),(4,.own 0),(5,.i .i64),(6,.i .i64),(7,.i .i64)],[.row 5 true],[]⟩] [⟨.normal,⟨[(0,.s),(4,.own 0),(5,.i .i64),(6,.i .i64),(7,.i .i64),(32,.b)],[.row 5 true],[]⟩⟩]
theorem p_words_unhex_5_ok:PieceOk p_words_unhex_5:=mkP_ok _ _
theorem p_words_unhex_5_ct(κ:Nat)(m:Int):CutOk Tryz.prog C (G m) Tryz.f56.ntmps 0 (pieceOf (.reg 8) (getBody Tryz.f56)) (p_words_unhex_5.cut (gcN 0 [0,4,5,6,7]) (cur _ (words_unhex.v5 κ))):=
 Piece.join p_words_unhex_5_ok C_ok mixed (gam56_ok κ m) gcN_ok xx16_ok (cut:=noCut) (X:=xx16) (cuts_by (l:=[]) (by kernel_rfl) (all_nil)) (fun s=>by kernel_rfl)
def cc_words_unhex_6(κ:Nat):Cut T:=p_words_unhex_5.cut (gcN 0 [0,4,5,6,7]) (cur _ (words_unhex.v5 κ))
theorem cc_words_unhex_6_ok(κ:Nat)(m:Int):CutOk Tryz.prog C (G m) Tryz.f56.ntmps 0 (pieceOf (.reg 8) (getBody Tryz.f56)) (cc_words_unhex_6 κ):=p_words_unhex_5_ct κ m
def ct_words_unhex_6(κ:Nat):Key→Option (Cut T):=addCut noCut (.reg 8) (cc_words_unhex_6 κ)
def p_words_unhex_4:=mkP (T:=T) [⟨[(0,.s),(4,.own 0),(5,.i .i64)],[.row 5 true],[]⟩] [⟨.normal,⟨[(4,.own 0)],[.row 5 true],[]⟩⟩,⟨.ret,⟨[(2,.cap0),(3,.b)],[],[]⟩⟩]
theorem p_words_unhex_4_ok:PieceOk p_words_unhex_4:=mkP_ok _ _
theorem p_words_unhex_4_ct(κ:Nat)(m:Int):CutOk Tryz.prog C (G m) Tryz.f56.ntmps 0 (pieceOf (.blk 0) (getBody Tryz.f56)) (p_words_unhex_4.cut nn3 (words_unhex.l4 κ κ)):=
 Piece.loop p_words_unhex_4_ok C_ok mixed (gam56_ok κ m) nn3_ok xx17_ok (cut:=(ct_words_unhex_6 κ)) (X:=xx17) (id:=0) (body:=bodyOf (pieceOf (.blk 0) (getBody Tryz.f56))) (cuts_by (l:=[(pieceOf (.reg 8) (getBody Tryz.f56),cc_words_unhex_6 κ)]) (by kernel_rfl) (all_cons (cc_words_unhex_6_ok κ m) (all_nil))) (f:=words_unhex.l4 κ) (fun s=>by kernel_rfl) (fun k s=>by kernel_rfl) κ
def cc_words_unhex_7(κ:Nat):Cut T:=p_words_unhex_4.cut nn3 (words_unhex.l4 κ κ)
theorem cc_words_unhex_7_ok(κ:Nat)(m:Int):CutOk Tryz.prog C (G m) Tryz.f56.ntmps 0 (pieceOf (.blk 0) (getBody Tryz.f56)) (cc_words_unhex_7 κ):=p_words_unhex_4_ct κ m
def ct_words_unhex_7(κ:Nat):Key→Option (Cut T):=addCut noCut (.blk 0) (cc_words_unhex_7 κ)
def sp_words_unhex:=mkS (T:=T) [.s] [] [⟨false,.tup [.own 0,.b],[.row 5 true]⟩]
theorem sp_words_unhex_ok:SpecOk sp_words_unhex:=mkS_ok _ _ _
theorem ok_words_unhex(κ:Nat)(m:Int):EOk Tryz.prog C (G m) 56 (sp_words_unhex.entry (fun a0=>words_unhex κ a0)):=
 Spec.ok sp_words_unhex_ok C_ok mixed (gam56_ok κ m) (cut:=(ct_words_unhex_7 κ)) (NR:=(andN (promS 0 [0] 5) (gcN 0 [0]))) (NP:=(gcN 0 [0])) (nB:=0) Tryz.func56 (c:=(getBody Tryz.f56)) (by kernel_rfl) (by kernel_rfl) (fun i=>by kernel_rfl) (andN_ok promS_ok gcN_ok) gcN_ok (cuts_by (l:=[(pieceOf (.blk 0) (getBody Tryz.f56),cc_words_unhex_7 κ)]) (by kernel_rfl) (all_cons (cc_words_unhex_7_ok κ m) (all_nil))) (fun i=>by kernel_rfl)
noncomputable def gam57(κ:Nat):Gam T:=(gam56 κ).addS 56 sp_words_unhex (fun a0=>words_unhex κ a0)
theorem gam57_ok(κ:Nat)(m:Int):GOk Tryz.prog C (G m) (gam57 κ):=(gam56_ok κ m).addS (ok_words_unhex κ m)
def sp_words_read_10:=mkS (T:=T) [.ptr 0 0,.ifc 88 (.agg []),.s] kk26 [⟨false,.b,[.cells 26 none [.i .i64,.i .i64,.sl 55,.s,.i .u64,.b,.b,.s,.i .u64,.i .u64,.own 1],.row 5 true]⟩]
theorem sp_words_read_10_ok:SpecOk sp_words_read_10:=mkS_ok _ _ _
theorem ok_words_read_10(κ:Nat)(m:Int):EOk Tryz.prog C (G m) 36 (sp_words_read_10.entry (cur _ (words_read_10 κ))):=
 Spec.ok sp_words_read_10_ok C_ok mixed (gam57_ok κ m) (cut:=noCut) (NR:=(gcN 1 [0])) (NP:=(gcN 1 [0])) (nB:=1) Tryz.func36 (c:=(getBody Tryz.f36)) (by kernel_rfl) (by kernel_rfl) (fun i=>by kernel_rfl) gcN_ok gcN_ok (cuts_by (l:=[]) (by kernel_rfl) (all_nil)) (fun i=>by kernel_rfl)
noncomputable def gam58(κ:Nat):Gam T:=(gam57 κ).addS 36 sp_words_read_10 (cur _ (words_read_10 κ))
theorem gam58_ok(κ:Nat)(m:Int):GOk Tryz.prog C (G m) (gam58 κ):=(gam57_ok κ m).addS (ok_words_read_10 κ m)
def sp_words_read_11:=mkS (T:=T) [.ptr 0 0,.ifc 87 (.agg []),.s] kk26 [⟨false,.b,[.cells 26 none [.i .i64,.i .i64,.sl 55,.s,.i .u64,.b,.b,.s,.i .u64,.i .u64,.own 1],.row 5 true]⟩]
theorem sp_words_read_11_ok:SpecOk sp_words_read_11:=mkS_ok _ _ _
theorem ok_words_read_11(κ:Nat)(m:Int):EOk Tryz.prog C (G m) 36 (sp_words_read_11.entry (cur _ (words_read_11 κ))):=
 Spec.ok sp_words_read_11_ok C_ok mixed (gam58_ok κ m) (cut:=noCut) (NR:=(gcN 1 [0])) (NP:=(gcN 1 [0])) (nB:=1) Tryz.func36 (c:=(getBody Tryz.f36)) (by kernel_rfl) (by kernel_rfl) (fun i=>by kernel_rfl) gcN_ok gcN_ok (cuts_by (l:=[]) (by kernel_rfl) (all_nil)) (fun i=>by kernel_rfl)
noncomputable def gam59(κ:Nat):Gam T:=(gam58 κ).addS 36 sp_words_read_11 (cur _ (words_read_11 κ))
theorem gam59_ok(κ:Nat)(m:Int):GOk Tryz.prog C (G m) (gam59 κ):=(gam58_ok κ m).addS (ok_words_read_11 κ m)
def sp_words_read_12:=mkS (T:=T) [.ptr 0 0,.ifc 86 (.agg [.s,.s,.fn 42 [] []]),.s] kk26 [⟨false,.b,kk26⟩]
theorem sp_words_read_12_ok:SpecOk sp_words_read_12:=mkS_ok _ _ _
theorem ok_words_read_12(κ:Nat)(m:Int):EOk Tryz.prog C (G m) 36 (sp_words_read_12.entry (cur _ (words_read_12 κ))):=
 Spec.ok sp_words_read_12_ok C_ok mixed (gam59_ok κ m) (cut:=noCut) (NR:=(gcN 1 [0])) (NP:=(gcN 1 [0])) (nB:=1) Tryz.func36 (c:=(getBody Tryz.f36)) (by kernel_rfl) (by kernel_rfl) (fun i=>by kernel_rfl) gcN_ok gcN_ok (cuts_by (l:=[]) (by kernel_rfl) (all_nil)) (fun i=>by kernel_rfl)
noncomputable def gam60(κ:Nat):Gam T:=(gam59 κ).addS 36 sp_words_read_12 (cur _ (words_read_12 κ))
theorem gam60_ok(κ:Nat)(m:Int):GOk Tryz.prog C (G m) (gam60 κ):=(gam59_ok κ m).addS (ok_words_read_12 κ m)
def sp_words_read_13:=mkS (T:=T) [.ptr 0 0,.ifc 80 (.agg []),.s] kk26 [⟨false,.b,kk26⟩]
theorem sp_words_read_13_ok:SpecOk sp_words_read_13:=mkS_ok _ _ _
theorem ok_words_read_13(κ:Nat)(m:Int):EOk Tryz.prog C (G m) 36 (sp_words_read_13.entry (cur _ (words_read_13 κ))):=
 Spec.ok sp_words_read_13_ok C_ok mixed (gam60_ok κ m) (cut:=noCut) (NR:=(gcN 1 [0])) (NP:=(gcN 1 [0])) (nB:=1) Tryz.func36 (c:=(getBody Tryz.f36)) (by kernel_rfl) (by kernel_rfl) (fun i=>by kernel_rfl) gcN_ok gcN_ok (cuts_by (l:=[]) (by kernel_rfl) (all_nil)) (fun i=>by kernel_rfl)
noncomputable def gam61(κ:Nat):Gam T:=(gam60 κ).addS 36 sp_words_read_13 (cur _ (words_read_13 κ))
theorem gam61_ok(κ:Nat)(m:Int):GOk Tryz.prog C (G m) (gam61 κ):=(gam60_ok κ m).addS (ok_words_read_13 κ m)
def p_words_parse_0:=mkP (T:=T) [⟨[(0,.i .i64),(1,.s),(4,.ptr 0 0),(6,.ptr 1 0),(7,.cap0),(21,.cap0),(22,.lit .i64 0),(23,.lit .i64 0)],kk38,[]⟩] [⟨(.exit 0),⟨[(4,.ptr 0 0),(6,.ptr 1 0)],kk38,[]⟩⟩]
theorem p_words_parse_0_ok:PieceOk p_words_parse_0:=mkP_ok _ _
theorem p_words_parse_0_ct(κ:Nat)(m:Int):CutOk Tryz.prog C (G m) Tryz.f18.ntmps 0 (bodyOf (pieceOf (.blk 0) (getBody Tryz.f18))) (p_words_parse_0.cut nn4 (cur _ (words_parse.v0 κ))):=
 Piece.join p_words_parse_0_ok C_ok mixed (gam45_ok κ m) nn4_ok xx18_ok (cut:=noCut) (X:=xx18) (cuts_by (l:=[]) (by kernel_rfl) (all_nil)) (fun s=>by kernel_rfl)
def p_words_parse_1:=mkP (T:=T) [⟨[(0,.i .i64),(1,.s),(4,.ptr 0 0),(6,.ptr 1 0),(7,.slc 2 0 2 2),(21,.slc 2 0 2 2),(22,.lit .i64 2),(23,.lit .i64 0)],kk43,[]⟩] [⟨.normal,⟨[(0,.i .i64),(1,.s),(4,.ptr 0 0),(6,.ptr 1 0),(7,.slc 2 0 2 2),(21,.slc 2 0 2 2),(22,.lit .i64 2),(23,.lit .i64 1)],kk43,[]⟩⟩,⟨.ret,⟨[(4,.ptr 0 0),(5,.b)],kk25,[]⟩⟩,⟨(.exit 0),⟨[(4,.ptr 0 0),(6,.ptr 1 0)],kk38,[]⟩⟩]
theorem p_words_parse_1_ok:PieceOk p_words_parse_1:=mkP_ok _ _
theorem p_words_parse_1_ct(κ:Nat)(m:Int):CutOk Tryz.prog C (G m) Tryz.f18.ntmps 0 (bodyOf (pieceOf (.blk 0) (getBody Tryz.f18))) (p_words_parse_1.cut nn4 (cur _ (words_parse.v1 κ))):=
 Piece.join p_words_parse_1_ok C_ok mixed (gam48_ok κ m) nn4_ok xx18_ok (cut:=noCut) (X:=xx18) (cuts_by (l:=[]) (by kernel_rfl) (all_nil)) (fun s=>by kernel_rfl)
def p_words_parse_2:=mkP (T:=T) [⟨[(0,.i .i64),(1,.s),(4,.ptr 0 0),(6,.ptr 1 0),(7,.slc 2 0 2 2),(21,.slc 2 0 2 2),(22,.lit .i64 2),(23,.lit .i64 0)],kk45,[]⟩] [⟨.normal,⟨[(0,.i .i64),(1,.s),(4,.ptr 0 0),(6,.ptr 1 0),(7,.slc 2 0 2 2),(21,.slc 2 0 2 2),(22,.lit .i64 2),(23,.lit .i64 1)],kk45,[]⟩⟩,⟨.ret,⟨[(4,.ptr 0 0),(5,.b)],kk25,[]⟩⟩,⟨(.exit 0),⟨[(4,.ptr 0 0),(6,.ptr 1 0)],kk38,[]⟩⟩]
theorem p_words_parse_2_ok:PieceOk p_words_parse_2:=mkP_ok _ _
theorem p_words_parse_2_ct(κ:Nat)(m:Int):CutOk Tryz.prog C (G m) Tryz.f18.ntmps 0 (bodyOf (pieceOf (.blk 0) (getBody Tryz.f18))) (p_words_parse_2.cut nn4 (cur _ (words_parse.v2 κ))):=
 Piece.join p_words_parse_2_ok C_ok mixed (gam48_ok κ m) nn4_ok xx18_ok (cut:=noCut) (X:=xx18) (cuts_by (l:=[]) (by kernel_rfl) (all_nil)) (fun s=>by kernel_rfl)
def p_words_parse_3:=mkP (T:=T) [⟨[(0,.i .i64),(1,.s),(4,.ptr 0 0),(6,.ptr 1 0),(7,.slc 2 0 4 4),(21,.slc 2 0 4 4),(22,.lit .i64 4),(23,.lit .i64 0)],kk55,[]⟩] [⟨.normal,⟨[(0,.i .i64),(1,.s),(4,.ptr 0 0),(6,.ptr 1 0),(7,.slc 2 0 4 4),(21,.slc 2 0 4 4),(22,.lit .i64 4),(23,.lit .i64 1)],kk55,[]⟩⟩,⟨.ret,⟨[(4,.ptr 0 0),(5,.b)],kk25,[]⟩⟩]
theorem p_words_parse_3_ok:PieceOk p_words_parse_3:=mkP_ok _ _
theorem p_words_parse_3_ct(κ:Nat)(m:Int):CutOk Tryz.prog C (G m) Tryz.f18.ntmps 0 (bodyOf (pieceOf (.blk 0) (getBody Tryz.f18))) (p_words_parse_3.cut nn4 (cur _ (words_parse.v3 κ))):=
 Piece.join p_words_parse_3_ok C_ok mixed (gam48_ok κ m) nn4_ok xx18_ok (cut:=noCut) (X:=xx18) (cuts_by (l:=[]) (by kernel_rfl) (all_nil)) (fun s=>by kernel_rfl)
def p_words_parse_4:=mkP (T:=T) [⟨[(0,.i .i64),(1,.s),(4,.ptr 0 0),(6,.ptr 1 0),(7,.slc 2 0 4 4),(21,.slc 2 0 4 4),(22,.lit .i64 4),(23,.lit .i64 0)],kk52,[]⟩] [⟨.normal,⟨[(0,.i .i64),(1,.s),(4,.ptr 0 0),(6,.ptr 1 0),(7,.slc 2 0 4 4),(21,.slc 2 0 4 4),(22,.lit .i64 4),(23,.lit .i64 1)],kk52,[]⟩⟩,⟨.ret,⟨[(4,.ptr 0 0),(5,.b)],kk25,[]⟩⟩]
theorem p_words_parse_4_ok:PieceOk p_words_parse_4:=mkP_ok _ _
theorem p_words_parse_4_ct(κ:Nat)(m:Int):CutOk Tryz.prog C (G m) Tryz.f18.ntmps 0 (bodyOf (pieceOf (.blk 0) (getBody Tryz.f18))) (p_words_parse_4.cut nn4 (cur _ (words_parse.v4 κ))):=
 Piece.join p_words_parse_4_ok C_ok mixed (gam49_ok κ m) nn4_ok xx18_ok (cut:=noCut) (X:=xx18) (cuts_by (l:=[]) (by kernel_rfl) (all_nil)) (fun s=>by kernel_rfl)
def p_words_parse_5:=mkP (T:=T) [⟨[(0,.i .i64),(1,.s),(4,.ptr 0 0),(6,.ptr 1 0),(7,.slc 2 0 4 4),(21,.slc 2 0 4 4),(22,.lit .i64 4),(23,.lit .i64 0)],kk53,[]⟩] [⟨.normal,⟨[(0,.i .i64),(1,.s),(4,.ptr 0 0),(6,.ptr 1 0),(7,.slc 2 0 4 4),(21,.slc 2 0 4 4),(22,.lit .i64 4),(23,.lit .i64 1)],kk53,[]⟩⟩,⟨.ret,⟨[(4,.ptr 0 0),(5,.b)],kk25,[]⟩⟩]
theorem p_words_parse_5_ok:PieceOk p_words_parse_5:=mkP_ok _ _
theorem p_words_parse_5_ct(κ:Nat)(m:Int):CutOk Tryz.prog C (G m) Tryz.f18.ntmps 0 (bodyOf (pieceOf (.blk 0) (getBody Tryz.f18))) (p_words_parse_5.cut nn4 (cur _ (words_parse.v5 κ))):=
 Piece.join p_words_parse_5_ok C_ok mixed (gam49_ok κ m) nn4_ok xx18_ok (cut:=noCut) (X:=xx18) (cuts_by (l:=[]) (by kernel_rfl) (all_nil)) (fun s=>by kernel_rfl)
def p_words_parse_6:=mkP (T:=T) [⟨[(0,.i .i64),(1,.s),(4,.ptr 0 0),(6,.ptr 1 0),(7,.slc 2 0 5 5),(21,.slc 2 0 5 5),(22,.lit .i64 5),(23,.lit .i64 0)],kk56,[]⟩] [⟨.normal,⟨[(0,.i .i64),(1,.s),(4,.ptr 0 0),(6,.ptr 1 0),(7,.slc 2 0 5 5),(21,.slc 2 0 5 5),(22,.lit .i64 5),(23,.lit .i64 1)],kk56,[]⟩⟩,⟨.ret,⟨[(4,.ptr 0 0),(5,.b)],kk25,[]⟩⟩]
theorem p_words_parse_6_ok:PieceOk p_words_parse_6:=mkP_ok _ _
theorem p_words_parse_6_ct(κ:Nat)(m:Int):CutOk Tryz.prog C (G m) Tryz.f18.ntmps 0 (bodyOf (pieceOf (.blk 0) (getBody Tryz.f18))) (p_words_parse_6.cut nn4 (cur _ (words_parse.v6 κ))):=
 Piece.join p_words_parse_6_ok C_ok mixed (gam49_ok κ m) nn4_ok xx18_ok (cut:=noCut) (X:=xx18) (cuts_by (l:=[]) (by kernel_rfl) (all_nil)) (fun s=>by kernel_rfl)
def p_words_parse_7:=mkP (T:=T) [⟨[(0,.i .i64),(1,.s),(4,.ptr 0 0),(6,.ptr 1 0),(7,.slc 2 0 3 3),(21,.slc 2 0 3 3),(22,.lit .i64 3),(23,.lit .i64 0)],kk49,[]⟩] [⟨.normal,⟨[(0,.i .i64),(1,.s),(4,.ptr 0 0),(6,.ptr 1 0),(7,.slc 2 0 3 3),(21,.slc 2 0 3 3),(22,.lit .i64 3),(23,.lit .i64 1)],kk49,[]⟩⟩,⟨.ret,⟨[(4,.ptr 0 0),(5,.b)],kk25,[]⟩⟩]
theorem p_words_parse_7_ok:PieceOk p_words_parse_7:=mkP_ok _ _
theorem p_words_parse_7_ct(κ:Nat)(m:Int):CutOk Tryz.prog C (G m) Tryz.f18.ntmps 0 (bodyOf (pieceOf (.blk 0) (getBody Tryz.f18))) (p_words_parse_7.cut nn4 (cur _ (words_parse.v7 κ))):=
 Piece.join p_words_parse_7_ok C_ok mixed (gam49_ok κ m) nn4_ok xx18_ok (cut:=noCut) (X:=xx18) (cuts_by (l:=[]) (by kernel_rfl) (all_nil)) (fun s=>by kernel_rfl)
def p_words_parse_8:=mkP (T:=T) [⟨[(0,.i .i64),(1,.s),(4,.ptr 0 0),(6,.ptr 1 0),(7,.slc 2 0 3 3),(21,.slc 2 0 3 3),(22,.lit .i64 3),(23,.lit .i64 0)],kk46,[]⟩] [⟨.normal,⟨[(0,.i .i64),(1,.s),(4,.ptr 0 0),(6,.ptr 1 0),(7,.slc 2 0 3 3),(21,.slc 2 0 3 3),(22,.lit .i64 3),(23,.lit .i64 1)],kk46,[]⟩⟩,⟨.ret,⟨[(4,.ptr 0 0),(5,.b)],kk25,[]⟩⟩]
theorem p_words_parse_8_ok:PieceOk p_words_parse_8:=mkP_ok _ _
theorem p_words_parse_8_ct(κ:Nat)(m:Int):CutOk Tryz.prog C (G m) Tryz.f18.ntmps 0 (bodyOf (pieceOf (.blk 0) (getBody Tryz.f18))) (p_words_parse_8.cut nn4 (cur _ (words_parse.v8 κ))):=
 Piece.join p_words_parse_8_ok C_ok mixed (gam49_ok κ m) nn4_ok xx18_ok (cut:=noCut) (X:=xx18) (cuts_by (l:=[]) (by kernel_rfl) (all_nil)) (fun s=>by kernel_rfl)
def p_words_parse_9:=mkP (T:=T) [⟨[(0,.i .i64),(1,.s),(4,.ptr 0 0),(6,.ptr 1 0),(7,.slc 2 0 3 3),(21,.slc 2 0 3 3),(22,.lit .i64 3),(23,.lit .i64 0)],kk47,[]⟩] [⟨.normal,⟨[(0,.i .i64),(1,.s),(4,.ptr 0 0),(6,.ptr 1 0),(7,.slc 2 0 3 3),(21,.slc 2 0 3 3),(22,.lit .i64 3),(23,.lit .i64 1)],kk47,[]⟩⟩,⟨.ret,⟨[(4,.ptr 0 0),(5,.b)],kk25,[]⟩⟩]
theorem p_words_parse_9_ok:PieceOk p_words_parse_9:=mkP_ok _ _
theorem p_words_parse_9_ct(κ:Nat)(m:Int):CutOk Tryz.prog C (G m) Tryz.f18.ntmps 0 (bodyOf (pieceOf (.blk 0) (getBody Tryz.f18))) (p_words_parse_9.cut nn4 (cur _ (words_parse.v9 κ))):=
 Piece.join p_words_parse_9_ok C_ok mixed (gam49_ok κ m) nn4_ok xx18_ok (cut:=noCut) (X:=xx18) (cuts_by (l:=[]) (by kernel_rfl) (all_nil)) (fun s=>by kernel_rfl)
def p_words_parse_10:=mkP (T:=T) [⟨[(0,.i .i64),(1,.s),(4,.ptr 0 0),(6,.ptr 1 0),(7,.slc 2 0 4 4),(21,.slc 2 0 4 4),(22,.lit .i64 4),(23,.lit .i64 0)],kk54,[]⟩] [⟨.normal,⟨[(0,.i .i64),(1,.s),(4,.ptr 0 0),(6,.ptr 1 0),(7,.slc 2 0 4 4),(21,.slc 2 0 4 4),(22,.lit .i64 4),(23,.lit .i64 1)],kk54,[]⟩⟩,⟨.ret,⟨[(4,.ptr 0 0),(5,.b)],kk25,[]⟩⟩]
theorem p_words_parse_10_ok:PieceOk p_words_parse_10:=mkP_ok _ _
theorem p_words_parse_10_ct(κ:Nat)(m:Int):CutOk Tryz.prog C (G m) Tryz.f18.ntmps 0 (bodyOf (pieceOf (.blk 0) (getBody Tryz.f18))) (p_words_parse_10.cut nn4 (cur _ (words_parse.v10 κ))):=
 Piece.join p_words_parse_10_ok C_ok mixed (gam49_ok κ m) nn4_ok xx18_ok (cut:=noCut) (X:=xx18) (cuts_by (l:=[]) (by kernel_rfl) (all_nil)) (fun s=>by kernel_rfl)
def p_words_parse_11:=mkP (T:=T) [⟨[(0,.i .i64),(1,.s),(4,.ptr 0 0),(6,.ptr 1 0),(7,.slc 2 0 2 2),(21,.slc 2 0 2 2),(22,.lit .i64 2),(23,.lit .i64 0)],kk44,[]⟩] [⟨.normal,⟨[(0,.i .i64),(1,.s),(4,.ptr 0 0),(6,.ptr 1 0),(7,.slc 2 0 2 2),(21,.slc 2 0 2 2),(22,.lit .i64 2),(23,.lit .i64 1)],kk44,[]⟩⟩,⟨.ret,⟨[(4,.ptr 0 0),(5,.b)],kk25,[]⟩⟩]
theorem p_words_parse_11_ok:PieceOk p_words_parse_11:=mkP_ok _ _
theorem p_words_parse_11_ct(κ:Nat)(m:Int):CutOk Tryz.prog C (G m) Tryz.f18.ntmps 0 (bodyOf (pieceOf (.blk 0) (getBody Tryz.f18))) (p_words_parse_11.cut nn4 (cur _ (words_parse.v11 κ))):=
 Piece.join p_words_parse_11_ok C_ok mixed (gam49_ok κ m) nn4_ok xx18_ok (cut:=noCut) (X:=xx18) (cuts_by (l:=[]) (by kernel_rfl) (all_nil)) (fun s=>by kernel_rfl)
def p_words_parse_12:=mkP (T:=T) [⟨[(0,.i .i64),(1,.s),(4,.ptr 0 0),(6,.ptr 1 0),(7,.slc 2 0 2 2),(21,.slc 2 0 2 2),(22,.lit .i64 2),(23,.lit .i64 1)],kk43,[]⟩] [⟨.normal,⟨[(0,.i .i64),(1,.s),(4,.ptr 0 0),(6,.ptr 1 0),(7,.slc 2 0 2 2),(21,.slc 2 0 2 2),(22,.lit .i64 2),(23,.lit .i64 2)],kk43,[]⟩⟩]
theorem p_words_parse_12_ok:PieceOk p_words_parse_12:=mkP_ok _ _
theorem p_words_parse_12_ct(κ:Nat)(m:Int):CutOk Tryz.prog C (G m) Tryz.f18.ntmps 0 (bodyOf (pieceOf (.blk 0) (getBody Tryz.f18))) (p_words_parse_12.cut nn4 (cur _ (words_parse.v12 κ))):=
 Piece.join p_words_parse_12_ok C_ok mixed (gam50_ok κ m) nn4_ok xx18_ok (cut:=noCut) (X:=xx18) (cuts_by (l:=[]) (by kernel_rfl) (all_nil)) (fun s=>by kernel_rfl)
def p_words_parse_13:=mkP (T:=T) [⟨[(0,.i .i64),(1,.s),(4,.ptr 0 0),(6,.ptr 1 0),(7,.slc 2 0 2 2),(21,.slc 2 0 2 2),(22,.lit .i64 2),(23,.lit .i64 1)],kk45,[]⟩] [⟨.normal,⟨[(0,.i .i64),(1,.s),(4,.ptr 0 0),(6,.ptr 1 0),(7,.slc 2 0 2 2),(21,.slc 2 0 2 2),(22,.lit .i64 2),(23,.lit .i64 2)],kk45,[]⟩⟩,⟨.ret,⟨[(4,.ptr 0 0),(5,.b)],kk25,[]⟩⟩]
theorem p_words_parse_13_ok:PieceOk p_words_parse_13:=mkP_ok _ _
theorem p_words_parse_13_ct(κ:Nat)(m:Int):CutOk Tryz.prog C (G m) Tryz.f18.ntmps 0 (bodyOf (pieceOf (.blk 0) (getBody Tryz.f18))) (p_words_parse_13.cut nn4 (cur _ (words_parse.v13 κ))):=
 Piece.join p_words_parse_13_ok C_ok mixed (gam51_ok κ m) nn4_ok xx18_ok (cut:=noCut) (X:=xx18) (cuts_by (l:=[]) (by kernel_rfl) (all_nil)) (fun s=>by kernel_rfl)
def p_words_parse_14:=mkP (T:=T) [⟨[(0,.i .i64),(1,.s),(4,.ptr 0 0),(6,.ptr 1 0),(7,.slc 2 0 4 4),(21,.slc 2 0 4 4),(22,.lit .i64 4),(23,.lit .i64 1)],kk55,[]⟩] [⟨.normal,⟨[(0,.i .i64),(1,.s),(4,.ptr 0 0),(6,.ptr 1 0),(7,.slc 2 0 4 4),(21,.slc 2 0 4 4),(22,.lit .i64 4),(23,.lit .i64 2)],kk55,[]⟩⟩,⟨.ret,⟨[(4,.ptr 0 0),(5,.b)],kk25,[]⟩⟩]
theorem p_words_parse_14_ok:PieceOk p_words_parse_14:=mkP_ok _ _
theorem p_words_parse_14_ct(κ:Nat)(m:Int):CutOk Tryz.prog C (G m) Tryz.f18.ntmps 0 (bodyOf (pieceOf (.blk 0) (getBody Tryz.f18))) (p_words_parse_14.cut nn4 (cur _ (words_parse.v14 κ))):=
 Piece.join p_words_parse_14_ok C_ok mixed (gam51_ok κ m) nn4_ok xx18_ok (cut:=noCut) (X:=xx18) (cuts_by (l:=[]) (by kernel_rfl) (all_nil)) (fun s=>by kernel_rfl)
def p_words_parse_15:=mkP (T:=T) [⟨[(0,.i .i64),(1,.s),(4,.ptr 0 0),(6,.ptr 1 0),(7,.slc 2 0 4 4),(21,.slc 2 0 4 4),(22,.lit .i64 4),(23,.lit .i64 1)],kk52,[]⟩] [⟨.normal,⟨[(0,.i .i64),(1,.s),(4,.ptr 0 0),(6,.ptr 1 0),(7,.slc 2 0 4 4),(21,.slc 2 0 4 4),(22,.lit .i64 4),(23,.lit .i64 2)],kk52,[]⟩⟩,⟨.ret,⟨[(4,.ptr 0 0),(5,.b)],kk25,[]⟩⟩]
theorem p_words_parse_15_ok:PieceOk p_words_parse_15:=mkP_ok _ _
theorem p_words_parse_15_ct(κ:Nat)(m:Int):CutOk Tryz.prog C (G m) Tryz.f18.ntmps 0 (bodyOf (pieceOf (.blk 0) (getBody Tryz.f18))) (p_words_parse_15.cut nn4 (cur _ (words_parse.v15 κ))):=
 Piece.join p_words_parse_15_ok C_ok mixed (gam51_ok κ m) nn4_ok xx18_ok (cut:=noCut) (X:=xx18) (cuts_by (l:=[]) (by kernel_rfl) (all_nil)) (fun s=>by kernel_rfl)
def p_words_parse_16:=mkP (T:=T) [⟨[(0,.i .i64),(1,.s),(4,.ptr 0 0),(6,.ptr 1 0),(7,.slc 2 0 4 4),(21,.slc 2 0 4 4),(22,.lit .i64 4),(23,.lit .i64 1)],kk53,[]⟩] [⟨.normal,⟨[(0,.i .i64),(1,.s),(4,.ptr 0 0),(6,.ptr 1 0),(7,.slc 2 0 4 4),(21,.slc 2 0 4 4),(22,.lit .i64 4),(23,.lit .i64 2)],kk53,[]⟩⟩,⟨.ret,⟨[(4,.ptr 0 0),(5,.b)],kk25,[]⟩⟩]
theorem p_words_parse_16_ok:PieceOk p_words_parse_16:=mkP_ok _ _
theorem p_words_parse_16_ct(κ:Nat)(m:Int):CutOk Tryz.prog C (G m) Tryz.f18.ntmps 0 (bodyOf (pieceOf (.blk 0) (getBody Tryz.f18))) (p_words_parse_16.cut nn4 (cur _ (words_parse.v16 κ))):=
 Piece.join p_words_parse_16_ok C_ok mixed (gam51_ok κ m) nn4_ok xx18_ok (cut:=noCut) (X:=xx18) (cuts_by (l:=[]) (by kernel_rfl) (all_nil)) (fun s=>by kernel_rfl)
def p_words_parse_17:=mkP (T:=T) [⟨[(0,.i .i64),(1,.s),(4,.ptr 0 0),(6,.ptr 1 0),(7,.slc 2 0 5 5),(21,.slc 2 0 5 5),(22,.lit .i64 5),(23,.lit .i64 1)],kk56,[]⟩] [⟨.normal,⟨[(0,.i .i64),(1,.s),(4,.ptr 0 0),(6,.ptr 1 0),(7,.slc 2 0 5 5),(21,.slc 2 0 5 5),(22,.lit .i64 5),(23,.lit .i64 2)],kk56,[]⟩⟩,⟨.ret,⟨[(4,.ptr 0 0),(5,.b)],kk25,[]⟩⟩]
theorem p_words_parse_17_ok:PieceOk p_words_parse_17:=mkP_ok _ _
theorem p_words_parse_17_ct(κ:Nat)(m:Int):CutOk Tryz.prog C (G m) Tryz.f18.ntmps 0 (bodyOf (pieceOf (.blk 0) (getBody Tryz.f18))) (p_words_parse_17.cut nn4 (cur _ (words_parse.v17 κ))):=
 Piece.join p_words_parse_17_ok C_ok mixed (gam51_ok κ m) nn4_ok xx18_ok (cut:=noCut) (X:=xx18) (cuts_by (l:=[]) (by kernel_rfl) (all_nil)) (fun s=>by kernel_rfl)
def p_words_parse_18:=mkP (T:=T) [⟨[(0,.i .i64),(1,.s),(4,.ptr 0 0),(6,.ptr 1 0),(7,.slc 2 0 3 3),(21,.slc 2 0 3 3),(22,.lit .i64 3),(23,.lit .i64 1)],kk49,[]⟩] [⟨.normal,⟨[(0,.i .i64),(1,.s),(4,.ptr 0 0),(6,.ptr 1 0),(7,.slc 2 0 3 3),(21,.slc 2 0 3 3),(22,.lit .i64 3),(23,.lit .i64 2)],kk49,[]⟩⟩,⟨.ret,⟨[(4,.ptr 0 0),(5,.b)],kk25,[]⟩⟩,⟨(.exit 0),⟨[(4,.ptr 0 0),(6,.ptr 1 0)],kk38,[]⟩⟩]
theorem p_words_parse_18_ok:PieceOk p_words_parse_18:=mkP_ok _ _
theorem p_words_parse_18_ct(κ:Nat)(m:Int):CutOk Tryz.prog C (G m) Tryz.f18.ntmps 0 (bodyOf (pieceOf (.blk 0) (getBody Tryz.f18))) (p_words_parse_18.cut nn4 (cur _ (words_parse.v18 κ))):=
 Piece.join p_words_parse_18_ok C_ok mixed (gam51_ok κ m) nn4_ok xx18_ok (cut:=noCut) (X:=xx18) (cuts_by (l:=[]) (by kernel_rfl) (all_nil)) (fun s=>by kernel_rfl)
def p_words_parse_19:=mkP (T:=T) [⟨[(0,.i .i64),(1,.s),(4,.ptr 0 0),(6,.ptr 1 0),(7,.slc 2 0 3 3),(21,.slc 2 0 3 3),(22,.lit .i64 3),(23,.lit .i64 1)],kk46,[]⟩] [⟨.normal,⟨[(0,.i .i64),(1,.s),(4,.ptr 0 0),(6,.ptr 1 0),(7,.slc 2 0 3 3),(21,.slc 2 0 3 3),(22,.lit .i64 3),(23,.lit .i64 2)],kk46,[]⟩⟩,⟨.ret,⟨[(4,.ptr 0 0),(5,.b)],kk25,[]⟩⟩,⟨(.exit 0),⟨[(4,.ptr 0 0),(6,.ptr 1 0)],kk38,[]⟩⟩]
theorem p_words_parse_19_ok:PieceOk p_words_parse_19:=mkP_ok _ _
theorem p_words_parse_19_ct(κ:Nat)(m:Int):CutOk Tryz.prog C (G m) Tryz.f18.ntmps 0 (bodyOf (pieceOf (.blk 0) (getBody Tryz.f18))) (p_words_parse_19.cut nn4 (cur _ (words_parse.v19 κ))):=
 Piece.join p_words_parse_19_ok C_ok mixed (gam51_ok κ m) nn4_ok xx18_ok (cut:=noCut) (X:=xx18) (cuts_by (l:=[]) (by kernel_rfl) (all_nil)) (fun s=>by kernel_rfl)
def p_words_parse_20:=mkP (T:=T) [⟨[(0,.i .i64),(1,.s),(4,.ptr 0 0),(6,.ptr 1 0),(7,.slc 2 0 3 3),(21,.slc 2 0 3 3),(22,.lit .i64 3),(23,.lit .i64 1)],kk47,[]⟩] [⟨.normal,⟨[(0,.i .i64),(1,.s),(4,.ptr 0 0),(6,.ptr 1 0),(7,.slc 2 0 3 3),(21,.slc 2 0 3 3),(22,.lit .i64 3),(23,.lit .i64 2)],kk47,[]⟩⟩,⟨.ret,⟨[(4,.ptr 0 0),(5,.b)],kk25,[]⟩⟩,⟨(.exit 0),⟨[(4,.ptr 0 0),(6,.ptr 1 0)],kk38,[]⟩⟩]
theorem p_words_parse_20_ok:PieceOk p_words_parse_20:=mkP_ok _ _
theorem p_words_parse_20_ct(κ:Nat)(m:Int):CutOk Tryz.prog C (G m) Tryz.f18.ntmps 0 (bodyOf (pieceOf (.blk 0) (getBody Tryz.f18))) (p_words_parse_20.cut nn4 (cur _ (words_parse.v20 κ))):=
 Piece.join p_words_parse_20_ok C_ok mixed (gam51_ok κ m) nn4_ok xx18_ok (cut:=noCut) (X:=xx18) (cuts_by (l:=[]) (by kernel_rfl) (all_nil)) (fun s=>by kernel_rfl)
def p_words_parse_21:=mkP (T:=T) [⟨[(0,.i .i64),(1,.s),(4,.ptr 0 0),(6,.ptr 1 0),(7,.slc 2 0 4 4),(21,.slc 2 0 4 4),(22,.lit .i64 4),(23,.lit .i64 1)],kk54,[]⟩] [⟨.normal,⟨[(0,.i .i64),(1,.s),(4,.ptr 0 0),(6,.ptr 1 0),(7,.slc 2 0 4 4),(21,.slc 2 0 4 4),(22,.lit .i64 4),(23,.lit .i64 2)],kk54,[]⟩⟩,⟨.ret,⟨[(4,.ptr 0 0),(5,.b)],kk25,[]⟩⟩]
theorem p_words_parse_21_ok:PieceOk p_words_parse_21:=mkP_ok _ _
theorem p_words_parse_21_ct(κ:Nat)(m:Int):CutOk Tryz.prog C (G m) Tryz.f18.ntmps 0 (bodyOf (pieceOf (.blk 0) (getBody Tryz.f18))) (p_words_parse_21.cut nn4 (cur _ (words_parse.v21 κ))):=
 Piece.join p_words_parse_21_ok C_ok mixed (gam51_ok κ m) nn4_ok xx18_ok (cut:=noCut) (X:=xx18) (cuts_by (l:=[]) (by kernel_rfl) (all_nil)) (fun s=>by kernel_rfl)
def p_words_parse_22:=mkP (T:=T) [⟨[(0,.i .i64),(1,.s),(4,.ptr 0 0),(6,.ptr 1 0),(7,.slc 2 0 2 2),(21,.slc 2 0 2 2),(22,.lit .i64 2),(23,.lit .i64 1)],kk44,[]⟩] [⟨.normal,⟨[(0,.i .i64),(1,.s),(4,.ptr 0 0),(6,.ptr 1 0),(7,.slc 2 0 2 2),(21,.slc 2 0 2 2),(22,.lit .i64 2),(23,.lit .i64 2)],kk44,[]⟩⟩,⟨.ret,⟨[(4,.ptr 0 0),(5,.b)],kk25,[]⟩⟩]
theorem p_words_parse_22_ok:PieceOk p_words_parse_22:=mkP_ok _ _
theorem p_words_parse_22_ct(κ:Nat)(m:Int):CutOk Tryz.prog C (G m) Tryz.f18.ntmps 0 (bodyOf (pieceOf (.blk 0) (getBody Tryz.f18))) (p_words_parse_22.cut nn4 (cur _ (words_parse.v22 κ))):=
 Piece.join p_words_parse_22_ok C_ok mixed (gam51_ok κ m) nn4_ok xx18_ok (cut:=noCut) (X:=xx18) (cuts_by (l:=[]) (by kernel_rfl) (all_nil)) (fun s=>by kernel_rfl)
def p_words_parse_23:=mkP (T:=T) [⟨[(0,.i .i64),(1,.s),(4,.ptr 0 0),(6,.ptr 1 0),(7,.slc 2 0 2 2),(21,.slc 2 0 2 2),(22,.lit .i64 2),(23,.lit .i64 2)],kk43,[]⟩] [⟨(.exit 0),⟨[(4,.ptr 0 0),(6,.ptr 1 0)],kk38,[]⟩⟩]
theorem p_words_parse_23_ok:PieceOk p_words_parse_23:=mkP_ok _ _
theorem p_words_parse_23_ct(κ:Nat)(m:Int):CutOk Tryz.prog C (G m) Tryz.f18.ntmps 0 (bodyOf (pieceOf (.blk 0) (getBody Tryz.f18))) (p_words_parse_23.cut nn4 (cur _ (words_parse.v23 κ))):=
 Piece.join p_words_parse_23_ok C_ok mixed (gam51_ok κ m) nn4_ok xx18_ok (cut:=noCut) (X:=xx18) (cuts_by (l:=[]) (by kernel_rfl) (all_nil)) (fun s=>by kernel_rfl)
def p_words_parse_24:=mkP (T:=T) [⟨[(0,.i .i64),(1,.s),(4,.ptr 0 0),(6,.ptr 1 0),(7,.slc 2 0 2 2),(21,.slc 2 0 2 2),(22,.lit .i64 2),(23,.lit .i64 2)],kk45,[]⟩] [⟨(.exit 0),⟨[(4,.ptr 0 0),(6,.ptr 1 0)],kk38,[]⟩⟩]
theorem p_words_parse_24_ok:PieceOk p_words_parse_24:=mkP_ok _ _
theorem p_words_parse_24_ct(κ:Nat)(m:Int):CutOk Tryz.prog C (G m) Tryz.f18.ntmps 0 (bodyOf (pieceOf (.blk 0) (getBody Tryz.f18))) (p_words_parse_24.cut nn4 (cur _ (words_parse.v24 κ))):=
 Piece.join p_words_parse_24_ok C_ok mixed (gam51_ok κ m) nn4_ok xx18_ok (cut:=noCut) (X:=xx18) (cuts_by (l:=[]) (by kernel_rfl) (all_nil)) (fun s=>by kernel_rfl)
def p_words_parse_25:=mkP (T:=T) [⟨[(0,.i .i64),(1,.s),(4,.ptr 0 0),(6,.ptr 1 0),(7,.slc 2 0 4 4),(21,.slc 2 0 4 4),(22,.lit .i64 4),(23,.lit .i64 2)],kk55,[]⟩] [⟨.normal,⟨[(0,.i .i64),(1,.s),(4,.ptr 0 0),(6,.ptr 1 0),(7,.slc 2 0 4 4),(21,.slc 2 0 4 4),(22,.lit .i64 4),(23,.lit .i64 3)],kk55,[]⟩⟩,⟨.ret,⟨[(4,.ptr 0 0),(5,.b)],kk25,[]⟩⟩]
theorem p_words_parse_25_ok:PieceOk p_words_parse_25:=mkP_ok _ _
theorem p_words_parse_25_ct(κ:Nat)(m:Int):CutOk Tryz.prog C (G m) Tryz.f18.ntmps 0 (bodyOf (pieceOf (.blk 0) (getBody Tryz.f18))) (p_words_parse_25.cut nn4 (cur _ (words_parse.v25 κ))):=
 Piece.join p_words_parse_25_ok C_ok mixed (gam52_ok κ m) nn4_ok xx18_ok (cut:=noCut) (X:=xx18) (cuts_by (l:=[]) (by kernel_rfl) (all_nil)) (fun s=>by kernel_rfl)
def p_words_parse_26:=mkP (T:=T) [⟨[(0,.i .i64),(1,.s),(4,.ptr 0 0),(6,.ptr 1 0),(7,.slc 2 0 4 4),(21,.slc 2 0 4 4),(22,.lit .i64 4),(23,.lit .i64 2)],kk52,[]⟩] [⟨.normal,⟨[(0,.i .i64),(1,.s),(4,.ptr 0 0),(6,.ptr 1 0),(7,.slc 2 0 4 4),(21,.slc 2 0 4 4),(22,.lit .i64 4),(23,.lit .i64 3)],kk52,[]⟩⟩,⟨.ret,⟨[(4,.ptr 0 0),(5,.b)],kk25,[]⟩⟩,⟨(.exit 0),⟨[(4,.ptr 0 0),(6,.ptr 1 0)],kk38,[]⟩⟩]
theorem p_words_parse_26_ok:PieceOk p_words_parse_26:=mkP_ok _ _
theorem p_words_parse_26_ct(κ:Nat)(m:Int):CutOk Tryz.prog C (G m) Tryz.f18.ntmps 0 (bodyOf (pieceOf (.blk 0) (getBody Tryz.f18))) (p_words_parse_26.cut nn4 (cur _ (words_parse.v26 κ))):=
 Piece.join p_words_parse_26_ok C_ok mixed (gam52_ok κ m) nn4_ok xx18_ok (cut:=noCut) (X:=xx18) (cuts_by (l:=[]) (by kernel_rfl) (all_nil)) (fun s=>by kernel_rfl)
def p_words_parse_27:=mkP (T:=T) [⟨[(0,.i .i64),(1,.s),(4,.ptr 0 0),(6,.ptr 1 0),(7,.slc 2 0 4 4),(21,.slc 2 0 4 4),(22,.lit .i64 4),(23,.lit .i64 2)],kk53,[]⟩] [⟨.normal,⟨[(0,.i .i64),(1,.s),(4,.ptr 0 0),(6,.ptr 1 0),(7,.slc 2 0 4 4),(21,.slc 2 0 4 4),(22,.lit .i64 4),(23,.lit .i64 3)],kk53,[]⟩⟩,⟨.ret,⟨[(4,.ptr 0 0),(5,.b)],kk25,[]⟩⟩,⟨(.exit 0),⟨[(4,.ptr 0 0),(6,.ptr 1 0)],kk38,[]⟩⟩]
theorem p_words_parse_27_ok:PieceOk p_words_parse_27:=mkP_ok _ _
theorem p_words_parse_27_ct(κ:Nat)(m:Int):CutOk Tryz.prog C (G m) Tryz.f18.ntmps 0 (bodyOf (pieceOf (.blk 0) (getBody Tryz.f18))) (p_words_parse_27.cut nn4 (cur _ (words_parse.v27 κ))):=
 Piece.join p_words_parse_27_ok C_ok mixed (gam52_ok κ m) nn4_ok xx18_ok (cut:=noCut) (X:=xx18) (cuts_by (l:=[]) (by kernel_rfl) (all_nil)) (fun s=>by kernel_rfl)
def p_words_parse_28:=mkP (T:=T) [⟨[(0,.i .i64),(1,.s),(4,.ptr 0 0),(6,.ptr 1 0),(7,.slc 2 0 5 5),(21,.slc 2 0 5 5),(22,.lit .i64 5),(23,.lit .i64 2)],kk56,[]⟩] [⟨.normal,⟨[(0,.i .i64),(1,.s),(4,.ptr 0 0),(6,.ptr 1 0),(7,.slc 2 0 5 5),(21,.slc 2 0 5 5),(22,.lit .i64 5),(23,.lit .i64 3)],kk56,[]⟩⟩,⟨.ret,⟨[(4,.ptr 0 0),(5,.b)],kk25,[]⟩⟩]
theorem p_words_parse_28_ok:PieceOk p_words_parse_28:=mkP_ok _ _
theorem p_words_parse_28_ct(κ:Nat)(m:Int):CutOk Tryz.prog C (G m) Tryz.f18.ntmps 0 (bodyOf (pieceOf (.blk 0) (getBody Tryz.f18))) (p_words_parse_28.cut nn4 (cur _ (words_parse.v28 κ))):=
 Piece.join p_words_parse_28_ok C_ok mixed (gam53_ok κ m) nn4_ok xx18_ok (cut:=noCut) (X:=xx18) (cuts_by (l:=[]) (by kernel_rfl) (all_nil)) (fun s=>by kernel_rfl)
def p_words_parse_29:=mkP (T:=T) [⟨[(0,.i .i64),(1,.s),(4,.ptr 0 0),(6,.ptr 1 0),(7,.slc 2 0 3 3),(21,.slc 2 0 3 3),(22,.lit .i64 3),(23,.lit .i64 2)],kk49,[]⟩] [⟨.normal,⟨[(0,.i .i64),(1,.s),(4,.ptr 0 0),(6,.ptr 1 0),(7,.slc 2 0 3 3),(21,.slc 2 0 3 3),(22,.lit .i64 3),(23,.lit .i64 3)],kk49,[]⟩⟩,⟨.ret,⟨[(4,.ptr 0 0),(5,.b)],kk25,[]⟩⟩]
theorem p_words_parse_29_ok:PieceOk p_words_parse_29:=mkP_ok _ _
theorem p_words_parse_29_ct(κ:Nat)(m:Int):CutOk Tryz.prog C (G m) Tryz.f18.ntmps 0 (bodyOf (pieceOf (.blk 0) (getBody Tryz.f18))) (p_words_parse_29.cut nn4 (cur _ (words_parse.v29 κ))):=
 Piece.join p_words_parse_29_ok C_ok mixed (gam53_ok κ m) nn4_ok xx18_ok (cut:=noCut) (X:=xx18) (cuts_by (l:=[]) (by kernel_rfl) (all_nil)) (fun s=>by kernel_rfl)
def p_words_parse_30:=mkP (T:=T) [⟨[(0,.i .i64),(1,.s),(4,.ptr 0 0),(6,.ptr 1 0),(7,.slc 2 0 3 3),(21,.slc 2 0 3 3),(22,.lit .i64 3),(23,.lit .i64 2)],kk46,[]⟩] [⟨.normal,⟨[(0,.i .i64),(1,.s),(4,.ptr 0 0),(6,.ptr 1 0),(7,.slc 2 0 3 3),(21,.slc 2 0 3 3),(22,.lit .i64 3),(23,.lit .i64 3)],kk46,[]⟩⟩,⟨.ret,⟨[(4,.ptr 0 0),(5,.b)],kk25,[]⟩⟩]
theorem p_words_parse_30_ok:PieceOk p_words_parse_30:=mkP_ok _ _
theorem p_words_parse_30_ct(κ:Nat)(m:Int):CutOk Tryz.prog C (G m) Tryz.f18.ntmps 0 (bodyOf (pieceOf (.blk 0) (getBody Tryz.f18))) (p_words_parse_30.cut nn4 (cur _ (words_parse.v30 κ))):=
 Piece.join p_words_parse_30_ok C_ok mixed (gam54_ok κ m) nn4_ok xx18_ok (cut:=noCut) (X:=xx18) (cuts_by (l:=[]) (by kernel_rfl) (all_nil)) (fun s=>by kernel_rfl)
def p_words_parse_31:=mkP (T:=T) [⟨[(0,.i .i64),(1,.s),(4,.ptr 0 0),(6,.ptr 1 0),(7,.slc 2 0 3 3),(21,.slc 2 0 3 3),(22,.lit .i64 3),(23,.lit .i64 2)],kk47,[]⟩] [⟨.normal,⟨[(0,.i .i64),(1,.s),(4,.ptr 0 0),(6,.ptr 1 0),(7,.slc 2 0 3 3),(21,.slc 2 0 3 3),(22,.lit .i64 3),(23,.lit .i64 3)],kk47,[]⟩⟩,⟨.ret,⟨[(4,.ptr 0 0),(5,.b)],kk25,[]⟩⟩]
theorem p_words_parse_31_ok:PieceOk p_words_parse_31:=mkP_ok _ _
theorem p_words_parse_31_ct(κ:Nat)(m:Int):CutOk Tryz.prog C (G m) Tryz.f18.ntmps 0 (bodyOf (pieceOf (.blk 0) (getBody Tryz.f18))) (p_words_parse_31.cut nn4 (cur _ (words_parse.v31 κ))):=
 Piece.join p_words_parse_31_ok C_ok mixed (gam55_ok κ m) nn4_ok xx18_ok (cut:=noCut) (X:=xx18) (cuts_by (l:=[]) (by kernel_rfl) (all_nil)) (fun s=>by kernel_rfl)
def p_words_parse_32:=mkP (T:=T) [⟨[(0,.i .i64),(1,.s),(4,.ptr 0 0),(6,.ptr 1 0),(7,.slc 2 0 4 4),(21,.slc 2 0 4 4),(22,.lit .i64 4),(23,.lit .i64 2)],kk54,[]⟩] [⟨.normal,⟨[(0,.i .i64),(1,.s),(4,.ptr 0 0),(6,.ptr 1 0),(7,.slc 2 0 4 4),(21,.slc 2 0 4 4),(22,.lit .i64 4),(23,.lit .i64 3)],kk54,[]⟩⟩,⟨.ret,⟨[(4,.ptr 0 0),(5,.b)],kk25,[]⟩⟩]
theorem p_words_parse_32_ok:PieceOk p_words_parse_32:=mkP_ok _ _
theorem p_words_parse_32_ct(κ:Nat)(m:Int):CutOk Tryz.prog C (G m) Tryz.f18.ntmps 0 (bodyOf (pieceOf (.blk 0) (getBody Tryz.f18))) (p_words_parse_32.cut nn4 (cur _ (words_parse.v32 κ))):=
 Piece.join p_words_parse_32_ok C_ok mixed (gam55_ok κ m) nn4_ok xx18_ok (cut:=noCut) (X:=xx18) (cuts_by (l:=[]) (by kernel_rfl) (all_nil)) (fun s=>by kernel_rfl)
def p_words_parse_33:=mkP (T:=T) [⟨[(0,.i .i64),(1,.s),(4,.ptr 0 0),(6,.ptr 1 0),(7,.slc 2 0 2 2),(21,.slc 2 0 2 2),(22,.lit .i64 2),(23,.lit .i64 2)],kk44,[]⟩] [⟨(.exit 0),⟨[(4,.ptr 0 0),(6,.ptr 1 0)],kk38,[]⟩⟩]
theorem p_words_parse_33_ok:PieceOk p_words_parse_33:=mkP_ok _ _
theorem p_words_parse_33_ct(κ:Nat)(m:Int):CutOk Tryz.prog C (G m) Tryz.f18.ntmps 0 (bodyOf (pieceOf (.blk 0) (getBody Tryz.f18))) (p_words_parse_33.cut nn4 (cur _ (words_parse.v33 κ))):=
 Piece.join p_words_parse_33_ok C_ok mixed (gam55_ok κ m) nn4_ok xx18_ok (cut:=noCut) (X:=xx18) (cuts_by (l:=[]) (by kernel_rfl) (all_nil)) (fun s=>by kernel_rfl)
def p_words_parse_34:=mkP (T:=T) [⟨[(0,.i .i64),(1,.s),(4,.ptr 0 0),(6,.ptr 1 0),(7,.slc 2 0 4 4),(21,.slc 2 0 4 4),(22,.lit .i64 4),(23,.lit .i64 3)],kk55,[]⟩] [⟨.normal,⟨[(0,.i .i64),(1,.s),(4,.ptr 0 0),(6,.ptr 1 0),(7,.slc 2 0 4 4),(21,.slc 2 0 4 4),(22,.lit .i64 4),(23,.lit .i64 4)],kk55,[]⟩⟩,⟨.ret,⟨[(4,.ptr 0 0),(5,.b)],kk25,[]⟩⟩]
theorem p_words_parse_34_ok:PieceOk p_words_parse_34:=mkP_ok _ _
theorem p_words_parse_34_ct(κ:Nat)(m:Int):CutOk Tryz.prog C (G m) Tryz.f18.ntmps 0 (bodyOf (pieceOf (.blk 0) (getBody Tryz.f18))) (p_words_parse_34.cut nn4 (cur _ (words_parse.v34 κ))):=
 Piece.join p_words_parse_34_ok C_ok mixed (gam56_ok κ m) nn4_ok xx18_ok (cut:=noCut) (X:=xx18) (cuts_by (l:=[]) (by kernel_rfl) (all_nil)) (fun s=>by kernel_rfl)
def p_words_parse_35:=mkP (T:=T) [⟨[(0,.i .i64),(1,.s),(4,.ptr 0 0),(6,.ptr 1 0),(7,.slc 2 0 4 4),(21,.slc 2 0 4 4),(22,.lit .i64 4),(23,.lit .i64 3)],kk52,[]⟩] [⟨.normal,⟨[(0,.i .i64),(1,.s),(4,.ptr 0 0),(6,.ptr 1 0),(7,.slc 2 0 4 4),(21,.slc 2 0 4 4),(22,.lit .i64 4),(23,.lit .i64 4)],kk52,[]⟩⟩,⟨.ret,⟨[(4,.ptr 0 0),(5,.b)],kk25,[]⟩⟩]
theorem p_words_parse_35_ok:PieceOk p_words_parse_35:=mkP_ok _ _
theorem p_words_parse_35_ct(κ:Nat)(m:Int):CutOk Tryz.prog C (G m) Tryz.f18.ntmps 0 (bodyOf (pieceOf (.blk 0) (getBody Tryz.f18))) (p_words_parse_35.cut nn4 (cur _ (words_parse.v35 κ))):=
 Piece.join p_words_parse_35_ok C_ok mixed (gam58_ok κ m) nn4_ok xx18_ok (cut:=noCut) (X:=xx18) (cuts_by (l:=[]) (by kernel_rfl) (all_nil)) (fun s=>by kernel_rfl)
def p_words_parse_36:=mkP (T:=T) [⟨[(0,.i .i64),(1,.s),(4,.ptr 0 0),(6,.ptr 1 0),(7,.slc 2 0 4 4),(21,.slc 2 0 4 4),(22,.lit .i64 4),(23,.lit .i64 3)],kk53,[]⟩] [⟨.normal,⟨[(0,.i .i64),(1,.s),(4,.ptr 0 0),(6,.ptr 1 0),(7,.slc 2 0 4 4),(21,.slc 2 0 4 4),(22,.lit .i64 4),(23,.lit .i64 4)],kk53,[]⟩⟩,⟨.ret,⟨[(4,.ptr 0 0),(5,.b)],kk25,[]⟩⟩]
theorem p_words_parse_36_ok:PieceOk p_words_parse_36:=mkP_ok _ _
theorem p_words_parse_36_ct(κ:Nat)(m:Int):CutOk Tryz.prog C (G m) Tryz.f18.ntmps 0 (bodyOf (pieceOf (.blk 0) (getBody Tryz.f18))) (p_words_parse_36.cut nn4 (cur _ (words_parse.v36 κ))):=
 Piece.join p_words_parse_36_ok C_ok mixed (gam59_ok κ m) nn4_ok xx18_ok (cut:=noCut) (X:=xx18) (cuts_by (l:=[]) (by kernel_rfl) (all_nil)) (fun s=>by kernel_rfl)
def p_words_parse_37:=mkP (T:=T) [⟨[(0,.i .i64),(1,.s),(4,.ptr 0 0),(6,.ptr 1 0),(7,.slc 2 0 5 5),(21,.slc 2 0 5 5),(22,.lit .i64 5),(23,.lit .i64 3)],kk56,[]⟩] [⟨.normal,⟨[(0,.i .i64),(1,.s),(4,.ptr 0 0),(6,.ptr 1 0),(7,.slc 2 0 5 5),(21,.slc 2 0 5 5),(22,.lit .i64 5),(23,.lit .i64 4)],kk56,[]⟩⟩,⟨.ret,⟨[(4,.ptr 0 0),(5,.b)],kk25,[]⟩⟩]
theorem p_words_parse_37_ok:PieceOk p_words_parse_37:=mkP_ok _ _
theorem p_words_parse_37_ct(κ:Nat)(m:Int):CutOk Tryz.prog C (G m) Tryz.f18.ntmps 0 (bodyOf (pieceOf (.blk 0) (getBody Tryz.f18))) (p_words_parse_37.cut nn4 (cur _ (words_parse.v37 κ))):=
 Piece.join p_words_parse_37_ok C_ok mixed (gam60_ok κ m) nn4_ok xx18_ok (cut:=noCut) (X:=xx18) (cuts_by (l:=[]) (by kernel_rfl) (all_nil)) (fun s=>by kernel_rfl)
def p_words_parse_38:=mkP (T:=T) [⟨[(0,.i .i64),(1,.s),(4,.ptr 0 0),(6,.ptr 1 0),(7,.slc 2 0 3 3),(21,.slc 2 0 3 3),(22,.lit .i64 3),(23,.lit .i64 3)],kk49,[]⟩] [⟨(.exit 0),⟨[(4,.ptr 0 0),(6,.ptr 1 0)],kk38,[]⟩⟩]
theorem p_words_parse_38_ok:PieceOk p_words_parse_38:=mkP_ok _ _
theorem p_words_parse_38_ct(κ:Nat)(m:Int):CutOk Tryz.prog C (G m) Tryz.f18.ntmps 0 (bodyOf (pieceOf (.blk 0) (getBody Tryz.f18))) (p_words_parse_38.cut nn4 (cur _ (words_parse.v38 κ))):=
 Piece.join p_words_parse_38_ok C_ok mixed (gam60_ok κ m) nn4_ok xx18_ok (cut:=noCut) (X:=xx18) (cuts_by (l:=[]) (by kernel_rfl) (all_nil)) (fun s=>by kernel_rfl)
def p_words_parse_39:=mkP (T:=T) [⟨[(0,.i .i64),(1,.s),(4,.ptr 0 0),(6,.ptr 1 0),(7,.slc 2 0 3 3),(21,.slc 2 0 3 3),(22,.lit .i64 3),(23,.lit .i64 3)],kk46,[]⟩] [⟨(.exit 0),⟨[(4,.ptr 0 0),(6,.ptr 1 0)],kk38,[]⟩⟩]
theorem p_words_parse_39_ok:PieceOk p_words_parse_39:=mkP_ok _ _
theorem p_words_parse_39_ct(κ:Nat)(m:Int):CutOk Tryz.prog C (G m) Tryz.f18.ntmps 0 (bodyOf (pieceOf (.blk 0) (getBody Tryz.f18))) (p_words_parse_39.cut nn4 (cur _ (words_parse.v39 κ))):=
 Piece.join p_words_parse_39_ok C_ok mixed (gam60_ok κ m) nn4_ok xx18_ok (cut:=noCut) (X:=xx18) (cuts_by (l:=[]) (by kernel_rfl) (all_nil)) (fun s=>by kernel_rfl)
def p_words_parse_40:=mkP (T:=T) [⟨[(0,.i .i64),(1,.s),(4,.ptr 0 0),(6,.ptr 1 0),(7,.slc 2 0 3 3),(21,.slc 2 0 3 3),(22,.lit .i64 3),(23,.lit .i64 3)],kk47,[]⟩] [⟨(.exit 0),⟨[(4,.ptr 0 0),(6,.ptr 1 0)],kk38,[]⟩⟩]
theorem p_words_parse_40_ok:PieceOk p_words_parse_40:=mkP_ok _ _
theorem p_words_parse_40_ct(κ:Nat)(m:Int):CutOk Tryz.prog C (G m) Tryz.f18.ntmps 0 (bodyOf (pieceOf (.blk 0) (getBody Tryz.f18))) (p_words_parse_40.cut nn4 (cur _ (words_parse.v40 κ))):=
 Piece.join p_words_parse_40_ok C_ok mixed (gam60_ok κ m) nn4_ok xx18_ok (cut:=noCut) (X:=xx18) (cuts_by (l:=[]) (by kernel_rfl) (all_nil)) (fun s=>by kernel_rfl)
def p_words_parse_41:=mkP (T:=T) [⟨[(0,.i .i64),(1,.s),(4,.ptr 0 0),(6,.ptr 1 0),(7,.slc 2 0 4 4),(21,.slc 2 0 4 4),(22,.lit .i64 4),(23,.lit .i64 3)],kk54,[]⟩] [⟨.normal,⟨[(0,.i .i64),(1,.s),(4,.ptr 0 0),(6,.ptr 1 0),(7,.slc 2 0 4 4),(21,.slc 2 0 4 4),(22,.lit .i64 4),(23,.lit .i64 4)],kk54,[]⟩⟩]
theorem p_words_parse_41_ok:PieceOk p_words_parse_41:=mkP_ok _ _
theorem p_words_parse_41_ct(κ:Nat)(m:Int):CutOk Tryz.prog C (G m) Tryz.f18.ntmps 0 (bodyOf (pieceOf (.blk 0) (getBody Tryz.f18))) (p_words_parse_41.cut nn4 (cur _ (words_parse.v41 κ))):=
 Piece.join p_words_parse_41_ok C_ok mixed (gam61_ok κ m) nn4_ok xx18_ok (cut:=noCut) (X:=xx18) (cuts_by (l:=[]) (by kernel_rfl) (all_nil)) (fun s=>by kernel_rfl)
def p_words_parse_42:=mkP (T:=T) [⟨[(0,.i .i64),(1,.s),(4,.ptr 0 0),(6,.ptr 1 0),(7,.slc 2 0 4 4),(21,.slc 2 0 4 4),(22,.lit .i64 4),(23,.lit .i64 4)],kk55,[]⟩] [⟨(.exit 0),⟨[(4,.ptr 0 0),(6,.ptr 1 0)],kk38,[]⟩⟩]
theorem p_words_parse_42_ok:PieceOk p_words_parse_42:=mkP_ok _ _
theorem p_words_parse_42_ct(κ:Nat)(m:Int):CutOk Tryz.prog C (G m) Tryz.f18.ntmps 0 (bodyOf (pieceOf (.blk 0) (getBody Tryz.f18))) (p_words_parse_42.cut nn4 (cur _ (words_parse.v42 κ))):=
 Piece.join p_words_parse_42_ok C_ok mixed (gam61_ok κ m) nn4_ok xx18_ok (cut:=noCut) (X:=xx18) (cuts_by (l:=[]) (by kernel_rfl) (all_nil)) (fun s=>by kernel_rfl)
def p_words_parse_43:=mkP (T:=T) [⟨[(0,.i .i64),(1,.s),(4,.ptr 0 0),(6,.ptr 1 0),(7,.slc 2 0 4 4),(21,.slc 2 0 4 4),(22,.lit .i64 4),(23,.lit .i64 4)],kk52,[]⟩] [⟨(.exit 0),⟨[(4,.ptr 0 0),(6,.ptr 1 0)],kk38,[]⟩⟩]
theorem p_words_parse_43_ok:PieceOk p_words_parse_43:=mkP_ok _ _
theorem p_words_parse_43_ct(κ:Nat)(m:Int):CutOk Tryz.prog C (G m) Tryz.f18.ntmps 0 (bodyOf (pieceOf (.blk 0) (getBody Tryz.f18))) (p_words_parse_43.cut nn4 (cur _ (words_parse.v43 κ))):=
 Piece.join p_words_parse_43_ok C_ok mixed (gam61_ok κ m) nn4_ok xx18_ok (cut:=noCut) (X:=xx18) (cuts_by (l:=[]) (by kernel_rfl) (all_nil)) (fun s=>by kernel_rfl)
def p_words_parse_44:=mkP (T:=T) [⟨[(0,.i .i64),(1,.s),(4,.ptr 0 0),(6,.ptr 1 0),(7,.slc 2 0 4 4),(21,.slc 2 0 4 4),(22,.lit .i64 4),(23,.lit .i64 4)],kk53,[]⟩] [⟨(.exit 0),⟨[(4,.ptr 0 0),(6,.ptr 1 0)],kk38,[]⟩⟩]
theorem p_words_parse_44_ok:PieceOk p_words_parse_44:=mkP_ok _ _
theorem p_words_parse_44_ct(κ:Nat)(m:Int):CutOk Tryz.prog C (G m) Tryz.f18.ntmps 0 (bodyOf (pieceOf (.blk 0) (getBody Tryz.f18))) (p_words_parse_44.cut nn4 (cur _ (words_parse.v44 κ))):=
 Piece.join p_words_parse_44_ok C_ok mixed (gam61_ok κ m) nn4_ok xx18_ok (cut:=noCut) (X:=xx18) (cuts_by (l:=[]) (by kernel_rfl) (all_nil)) (fun s=>by kernel_rfl)
def p_words_parse_45:=mkP (T:=T) [⟨[(0,.i .i64),(1,.s),(4,.ptr 0 0),(6,.ptr 1 0),(7,.slc 2 0 5 5),(21,.slc 2 0 5 5),(22,.lit .i64 5),(23,.lit .i64 4)],kk56,[]⟩] [⟨.normal,⟨[(0,.i .i64),(1,.s),(4,.ptr 0 0),(6,.ptr 1 0),(7,.slc 2 0 5 5),(21,.slc 2 0 5 5),(22,.lit .i64 5),(23,.lit .i64 5)],kk56,[]⟩⟩,⟨.ret,⟨[(4,.ptr 0 0),(5,.b)],kk25,[]⟩⟩]
theorem p_words_parse_45_ok:PieceOk p_words_parse_45:=mkP_ok _ _
theorem p_words_parse_45_ct(κ:Nat)(m:Int):CutOk Tryz.prog C (G m) Tryz.f18.ntmps 0 (bodyOf (pieceOf (.blk 0) (getBody Tryz.f18))) (p_words_parse_45.cut nn4 (cur _ (words_parse.v45 κ))):=
 Piece.join p_words_parse_45_ok C_ok mixed (gam61_ok κ m) nn4_ok xx18_ok (cut:=noCut) (X:=xx18) (cuts_by (l:=[]) (by kernel_rfl) (all_nil)) (fun s=>by kernel_rfl)
def p_words_parse_46:=mkP (T:=T) [⟨[(0,.i .i64),(1,.s),(4,.ptr 0 0),(6,.ptr 1 0),(7,.slc 2 0 4 4),(21,.slc 2 0 4 4),(22,.lit .i64 4),(23,.lit .i64 4)],kk54,[]⟩] [⟨(.exit 0),⟨[(4,.ptr 0 0),(6,.ptr 1 0)],kk38,[]⟩⟩]
theorem p_words_parse_46_ok:PieceOk p_words_parse_46:=mkP_ok _ _
theorem p_words_parse_46_ct(κ:Nat)(m:Int):CutOk Tryz.prog C (G m) Tryz.f18.ntmps 0 (bodyOf (pieceOf (.blk 0) (getBody Tryz.f18))) (p_words_parse_46.cut nn4 (cur _ (words_parse.v46 κ))):=
 Piece.join p_words_parse_46_ok C_ok mixed (gam61_ok κ m) nn4_ok xx18_ok (cut:=noCut) (X:=xx18) (cuts_by (l:=[]) (by kernel_rfl) (all_nil)) (fun s=>by kernel_rfl)
def p_words_parse_47:=mkP (T:=T) [⟨[(0,.i .i64),(1,.s),(4,.ptr 0 0),(6,.ptr 1 0),(7,.slc 2 0 5 5),(21,.slc 2 0 5 5),(22,.lit .i64 5),(23,.lit .i64 5)],kk56,[]⟩] [⟨(.exit 0),⟨[(4,.ptr 0 0),(6,.ptr 1 0)],kk38,[]⟩⟩]
theorem p_words_parse_47_ok:PieceOk p_words_parse_47:=mkP_ok _ _
theorem p_words_parse_47_ct(κ:Nat)(m:Int):CutOk Tryz.prog C (G m) Tryz.f18.ntmps 0 (bodyOf (pieceOf (.blk 0) (getBody Tryz.f18))) (p_words_parse_47.cut nn4 (cur _ (words_parse.v47 κ))):=
 Piece.join p_words_parse_47_ok C_ok mixed (gam61_ok κ m) nn4_ok xx18_ok (cut:=noCut) (X:=xx18) (cuts_by (l:=[]) (by kernel_rfl) (all_nil)) (fun s=>by kernel_rfl)
def cc_words_parse_48(κ:Nat):Cut T:=loopV (p_words_parse_0.cutOr nn4 (cur _ (words_parse.v0 κ)) (p_words_parse_1.cutOr nn4 (cur _ (words_parse.v1 κ)) (p_words_parse_2.cutOr nn4 (cur _ (words_parse.v2 κ)) (p_words_parse_3.cutOr nn4 (cur _ (words_parse.v3 κ)) (p_words_parse_4.cutOr nn4 (cur _ (words_parse.v4 κ)) (p_words_parse_5.cutOr nn4 (cur _ (words_parse.v5 κ)) (p_words_parse_6.cutOr nn4 (cur _ (words_parse.v6 κ)) (p_words_parse_7.cutOr nn4 (cur _ (words_parse.v7 κ)) (p_words_parse_8.cutOr nn4 (cur _ (words_parse.v8 κ)) (p_words_parse_9.cutOr nn4 (cur _ (words_parse.v9 κ)) (p_words_parse_10.cutOr nn4 (cur _ (words_parse.v10 κ)) (p_words_parse_11.cutOr nn4 (cur _ (words_parse.v11 κ)) (p_words_parse_12.cutOr nn4 (cur _ (words_parse.v12 κ)) (p_words_parse_13.cutOr nn4 (cur _ (words_parse.v13 κ)) (p_words_parse_14.cutOr nn4 (cur _ (words_parse.v14 κ)) (p_words_parse_15.cutOr nn4 (cur _ (words_parse.v15 κ)) (p_words_parse_16.cutOr nn4 (cur _ (words_parse.v16 κ)) (p_words_parse_17.cutOr nn4 (cur _ (words_parse.v17 κ)) (p_words_parse_18.cutOr nn4 (cur _ (words_parse.v18 κ)) (p_words_parse_19.cutOr nn4 (cur _ (words_parse.v19 κ)) (p_words_parse_20.cutOr nn4 (cur _ (words_parse.v20 κ)) (p_words_parse_21.cutOr nn4 (cur _ (words_parse.v21 κ)) (p_words_parse_22.cutOr nn4 (cur _ (words_parse.v22 κ)) (p_words_parse_23.cutOr nn4 (cur _ (words_parse.v23 κ)) (p_words_parse_24.cutOr nn4 (cur _ (words_parse.v24 κ)) (p_words_parse_25.cutOr nn4 (cur _ (words_parse.v25 κ)) (p_words_parse_26.cutOr nn4 (cur _ (words_parse.v26 κ)) (p_words_parse_27.cutOr nn4 (cur _ (words_parse.v27 κ)) (p_words_parse_28.cutOr nn4 (cur _ (words_parse.v28 κ)) (p_words_parse_29.cutOr nn4 (cur _ (words_parse.v29 κ)) (p_words_parse_30.cutOr nn4 (cur _ (words_parse.v30 κ)) (p_words_parse_31.cutOr nn4 (cur _ (words_parse.v31 κ)) (p_words_parse_32.cutOr nn4 (cur _ (words_parse.v32 κ)) (p_words_parse_33.cutOr nn4 (cur _ (words_parse.v33 κ)) (p_words_parse_34.cutOr nn4 (cur _ (words_parse.v34 κ)) (p_words_parse_35.cutOr nn4 (cur _ (words_parse.v35 κ)) (p_words_parse_36.cutOr nn4 (cur _ (words_parse.v36 κ)) (p_words_parse_37.cutOr nn4 (cur _ (words_parse.v37 κ)) (p_words_parse_38.cutOr nn4 (cur _ (words_parse.v38 κ)) (p_words_parse_39.cutOr nn4 (cur _ (words_parse.v39 κ)) (p_words_parse_40.cutOr nn4 (cur _ (words_parse.v40 κ)) (p_words_parse_41.cutOr nn4 (cur _ (words_parse.v41 κ)) (p_words_parse_42.cutOr nn4 (cur _ (words_parse.v42 κ)) (p_words_parse_43.cutOr nn4 (cur _ (words_parse.v43 κ)) (p_words_parse_44.cutOr nn4 (cur _ (words_parse.v44 κ)) (p_words_parse_45.cutOr nn4 (cur _ (words_parse.v45 κ)) (p_words_parse_46.cutOr nn4 (cur _ (words_parse.v46 κ)) (p_words_parse_47.cut nn4 (cur _ (words_parse.v47 κ)))))))))))))))))))))))))))))))))))))))))))))))))) 0 6
theorem cc_words_parse_48_ok(κ:Nat)(m:Int):CutOk Tryz.prog C (G m) Tryz.f18.ntmps 0 (pieceOf (.blk 0) (getBody Tryz.f18)) (cc_words_parse_48 κ):=loopV_ok (body:=bodyOf (pieceOf (.blk 0) (getBody Tryz.f18))) (Piece.or_ok (p_words_parse_0_ct κ m) (Piece.or_ok (p_words_parse_1_ct κ m) (Piece.or_ok (p_words_parse_2_ct κ m) (Piece.or_ok (p_words_parse_3_ct κ m) (Piece.or_ok (p_words_parse_4_ct κ m) (Piece.or_ok (p_words_parse_5_ct κ m) (Piece.or_ok (p_words_parse_6_ct κ m) (Piece.or_ok (p_words_parse_7_ct κ m) (Piece.or_ok (p_words_parse_8_ct κ m) (Piece.or_ok (p_words_parse_9_ct κ m) (Piece.or_ok (p_words_parse_10_ct κ m) (Piece.or_ok (p_words_parse_11_ct κ m) (Piece.or_ok (p_words_parse_12_ct κ m) (Piece.or_ok (p_words_parse_13_ct κ m) (Piece.or_ok (p_words_parse_14_ct κ m) (Piece.or_ok (p_words_parse_15_ct κ m) (Piece.or_ok (p_words_parse_16_ct κ m) (Piece.or_ok (p_words_parse_17_ct κ m) (Piece.or_ok (p_words_parse_18_ct κ m) (Piece.or_ok (p_words_parse_19_ct κ m) (Piece.or_ok (p_words_parse_20_ct κ m) (Piece.or_ok (p_words_parse_21_ct κ m) (Piece.or_ok (p_words_parse_22_ct κ m) (Piece.or_ok (p_words_parse_23_ct κ m) (Piece.or_ok (p_words_parse_24_ct κ m) (Piece.or_ok (p_words_parse_25_ct κ m) (Piece.or_ok (p_words_parse_26_ct κ m) (Piece.or_ok (p_words_parse_27_ct κ m) (Piece.or_ok (p_words_parse_28_ct κ m) (Piece.or_ok (p_words_parse_29_ct κ m) (Piece.or_ok (p_words_parse_30_ct κ m) (Piece.or_ok (p_words_parse_31_ct κ m) (Piece.or_ok (p_words_parse_32_ct κ m) (Piece.or_ok (p_words_parse_33_ct κ m) (Piece.or_ok (p_words_parse_34_ct κ m) (Piece.or_ok (p_words_parse_35_ct κ m) (Piece.or_ok (p_words_parse_36_ct κ m) (Piece.or_ok (p_words_parse_37_ct κ m) (Piece.or_ok (p_words_parse_38_ct κ m) (Piece.or_ok (p_words_parse_39_ct κ m) (Piece.or_ok (p_words_parse_40_ct κ m) (Piece.or_ok (p_words_parse_41_ct κ m) (Piece.or_ok (p_words_parse_42_ct κ m) (Piece.or_ok (p_words_parse_43_ct κ m) (Piece.or_ok (p_words_parse_44_ct κ m) (Piece.or_ok (p_words_parse_45_ct κ m) (Piece.or_ok (p_words_parse_46_ct κ m) (p_words_parse_47_ct κ m)))))))))))))))))))))))))))))))))))))))))))))))) 6
def ct_words_parse_48(κ:Nat):Key→Option (Cut T):=addCut noCut (.blk 0) (cc_words_parse_48 κ)
def p_words_parse_49:=mkP (T:=T) [⟨[(4,.ptr 0 0),(6,.ptr 1 0),(15,.s),(16,.b)],kk38,[]⟩] [⟨.normal,⟨[(4,.ptr 0 0),(5,.b)],kk26,[]⟩⟩]
theorem p_words_parse_49_ok:PieceOk p_words_parse_49:=mkP_ok _ _
theorem p_words_parse_49_ct(κ:Nat)(m:Int):CutOk Tryz.prog C (G m) Tryz.f18.ntmps 0 (pieceOf (.reg 18) (getBody Tryz.f18)) (p_words_parse_49.cut (gcN 0 [4,6,15,16]) (cur _ (words_parse.v49 κ))):=
 Piece.join p_words_parse_49_ok C_ok mixed (gam61_ok κ m) gcN_ok xx19_ok (cut:=(ct_words_parse_48 κ)) (X:=xx19) (cuts_by (l:=[]) (by kernel_rfl) (all_nil)) (fun s=>by kernel_rfl)
def cc_words_parse_50(κ:Nat):Cut T:=p_words_parse_49.cut (gcN 0 [4,6,15,16]) (cur _ (words_parse.v49 κ))
theorem cc_words_parse_50_ok(κ:Nat)(m:Int):CutOk Tryz.prog C (G m) Tryz.f18.ntmps 0 (pieceOf (.reg 18) (getBody Tryz.f18)) (cc_words_parse_50 κ):=p_words_parse_49_ct κ m
def ct_words_parse_50(κ:Nat):Key→Option (Cut T):=addCut (ct_words_parse_48 κ) (.reg 18) (cc_words_parse_50 κ)
def sp_words_parse:=mkS (T:=T) [.i .i64,.s] [] [⟨false,.tup [.agg kk20,.b],[]⟩]
theorem sp_words_parse_ok:SpecOk sp_words_parse:=mkS_ok _ _ _
theorem ok_words_parse(κ:Nat)(m:Int):EOk Tryz.prog C (G m) 18 (sp_words_parse.entry (cur _ (words_parse κ))):=
 Spec.ok sp_words_parse_ok C_ok mixed (gam61_ok κ m) (cut:=(ct_words_parse_50 κ)) (NR:=(andN (slS 0 [0,2] 55) (andN (slS 0 [0,10] 5) (gcN 0 [0])))) (NP:=(gcN 0 [0])) (nB:=0) Tryz.func18 (c:=(getBody Tryz.f18)) (by kernel_rfl) (by kernel_rfl) (fun i=>by kernel_rfl) (andN_ok (slS_ok C_ok) (andN_ok (slS_ok C_ok) gcN_ok)) gcN_ok (cuts_by (l:=[(pieceOf (.blk 0) (getBody Tryz.f18),cc_words_parse_48 κ),(pieceOf (.reg 18) (getBody Tryz.f18),cc_words_parse_50 κ)]) (by kernel_rfl) (all_cons (cc_words_parse_48_ok κ m) (all_cons (cc_words_parse_50_ok κ m) (all_nil)))) (fun i=>by kernel_rfl)
noncomputable def gam62(κ:Nat):Gam T:=(gam61 κ).addS 18 sp_words_parse (cur _ (words_parse κ))
theorem gam62_ok(κ:Nat)(m:Int):GOk Tryz.prog C (G m) (gam62 κ):=(gam61_ok κ m).addS (ok_words_parse κ m)
def p_slices_Equal_0:=mkP (T:=T) [⟨[(0,.sl 55),(1,.sl 55),(12,.i .i64),(13,.i .i64)],[],[]⟩] [⟨.normal,⟨[],[],[]⟩⟩,⟨.ret,⟨[(4,.b)],[],[]⟩⟩]
theorem p_slices_Equal_0_ok:PieceOk p_slices_Equal_0:=mkP_ok _ _
theorem p_slices_Equal_0_ct(κ:Nat)(m:Int):CutOk Tryz.prog C (G m) Tryz.f26.ntmps 0 (pieceOf (.blk 0) (getBody Tryz.f26)) (p_slices_Equal_0.cut (gcN 0 [0,1,12,13]) (slices_Equal.l0 κ κ)):=
 Piece.loop p_slices_Equal_0_ok C_ok mixed (gam62_ok κ m) gcN_ok xx20_ok (cut:=noCut) (X:=xx20) (id:=0) (body:=bodyOf (pieceOf (.blk 0) (getBody Tryz.f26))) (cuts_by (l:=[]) (by kernel_rfl) (all_nil)) (f:=slices_Equal.l0 κ) (fun s=>by kernel_rfl) (fun k s=>by kernel_rfl) κ
def cc_slices_Equal_1(κ:Nat):Cut T:=p_slices_Equal_0.cut (gcN 0 [0,1,12,13]) (slices_Equal.l0 κ κ)
theorem cc_slices_Equal_1_ok(κ:Nat)(m:Int):CutOk Tryz.prog C (G m) Tryz.f26.ntmps 0 (pieceOf (.blk 0) (getBody Tryz.f26)) (cc_slices_Equal_1 κ):=p_slices_Equal_0_ct κ m
def ct_slices_Equal_1(κ:Nat):Key→Option (Cut T):=addCut noCut (.blk 0) (cc_slices_Equal_1 κ)
def sp_slices_Equal:=mkS (T:=T) [.sl 55,.sl 55] [] [⟨false,.b,[]⟩]
theorem sp_slices_Equal_ok:SpecOk sp_slices_Equal:=mkS_ok _ _ _
theorem ok_slices_Equal(κ:Nat)(m:Int):EOk Tryz.prog C (G m) 26 (sp_slices_Equal.entry (cur _ (slices_Equal κ))):=
 Spec.ok sp_slices_Equal_ok C_ok mixed (gam62_ok κ m) (cut:=(ct_slices_Equal_1 κ)) (NR:=(gcN 0 [0])) (NP:=(gcN 0 [0])) (nB:=0) Tryz.func26 (c:=(getBody Tryz.f26)) (by kernel_rfl) (by kernel_rfl) (fun i=>by kernel_rfl) gcN_ok gcN_ok (cuts_by (l:=[(pieceOf (.blk 0) (getBody Tryz.f26),cc_slices_Equal_1 κ)]) (by kernel_rfl) (all_cons (cc_slices_Equal_1_ok κ m) (all_nil))) (fun i=>by kernel_rfl)
noncomputable def gam63(κ:Nat):Gam T:=(gam62 κ).addS 26 sp_slices_Equal (cur _ (slices_Equal κ))
theorem gam63_ok(κ:Nat)(m:Int):GOk Tryz.prog C (G m) (gam63 κ):=(gam62_ok κ m).addS (ok_slices_Equal κ m)
def sp_bytes_Equal:=mkS (T:=T) [.sl 5,.sl 5] [] [⟨false,.b,[]⟩]
theorem sp_bytes_Equal_ok:SpecOk sp_bytes_Equal:=mkS_ok _ _ _
theorem ok_bytes_Equal(κ:Nat)(m:Int):EOk Tryz.prog C (G m) 27 (sp_bytes_Equal.entry (cur _ (bytes_Equal κ))):=
 Spec.ok sp_bytes_Equal_ok C_ok mixed (gam63_ok κ m) (cut:=noCut) (NR:=(gcN 0 [0])) (NP:=(gcN 0 [0])) (nB:=0) Tryz.func27 (c:=(getBody Tryz.f27)) (by kernel_rfl) (by kernel_rfl) (fun i=>by kernel_rfl) gcN_ok gcN_ok (cuts_by (l:=[]) (by kernel_rfl) (all_nil)) (fun i=>by kernel_rfl)
noncomputable def gam64(κ:Nat):Gam T:=(gam63 κ).addS 27 sp_bytes_Equal (cur _ (bytes_Equal κ))
theorem gam64_ok(κ:Nat)(m:Int):GOk Tryz.prog C (G m) (gam64 κ):=(gam63_ok κ m).addS (ok_bytes_Equal κ m)
def p_words_Same_0:=mkP (T:=T) [⟨[(2,.ptr 0 0),(3,.ptr 1 0)],kk38,[]⟩] [⟨.normal,⟨[(4,.b)],[],[]⟩⟩]
theorem p_words_Same_0_ok:PieceOk p_words_Same_0:=mkP_ok _ _
theorem p_words_Same_0_ct(κ:Nat)(m:Int):CutOk Tryz.prog C (G m) Tryz.f13.ntmps 0 (pieceOf (.reg 1) (getBody Tryz.f13)) (p_words_Same_0.cut (gcN 0 [2,3]) (cur _ (words_Same.v0 κ))):=
 Piece.join p_words_Same_0_ok C_ok mixed (gam64_ok κ m) gcN_ok xx7_ok (cut:=noCut) (X:=xx7) (cuts_by (l:=[]) (by kernel_rfl) (all_nil)) (fun s=>by kernel_rfl)
def cc_words_Same_1(κ:Nat):Cut T:=p_words_Same_0.cut (gcN 0 [2,3]) (cur _ (words_Same.v0 κ))
theorem cc_words_Same_1_ok(κ:Nat)(m:Int):CutOk Tryz.prog C (G m) Tryz.f13.ntmps 0 (pieceOf (.reg 1) (getBody Tryz.f13)) (cc_words_Same_1 κ):=p_words_Same_0_ct κ m
def ct_words_Same_1(κ:Nat):Key→Option (Cut T):=addCut noCut (.reg 1) (cc_words_Same_1 κ)
def sp_words_Same:=mkS (T:=T) kk31 [] [⟨false,.b,[]⟩]
theorem sp_words_Same_ok:SpecOk sp_words_Same:=mkS_ok _ _ _
theorem ok_words_Same(κ:Nat)(m:Int):EOk Tryz.prog C (G m) 13 (sp_words_Same.entry (cur _ (words_Same κ))):=
 Spec.ok sp_words_Same_ok C_ok mixed (gam64_ok κ m) (cut:=(ct_words_Same_1 κ)) (NR:=(gcN 0 [0])) (NP:=(gcN 0 [0])) (nB:=0) Tryz.func13 (c:=(getBody Tryz.f13)) (by kernel_rfl) (by kernel_rfl) (fun i=>by kernel_rfl) gcN_ok gcN_ok (cuts_by (l:=[(pieceOf (.reg 1) (getBody Tryz.f13),cc_words_Same_1 κ)]) (by kernel_rfl) (all_cons (cc_words_Same_1_ok κ m) (all_nil))) (fun i=>by kernel_rfl)
noncomputable def gam65(κ:Nat):Gam T:=(gam64 κ).addS 13 sp_words_Same (cur _ (words_Same κ))
theorem gam65_ok(κ:Nat)(m:Int):GOk Tryz.prog C (G m) (gam65 κ):=(gam64_ok κ m).addS (ok_words_Same κ m)
def p_words_Right_0:=mkP (T:=T) [⟨[(1,.ptr 0 0),(5,.ptr 1 0),(6,.b)],kk38,[]⟩] [⟨.normal,⟨[(2,.b)],[],[]⟩⟩]
theorem p_words_Right_0_ok:PieceOk p_words_Right_0:=mkP_ok _ _
theorem p_words_Right_0_ct(κ:Nat)(m:Int):CutOk Tryz.prog C (G m) Tryz.f9.ntmps 0 (pieceOf (.reg 5) (getBody Tryz.f9)) (p_words_Right_0.cut (gcN 0 [1,5,6]) (cur _ (words_Right.v0 κ))):=
 Piece.join p_words_Right_0_ok C_ok mixed (gam65_ok κ m) gcN_ok xx0_ok (cut:=noCut) (X:=xx0) (cuts_by (l:=[]) (by kernel_rfl) (all_nil)) (fun s=>by kernel_rfl)
def cc_words_Right_1(κ:Nat):Cut T:=p_words_Right_0.cut (gcN 0 [1,5,6]) (cur _ (words_Right.v0 κ))
theorem cc_words_Right_1_ok(κ:Nat)(m:Int):CutOk Tryz.prog C (G m) Tryz.f9.ntmps 0 (pieceOf (.reg 5) (getBody Tryz.f9)) (cc_words_Right_1 κ):=p_words_Right_0_ct κ m
def ct_words_Right_1(κ:Nat):Key→Option (Cut T):=addCut noCut (.reg 5) (cc_words_Right_1 κ)
def sp_words_Right:=mkS (T:=T) kk23 [] [⟨false,.b,[]⟩]
theorem sp_words_Right_ok:SpecOk sp_words_Right:=mkS_ok _ _ _
theorem ok_words_Right(κ:Nat)(m:Int):EOk Tryz.prog C (G m) 9 (sp_words_Right.entry (cur _ (words_Right κ))):=
 Spec.ok sp_words_Right_ok C_ok mixed (gam65_ok κ m) (cut:=(ct_words_Right_1 κ)) (NR:=(gcN 0 [0])) (NP:=(gcN 0 [0])) (nB:=0) Tryz.func9 (c:=(getBody Tryz.f9)) (by kernel_rfl) (by kernel_rfl) (fun i=>by kernel_rfl) gcN_ok gcN_ok (cuts_by (l:=[(pieceOf (.reg 5) (getBody Tryz.f9),cc_words_Right_1 κ)]) (by kernel_rfl) (all_cons (cc_words_Right_1_ok κ m) (all_nil))) (fun i=>by kernel_rfl)
noncomputable def gam66(κ:Nat):Gam T:=(gam65 κ).addS 9 sp_words_Right (cur _ (words_Right κ))
theorem gam66_ok(κ:Nat)(m:Int):GOk Tryz.prog C (G m) (gam66 κ):=(gam65_ok κ m).addS (ok_words_Right κ m)
def sp_words_Line:=mkS (T:=T) kk23 [] [⟨false,.s,[]⟩]
theorem sp_words_Line_ok:SpecOk sp_words_Line:=mkS_ok _ _ _
theorem ok_words_Line(κ:Nat)(m:Int):EOk Tryz.prog C (G m) 8 (sp_words_Line.entry (cur _ (words_Line κ))):=
 Spec.ok sp_words_Line_ok C_ok mixed (gam66_ok κ m) (cut:=noCut) (NR:=(gcN 0 [0])) (NP:=(gcN 0 [0])) (nB:=0) Tryz.func8 (c:=(getBody Tryz.f8)) (by kernel_rfl) (by kernel_rfl) (fun i=>by kernel_rfl) gcN_ok gcN_ok (cuts_by (l:=[]) (by kernel_rfl) (all_nil)) (fun i=>by kernel_rfl)
noncomputable def gam67(κ:Nat):Gam T:=(gam66 κ).addS 8 sp_words_Line (cur _ (words_Line κ))
theorem gam67_ok(κ:Nat)(m:Int):GOk Tryz.prog C (G m) (gam67 κ):=(gam66_ok κ m).addS (ok_words_Line κ m)
def p_words_Parse_3:=mkP (T:=T) [⟨[(0,.s),(2,.ptr 0 0),(4,.i .i64),(5,.ptr 1 0),(6,.b)],[.cells 26 none kk19,.cells 26 none kk20],[]⟩] [⟨.normal,⟨[(0,.s),(2,.ptr 0 0),(4,.i .i64),(5,.ptr 1 0),(23,.b)],[.cells 26 none kk19,.cells 26 none kk20],[]⟩⟩]
theorem p_words_Parse_3_ok:PieceOk p_words_Parse_3:=mkP_ok _ _
theorem p_words_Parse_3_ct(κ:Nat)(m:Int):CutOk Tryz.prog C (G m) Tryz.f15.ntmps 0 (pieceOf (.reg 5) (getBody Tryz.f15)) (p_words_Parse_3.cut (gcN 0 [0,2,4,5,6]) (cur _ (words_Parse.v3 κ))):=
 Piece.join p_words_Parse_3_ok C_ok mixed (gam67_ok κ m) gcN_ok xx21_ok (cut:=noCut) (X:=xx21) (cuts_by (l:=[]) (by kernel_rfl) (all_nil)) (fun s=>by kernel_rfl)
def cc_words_Parse_4(κ:Nat):Cut T:=p_words_Parse_3.cut (gcN 0 [0,2,4,5,6]) (cur _ (words_Parse.v3 κ))
theorem cc_words_Parse_4_ok(κ:Nat)(m:Int):CutOk Tryz.prog C (G m) Tryz.f15.ntmps 0 (pieceOf (.reg 5) (getBody Tryz.f15)) (cc_words_Parse_4 κ):=p_words_Parse_3_ct κ m
def ct_words_Parse_4(κ:Nat):Key→Option (Cut T):=addCut noCut (.reg 5) (cc_words_Parse_4 κ)
def p_words_Parse_2:=mkP (T:=T) [⟨[(0,.s),(2,.ptr 0 0),(4,.i .i64)],kk25,[]⟩] [⟨.normal,⟨[(2,.ptr 0 0)],kk25,[]⟩⟩,⟨.ret,⟨[(2,.ptr 0 0),(3,.i .i64)],kk26,[]⟩⟩]
theorem p_words_Parse_2_ok:PieceOk p_words_Parse_2:=mkP_ok _ _
theorem p_words_Parse_2_ct(κ:Nat)(m:Int):CutOk Tryz.prog C (G m) Tryz.f15.ntmps 0 (pieceOf (.blk 0) (getBody Tryz.f15)) (p_words_Parse_2.cut (gcN 0 [0,2,4]) (words_Parse.l2 κ κ)):=
 Piece.loop p_words_Parse_2_ok C_ok mixed (gam67_ok κ m) gcN_ok xx22_ok (cut:=(ct_words_Parse_4 κ)) (X:=xx22) (id:=0) (body:=bodyOf (pieceOf (.blk 0) (getBody Tryz.f15))) (cuts_by (l:=[(pieceOf (.reg 5) (getBody Tryz.f15),cc_words_Parse_4 κ)]) (by kernel_rfl) (all_cons (cc_words_Parse_4_ok κ m) (all_nil))) (f:=words_Parse.l2 κ) (fun s=>by kernel_rfl) (fun k s=>by kernel_rfl) κ
def cc_words_Parse_5(κ:Nat):Cut T:=p_words_Parse_2.cut (gcN 0 [0,2,4]) (words_Parse.l2 κ κ)
theorem cc_words_Parse_5_ok(κ:Nat)(m:Int):CutOk Tryz.prog C (G m) Tryz.f15.ntmps 0 (pieceOf (.blk 0) (getBody Tryz.f15)) (cc_words_Parse_5 κ):=p_words_Parse_2_ct κ m
def ct_words_Parse_5(κ:Nat):Key→Option (Cut T):=addCut noCut (.blk 0) (cc_words_Parse_5 κ)
def sp_words_Parse:=mkS (T:=T) [.s] [] [⟨false,.tup [.agg kk20,.i .i64],[]⟩]
theorem sp_words_Parse_ok:SpecOk sp_words_Parse:=mkS_ok _ _ _
theorem ok_words_Parse(κ:Nat)(m:Int):EOk Tryz.prog C (G m) 15 (sp_words_Parse.entry (fun a0=>words_Parse κ a0)):=
 Spec.ok sp_words_Parse_ok C_ok mixed (gam67_ok κ m) (cut:=(ct_words_Parse_5 κ)) (NR:=(andN (slS 0 [0,2] 55) (andN (slS 0 [0,10] 5) (gcN 0 [0])))) (NP:=(gcN 0 [0])) (nB:=0) Tryz.func15 (c:=(getBody Tryz.f15)) (by kernel_rfl) (by kernel_rfl) (fun i=>by kernel_rfl) (andN_ok (slS_ok C_ok) (andN_ok (slS_ok C_ok) gcN_ok)) gcN_ok (cuts_by (l:=[(pieceOf (.blk 0) (getBody Tryz.f15),cc_words_Parse_5 κ)]) (by kernel_rfl) (all_cons (cc_words_Parse_5_ok κ m) (all_nil))) (fun i=>by kernel_rfl)
noncomputable def gam68(κ:Nat):Gam T:=(gam67 κ).addS 15 sp_words_Parse (fun a0=>words_Parse κ a0)
theorem gam68_ok(κ:Nat)(m:Int):GOk Tryz.prog C (G m) (gam68 κ):=(gam67_ok κ m).addS (ok_words_Parse κ m)
def p_l33_awake_0:=mkP (T:=T) [⟨[(1,.ptr 0 0),(2,.i .i64),(4,.i .i64),(5,.ptr 1 0),(6,.i .i64)],kk38,[]⟩] [⟨.normal,⟨[(0,.b)],[],[]⟩⟩]
theorem p_l33_awake_0_ok:PieceOk p_l33_awake_0:=mkP_ok _ _
theorem p_l33_awake_0_ct(κ:Nat)(m:Int):CutOk Tryz.prog C (G m) Tryz.f7.ntmps 0 (pieceOf (.reg 4) (getBody Tryz.f7)) (p_l33_awake_0.cut (gcN 0 [1,2,4,5,6]) (cur _ (l33_awake.v0 κ))):=
 Piece.join p_l33_awake_0_ok C_ok mixed (gam68_ok κ m) gcN_ok xx23_ok (cut:=noCut) (X:=xx23) (cuts_by (l:=[]) (by kernel_rfl) (all_nil)) (fun s=>by kernel_rfl)
def cc_l33_awake_1(κ:Nat):Cut T:=p_l33_awake_0.cut (gcN 0 [1,2,4,5,6]) (cur _ (l33_awake.v0 κ))
theorem cc_l33_awake_1_ok(κ:Nat)(m:Int):CutOk Tryz.prog C (G m) Tryz.f7.ntmps 0 (pieceOf (.reg 4) (getBody Tryz.f7)) (cc_l33_awake_1 κ):=p_l33_awake_0_ct κ m
def ct_l33_awake_1(κ:Nat):Key→Option (Cut T):=addCut noCut (.reg 4) (cc_l33_awake_1 κ)
def sp_l33_awake:=mkS (T:=T) [] [] [⟨false,.b,[]⟩]
theorem sp_l33_awake_ok:SpecOk sp_l33_awake:=mkS_ok _ _ _
theorem ok_l33_awake(κ:Nat)(m:Int):EOk Tryz.prog C (G m) 7 (sp_l33_awake.entry (fun _ =>l33_awake κ)):=
 Spec.ok sp_l33_awake_ok C_ok mixed (gam68_ok κ m) (cut:=(ct_l33_awake_1 κ)) (NR:=(gcN 0 [0])) (NP:=(gcN 0 [0])) (nB:=0) Tryz.func7 (c:=(getBody Tryz.f7)) (by kernel_rfl) (by kernel_rfl) (fun i=>by kernel_rfl) gcN_ok gcN_ok (cuts_by (l:=[(pieceOf (.reg 4) (getBody Tryz.f7),cc_l33_awake_1 κ)]) (by kernel_rfl) (all_cons (cc_l33_awake_1_ok κ m) (all_nil))) (fun i=>by kernel_rfl)
noncomputable def gam69(κ:Nat):Gam T:=(gam68 κ).addS 7 sp_l33_awake (fun _ =>l33_awake κ)
theorem gam69_ok(κ:Nat)(m:Int):GOk Tryz.prog C (G m) (gam69 κ):=(gam68_ok κ m).addS (ok_l33_awake κ m)
def p_r06_Ident_5:=mkP (T:=T) [⟨[(0,.s),(3,.i .i64)],[],[]⟩] [⟨.normal,⟨[(0,.s),(3,.i .i64),(4,.b)],[],[]⟩⟩]
theorem p_r06_Ident_5_ok:PieceOk p_r06_Ident_5:=mkP_ok _ _
theorem p_r06_Ident_5_ct(κ:Nat)(m:Int):CutOk Tryz.prog C (G m) Tryz.f21.ntmps 0 (pieceOf (.reg 4) (getBody Tryz.f21)) (p_r06_Ident_5.cut (gcN 0 [0,3]) (cur _ (r06_Ident.v5 κ))):=
 Piece.join p_r06_Ident_5_ok C_ok mixed (gam69_ok κ m) gcN_ok xx26_ok (cut:=noCut) (X:=xx26) (cuts_by (l:=[]) (by kernel_rfl) (all_nil)) (fun s=>by kernel_rfl)
def cc_r06_Ident_6(κ:Nat):Cut T:=p_r06_Ident_5.cut (gcN 0 [0,3]) (cur _ (r06_Ident.v5 κ))
theorem cc_r06_Ident_6_ok(κ:Nat)(m:Int):CutOk Tryz.prog C (G m) Tryz.f21.ntmps 0 (pieceOf (.reg 4) (getBody Tryz.f21)) (cc_r06_Ident_6 κ):=p_r06_Ident_5_ct κ m
def ct_r06_Ident_6(κ:Nat):Key→Option (Cut T):=addCut noCut (.reg 4) (cc_r06_Ident_6 κ)
def p_r06_Ident_7:=mkP (T:=T) [⟨[(0,.s),(3,.i .i64),(4,.b)],[],[]⟩] [⟨.normal,⟨[(0,.s),(3,.i .i64),(44,.b)],[],[]⟩⟩]
theorem p_r06_Ident_7_ok:PieceOk p_r06_Ident_7:=mkP_ok _ _
theorem p_r06_Ident_7_ct(κ:Nat)(m:Int):CutOk Tryz.prog C (G m) Tryz.f21.ntmps 0 (pieceOf (.reg 5) (getBody Tryz.f21)) (p_r06_Ident_7.cut (gcN 0 [0,3,4]) (cur _ (r06_Ident.v7 κ))):=
 Piece.join p_r06_Ident_7_ok C_ok mixed (gam69_ok κ m) gcN_ok xx27_ok (cut:=(ct_r06_Ident_6 κ)) (X:=xx27) (cuts_by (l:=[]) (by kernel_rfl) (all_nil)) (fun s=>by kernel_rfl)
def cc_r06_Ident_8(κ:Nat):Cut T:=p_r06_Ident_7.cut (gcN 0 [0,3,4]) (cur _ (r06_Ident.v7 κ))
theorem cc_r06_Ident_8_ok(κ:Nat)(m:Int):CutOk Tryz.prog C (G m) Tryz.f21.ntmps 0 (pieceOf (.reg 5) (getBody Tryz.f21)) (cc_r06_Ident_8 κ):=p_r06_Ident_7_ct κ m
def ct_r06_Ident_8(κ:Nat):Key→Option (Cut T):=addCut (ct_r06_Ident_6 κ) (.reg 5) (cc_r06_Ident_8 κ)
def p_r06_Ident_4:=mkP (T:=T) [⟨[(0,.s),(3,.i .i64)],[],[]⟩] [⟨.normal,⟨[(0,.s)],[],[]⟩⟩,⟨.ret,⟨[(2,.b)],[],[]⟩⟩]
theorem p_r06_Ident_4_ok:PieceOk p_r06_Ident_4:=mkP_ok _ _
theorem p_r06_Ident_4_ct(κ:Nat)(m:Int):CutOk Tryz.prog C (G m) Tryz.f21.ntmps 0 (pieceOf (.blk 0) (getBody Tryz.f21)) (p_r06_Ident_4.cut (gcN 0 [0,3]) (r06_Ident.l4 κ κ)):=
 Piece.loop p_r06_Ident_4_ok C_ok mixed (gam69_ok κ m) gcN_ok xx28_ok (cut:=(ct_r06_Ident_8 κ)) (X:=xx28) (id:=0) (body:=bodyOf (pieceOf (.blk 0) (getBody Tryz.f21))) (cuts_by (l:=[(pieceOf (.reg 4) (getBody Tryz.f21),cc_r06_Ident_6 κ),(pieceOf (.reg 5) (getBody Tryz.f21),cc_r06_Ident_8 κ)]) (by kernel_rfl) (all_cons (cc_r06_Ident_6_ok κ m) (all_cons (cc_r06_Ident_8_ok κ m) (all_nil)))) (f:=r06_Ident.l4 κ) (fun s=>by kernel_rfl) (fun k s=>by kernel_rfl) κ
def cc_r06_Ident_9(κ:Nat):Cut T:=p_r06_Ident_4.cut (gcN 0 [0,3]) (r06_Ident.l4 κ κ)
theorem cc_r06_Ident_9_ok(κ:Nat)(m:Int):CutOk Tryz.prog C (G m) Tryz.f21.ntmps 0 (pieceOf (.blk 0) (getBody Tryz.f21)) (cc_r06_Ident_9 κ):=p_r06_Ident_4_ct κ m
def ct_r06_Ident_9(κ:Nat):Key→Option (Cut T):=addCut noCut (.blk 0) (cc_r06_Ident_9 κ)
def p_r06_Ident_10:=mkP (T:=T) [⟨[(0,.s)],[],[]⟩] [⟨.normal,⟨[(2,.b)],[],[]⟩⟩]
theorem p_r06_Ident_10_ok:PieceOk p_r06_Ident_10:=mkP_ok _ _
theorem p_r06_Ident_10_ct(κ:Nat)(m:Int):CutOk Tryz.prog C (G m) Tryz.f21.ntmps 0 (pieceOf (.reg 7) (getBody Tryz.f21)) (p_r06_Ident_10.cut (gcN 0 [0]) (fun a0=>r06_Ident.v10 κ a0)):=
 Piece.join p_r06_Ident_10_ok C_ok mixed (gam69_ok κ m) gcN_ok xx0_ok (cut:=(ct_r06_Ident_9 κ)) (X:=xx0) (cuts_by (l:=[]) (by kernel_rfl) (all_nil)) (fun s=>by kernel_rfl)
def cc_r06_Ident_11(κ:Nat):Cut T:=p_r06_Ident_10.cut (gcN 0 [0]) (fun a0=>r06_Ident.v10 κ a0)
theorem cc_r06_Ident_11_ok(κ:Nat)(m:Int):CutOk Tryz.prog C (G m) Tryz.f21.ntmps 0 (pieceOf (.reg 7) (getBody Tryz.f21)) (cc_r06_Ident_11 κ):=p_r06_Ident_10_ct κ m
def ct_r06_Ident_11(κ:Nat):Key→Option (Cut T):=addCut (ct_r06_Ident_9 κ) (.reg 7) (cc_r06_Ident_11 κ)
def sp_r06_Ident:=mkS (T:=T) [.s] [] [⟨false,.b,[]⟩]
theorem sp_r06_Ident_ok:SpecOk sp_r06_Ident:=mkS_ok _ _ _
theorem ok_r06_Ident(κ:Nat)(m:Int):EOk Tryz.prog C (G m) 21 (sp_r06_Ident.entry (fun a0=>r06_Ident κ a0)):=
 Spec.ok sp_r06_Ident_ok C_ok mixed (gam69_ok κ m) (cut:=(ct_r06_Ident_11 κ)) (NR:=(gcN 0 [0])) (NP:=(gcN 0 [0])) (nB:=0) Tryz.func21 (c:=(getBody Tryz.f21)) (by kernel_rfl) (by kernel_rfl) (fun i=>by kernel_rfl) gcN_ok gcN_ok (cuts_by (l:=[(pieceOf (.blk 0) (getBody Tryz.f21),cc_r06_Ident_9 κ),(pieceOf (.reg 7) (getBody Tryz.f21),cc_r06_Ident_11 κ)]) (by kernel_rfl) (all_cons (cc_r06_Ident_9_ok κ m) (all_cons (cc_r06_Ident_11_ok κ m) (all_nil)))) (fun i=>by kernel_rfl)
noncomputable def gam72(κ:Nat):Gam T:=(gam69 κ).addS 21 sp_r06_Ident (fun a0=>r06_Ident κ a0)
theorem gam72_ok(κ:Nat)(m:Int):GOk Tryz.prog C (G m) (gam72 κ):=(gam69_ok κ m).addS (ok_r06_Ident κ m)
def p_r15_Show_8:=mkP (T:=T) [⟨[(0,.sl 55),(3,.s),(4,.i .i64),(5,.b),(6,.b)],[],[]⟩] [⟨.normal,⟨[(0,.sl 55),(3,.s),(4,.i .i64),(6,.b),(38,.b)],[],[]⟩⟩]
theorem p_r15_Show_8_ok:PieceOk p_r15_Show_8:=mkP_ok _ _
theorem p_r15_Show_8_ct(κ:Nat)(m:Int):CutOk Tryz.prog C (G m) Tryz.f23.ntmps 0 (pieceOf (.reg 7) (getBody Tryz.f23)) (p_r15_Show_8.cut (gcN 0 [0,3,4,5,6]) (cur _ (r15_Show.v8 κ))):=
 Piece.join p_r15_Show_8_ok C_ok mixed (gam72_ok κ m) gcN_ok xx29_ok (cut:=noCut) (X:=xx29) (cuts_by (l:=[]) (by kernel_rfl) (all_nil)) (fun s=>by kernel_rfl)
def cc_r15_Show_9(κ:Nat):Cut T:=p_r15_Show_8.cut (gcN 0 [0,3,4,5,6]) (cur _ (r15_Show.v8 κ))
theorem cc_r15_Show_9_ok(κ:Nat)(m:Int):CutOk Tryz.prog C (G m) Tryz.f23.ntmps 0 (pieceOf (.reg 7) (getBody Tryz.f23)) (cc_r15_Show_9 κ):=p_r15_Show_8_ct κ m
def ct_r15_Show_9(κ:Nat):Key→Option (Cut T):=addCut noCut (.reg 7) (cc_r15_Show_9 κ)
def p_r15_Show_10:=mkP (T:=T) [⟨[(0,.sl 55),(3,.s),(4,.i .i64),(47,.b)],[],[]⟩] [⟨.normal,⟨[(0,.sl 55),(3,.s),(4,.i .i64)],[],[]⟩⟩]
theorem p_r15_Show_10_ok:PieceOk p_r15_Show_10:=mkP_ok _ _
theorem p_r15_Show_10_ct(κ:Nat)(m:Int):CutOk Tryz.prog C (G m) Tryz.f23.ntmps 0 (pieceOf (.cnd 47 12) (getBody Tryz.f23)) (p_r15_Show_10.cut (gcN 0 [0,3,4,47]) (cur _ (r15_Show.v10 κ))):=
 Piece.join p_r15_Show_10_ok C_ok mixed (gam72_ok κ m) gcN_ok xx30_ok (cut:=(ct_r15_Show_9 κ)) (X:=xx30) (cuts_by (l:=[]) (by kernel_rfl) (all_nil)) (fun s=>by kernel_rfl)
def cc_r15_Show_11(κ:Nat):Cut T:=p_r15_Show_10.cut (gcN 0 [0,3,4,47]) (cur _ (r15_Show.v10 κ))
theorem cc_r15_Show_11_ok(κ:Nat)(m:Int):CutOk Tryz.prog C (G m) Tryz.f23.ntmps 0 (pieceOf (.cnd 47 12) (getBody Tryz.f23)) (cc_r15_Show_11 κ):=p_r15_Show_10_ct κ m
def ct_r15_Show_11(κ:Nat):Key→Option (Cut T):=addCut (ct_r15_Show_9 κ) (.cnd 47 12) (cc_r15_Show_11 κ)
def p_r15_Show_7:=mkP (T:=T) [⟨[(0,.sl 55),(3,.s),(4,.i .i64)],[],[]⟩] [⟨.normal,⟨[(0,.sl 55),(3,.s),(4,.i .i64)],[],[]⟩⟩,⟨.ret,⟨[(2,.s)],[],[]⟩⟩]
theorem p_r15_Show_7_ok:PieceOk p_r15_Show_7:=mkP_ok _ _
theorem p_r15_Show_7_ct(κ:Nat)(m:Int):CutOk Tryz.prog C (G m) Tryz.f23.ntmps 0 (pieceOf (.blk 1) (getBody Tryz.f23)) (p_r15_Show_7.cut (gcN 0 [0,3,4]) (cur _ (r15_Show.v7 κ))):=
 Piece.join p_r15_Show_7_ok C_ok mixed (gam72_ok κ m) gcN_ok xx31_ok (cut:=(ct_r15_Show_11 κ)) (X:=xx31) (cuts_by (l:=[(pieceOf (.reg 7) (getBody Tryz.f23),cc_r15_Show_9 κ),(pieceOf (.cnd 47 12) (getBody Tryz.f23),cc_r15_Show_11 κ)]) (by kernel_rfl) (all_cons (cc_r15_Show_9_ok κ m) (all_cons (cc_r15_Show_11_ok κ m) (all_nil)))) (fun s=>by kernel_rfl)
def cc_r15_Show_12(κ:Nat):Cut T:=p_r15_Show_7.cut (gcN 0 [0,3,4]) (cur _ (r15_Show.v7 κ))
theorem cc_r15_Show_12_ok(κ:Nat)(m:Int):CutOk Tryz.prog C (G m) Tryz.f23.ntmps 0 (pieceOf (.blk 1) (getBody Tryz.f23)) (cc_r15_Show_12 κ):=p_r15_Show_7_ct κ m
def ct_r15_Show_12(κ:Nat):Key→Option (Cut T):=addCut noCut (.blk 1) (cc_r15_Show_12 κ)
def p_r15_Show_6:=mkP (T:=T) [⟨[(0,.sl 55),(3,.s),(4,.i .i64)],[],[]⟩] [⟨.normal,⟨[(0,.sl 55),(3,.s)],[],[]⟩⟩,⟨.ret,⟨[(2,.s)],[],[]⟩⟩]
theorem p_r15_Show_6_ok:PieceOk p_r15_Show_6:=mkP_ok _ _
theorem p_r15_Show_6_ct(κ:Nat)(m:Int):CutOk Tryz.prog C (G m) Tryz.f23.ntmps 0 (pieceOf (.blk 0) (getBody Tryz.f23)) (p_r15_Show_6.cut (gcN 0 [0,3,4]) (r15_Show.l6 κ κ)):=
 Piece.loop p_r15_Show_6_ok C_ok mixed (gam72_ok κ m) gcN_ok xx32_ok (cut:=(ct_r15_Show_12 κ)) (X:=xx32) (id:=0) (body:=bodyOf (pieceOf (.blk 0) (getBody Tryz.f23))) (cuts_by (l:=[(pieceOf (.blk 1) (getBody Tryz.f23),cc_r15_Show_12 κ)]) (by kernel_rfl) (all_cons (cc_r15_Show_12_ok κ m) (all_nil))) (f:=r15_Show.l6 κ) (fun s=>by kernel_rfl) (fun k s=>by kernel_rfl) κ
def cc_r15_Show_13(κ:Nat):Cut T:=p_r15_Show_6.cut (gcN 0 [0,3,4]) (r15_Show.l6 κ κ)
theorem cc_r15_Show_13_ok(κ:Nat)(m:Int):CutOk Tryz.prog C (G m) Tryz.f23.ntmps 0 (pieceOf (.blk 0) (getBody Tryz.f23)) (cc_r15_Show_13 κ):=p_r15_Show_6_ct κ m
def ct_r15_Show_13(κ:Nat):Key→Option (Cut T):=addCut noCut (.blk 0) (cc_r15_Show_13 κ)
def sp_r15_Show:=mkS (T:=T) [.sl 55] [] [⟨false,.s,[]⟩]
theorem sp_r15_Show_ok:SpecOk sp_r15_Show:=mkS_ok _ _ _
theorem ok_r15_Show(κ:Nat)(m:Int):EOk Tryz.prog C (G m) 23 (sp_r15_Show.entry (fun a0=>r15_Show κ a0)):=
 Spec.ok sp_r15_Show_ok C_ok mixed (gam72_ok κ m) (cut:=(ct_r15_Show_13 κ)) (NR:=(gcN 0 [0])) (NP:=(gcN 0 [0])) (nB:=0) Tryz.func23 (c:=(getBody Tryz.f23)) (by kernel_rfl) (by kernel_rfl) (fun i=>by kernel_rfl) gcN_ok gcN_ok (cuts_by (l:=[(pieceOf (.blk 0) (getBody Tryz.f23),cc_r15_Show_13 κ)]) (by kernel_rfl) (all_cons (cc_r15_Show_13_ok κ m) (all_nil))) (fun i=>by kernel_rfl)
noncomputable def gam73(κ:Nat):Gam T:=(gam72 κ).addS 23 sp_r15_Show (fun a0=>r15_Show κ a0)
theorem gam73_ok(κ:Nat)(m:Int):GOk Tryz.prog C (G m) (gam73 κ):=(gam72_ok κ m).addS (ok_r15_Show κ m)
def p_r06_ShowUint_0:=mkP (T:=T) [⟨[(0,.i .u64),(3,.s)],[],[]⟩] [⟨.normal,⟨[(3,.s)],[],[]⟩⟩]
theorem p_r06_ShowUint_0_ok:PieceOk p_r06_ShowUint_0:=mkP_ok _ _
theorem p_r06_ShowUint_0_ct(κ:Nat)(m:Int):CutOk Tryz.prog C (G m) Tryz.f24.ntmps 0 (pieceOf (.blk 0) (getBody Tryz.f24)) (p_r06_ShowUint_0.cut (gcN 0 [0,3]) (r06_ShowUint.l0 κ κ)):=
 Piece.loop p_r06_ShowUint_0_ok C_ok mixed (gam73_ok κ m) gcN_ok xx6_ok (cut:=noCut) (X:=xx6) (id:=0) (body:=bodyOf (pieceOf (.blk 0) (getBody Tryz.f24))) (cuts_by (l:=[]) (by kernel_rfl) (all_nil)) (f:=r06_ShowUint.l0 κ) (fun s=>by kernel_rfl) (fun k s=>by kernel_rfl) κ
def cc_r06_ShowUint_1(κ:Nat):Cut T:=p_r06_ShowUint_0.cut (gcN 0 [0,3]) (r06_ShowUint.l0 κ κ)
theorem cc_r06_ShowUint_1_ok(κ:Nat)(m:Int):CutOk Tryz.prog C (G m) Tryz.f24.ntmps 0 (pieceOf (.blk 0) (getBody Tryz.f24)) (cc_r06_ShowUint_1 κ):=p_r06_ShowUint_0_ct κ m
def ct_r06_ShowUint_1(κ:Nat):Key→Option (Cut T):=addCut noCut (.blk 0) (cc_r06_ShowUint_1 κ)
def sp_r06_ShowUint:=mkS (T:=T) [.i .u64] [] [⟨false,.s,[]⟩]
theorem sp_r06_ShowUint_ok:SpecOk sp_r06_ShowUint:=mkS_ok _ _ _
theorem ok_r06_ShowUint(κ:Nat)(m:Int):EOk Tryz.prog C (G m) 24 (sp_r06_ShowUint.entry (fun a0=>r06_ShowUint κ a0)):=
 Spec.ok sp_r06_ShowUint_ok C_ok mixed (gam73_ok κ m) (cut:=(ct_r06_ShowUint_1 κ)) (NR:=(gcN 0 [0])) (NP:=(gcN 0 [0])) (nB:=0) Tryz.func24 (c:=(getBody Tryz.f24)) (by kernel_rfl) (by kernel_rfl) (fun i=>by kernel_rfl) gcN_ok gcN_ok (cuts_by (l:=[(pieceOf (.blk 0) (getBody Tryz.f24),cc_r06_ShowUint_1 κ)]) (by kernel_rfl) (all_cons (cc_r06_ShowUint_1_ok κ m) (all_nil))) (fun i=>by kernel_rfl)
noncomputable def gam76(κ:Nat):Gam T:=(gam73 κ).addS 24 sp_r06_ShowUint (fun a0=>r06_ShowUint κ a0)
theorem gam76_ok(κ:Nat)(m:Int):GOk Tryz.prog C (G m) (gam76 κ):=(gam73_ok κ m).addS (ok_r06_ShowUint κ m)
def p_r05_letter_0:=mkP (T:=T) [⟨[(3,.i .u8)],[],[]⟩] [⟨.normal,⟨[(2,.b)],[],[]⟩⟩]
theorem p_r05_letter_0_ok:PieceOk p_r05_letter_0:=mkP_ok _ _
theorem p_r05_letter_0_ct(κ:Nat)(m:Int):CutOk Tryz.prog C (G m) Tryz.f37.ntmps 0 (pieceOf (.reg 4) (getBody Tryz.f37)) (p_r05_letter_0.cut (gcN 0 [3]) (fun a0=>r05_letter.v0 κ a0)):=
 Piece.join p_r05_letter_0_ok C_ok mixed (gam76_ok κ m) gcN_ok xx0_ok (cut:=noCut) (X:=xx0) (cuts_by (l:=[]) (by kernel_rfl) (all_nil)) (fun s=>by kernel_rfl)
def cc_r05_letter_1(κ:Nat):Cut T:=p_r05_letter_0.cut (gcN 0 [3]) (fun a0=>r05_letter.v0 κ a0)
theorem cc_r05_letter_1_ok(κ:Nat)(m:Int):CutOk Tryz.prog C (G m) Tryz.f37.ntmps 0 (pieceOf (.reg 4) (getBody Tryz.f37)) (cc_r05_letter_1 κ):=p_r05_letter_0_ct κ m
def ct_r05_letter_1(κ:Nat):Key→Option (Cut T):=addCut noCut (.reg 4) (cc_r05_letter_1 κ)
def sp_r05_letter:=mkS (T:=T) [.s] [] [⟨false,.b,[]⟩]
theorem sp_r05_letter_ok:SpecOk sp_r05_letter:=mkS_ok _ _ _
theorem ok_r05_letter(κ:Nat)(m:Int):EOk Tryz.prog C (G m) 37 (sp_r05_letter.entry (fun a0=>r05_letter κ a0)):=
 Spec.ok sp_r05_letter_ok C_ok mixed (gam76_ok κ m) (cut:=(ct_r05_letter_1 κ)) (NR:=(gcN 0 [0])) (NP:=(gcN 0 [0])) (nB:=0) Tryz.func37 (c:=(getBody Tryz.f37)) (by kernel_rfl) (by kernel_rfl) (fun i=>by kernel_rfl) gcN_ok gcN_ok (cuts_by (l:=[(pieceOf (.reg 4) (getBody Tryz.f37),cc_r05_letter_1 κ)]) (by kernel_rfl) (all_cons (cc_r05_letter_1_ok κ m) (all_nil))) (fun i=>by kernel_rfl)
noncomputable def gam78(κ:Nat):Gam T:=(gam76 κ).addS 37 sp_r05_letter (fun a0=>r05_letter κ a0)
theorem gam78_ok(κ:Nat)(m:Int):GOk Tryz.prog C (G m) (gam78 κ):=(gam76_ok κ m).addS (ok_r05_letter κ m)
def p_r05_Plain_0:=mkP (T:=T) [⟨[(0,.s),(3,.i .i64)],[],[]⟩] [⟨.normal,⟨[(0,.s)],[],[]⟩⟩,⟨.ret,⟨[(2,.b)],[],[]⟩⟩]
theorem p_r05_Plain_0_ok:PieceOk p_r05_Plain_0:=mkP_ok _ _
theorem p_r05_Plain_0_ct(κ:Nat)(m:Int):CutOk Tryz.prog C (G m) Tryz.f22.ntmps 0 (pieceOf (.blk 0) (getBody Tryz.f22)) (p_r05_Plain_0.cut (gcN 0 [0,3]) (r05_Plain.l0 κ κ)):=
 Piece.loop p_r05_Plain_0_ok C_ok mixed (gam78_ok κ m) gcN_ok xx28_ok (cut:=noCut) (X:=xx28) (id:=0) (body:=bodyOf (pieceOf (.blk 0) (getBody Tryz.f22))) (cuts_by (l:=[]) (by kernel_rfl) (all_nil)) (f:=r05_Plain.l0 κ) (fun s=>by kernel_rfl) (fun k s=>by kernel_rfl) κ
def cc_r05_Plain_1(κ:Nat):Cut T:=p_r05_Plain_0.cut (gcN 0 [0,3]) (r05_Plain.l0 κ κ)
theorem cc_r05_Plain_1_ok(κ:Nat)(m:Int):CutOk Tryz.prog C (G m) Tryz.f22.ntmps 0 (pieceOf (.blk 0) (getBody Tryz.f22)) (cc_r05_Plain_1 κ):=p_r05_Plain_0_ct κ m
def ct_r05_Plain_1(κ:Nat):Key→Option (Cut T):=addCut noCut (.blk 0) (cc_r05_Plain_1 κ)
def sp_r05_Plain:=mkS (T:=T) [.s] [] [⟨false,.b,[]⟩]
theorem sp_r05_Plain_ok:SpecOk sp_r05_Plain:=mkS_ok _ _ _
theorem ok_r05_Plain(κ:Nat)(m:Int):EOk Tryz.prog C (G m) 22 (sp_r05_Plain.entry (fun a0=>r05_Plain κ a0)):=
 Spec.ok sp_r05_Plain_ok C_ok mixed (gam78_ok κ m) (cut:=(ct_r05_Plain_1 κ)) (NR:=(gcN 0 [0])) (NP:=(gcN 0 [0])) (nB:=0) Tryz.func22 (c:=(getBody Tryz.f22)) (by kernel_rfl) (by kernel_rfl) (fun i=>by kernel_rfl) gcN_ok gcN_ok (cuts_by (l:=[(pieceOf (.blk 0) (getBody Tryz.f22),cc_r05_Plain_1 κ)]) (by kernel_rfl) (all_cons (cc_r05_Plain_1_ok κ m) (all_nil))) (fun i=>by kernel_rfl)
noncomputable def gam79(κ:Nat):Gam T:=(gam78 κ).addS 22 sp_r05_Plain (fun a0=>r05_Plain κ a0)
theorem gam79_ok(κ:Nat)(m:Int):GOk Tryz.prog C (G m) (gam79 κ):=(gam78_ok κ m).addS (ok_r05_Plain κ m)
def p_r10_Steps_0:=mkP (T:=T) [⟨[(0,.sl 55),(1,.sl 55),(5,.i .i64)],[],[]⟩] [⟨.normal,⟨[],[],[]⟩⟩,⟨.ret,⟨[(4,.b)],[],[]⟩⟩]
theorem p_r10_Steps_0_ok:PieceOk p_r10_Steps_0:=mkP_ok _ _
theorem p_r10_Steps_0_ct(κ:Nat)(m:Int):CutOk Tryz.prog C (G m) Tryz.f28.ntmps 0 (pieceOf (.blk 0) (getBody Tryz.f28)) (p_r10_Steps_0.cut (gcN 0 [0,1,5]) (r10_Steps.l0 κ κ)):=
 Piece.loop p_r10_Steps_0_ok C_ok mixed (gam79_ok κ m) gcN_ok xx20_ok (cut:=noCut) (X:=xx20) (id:=0) (body:=bodyOf (pieceOf (.blk 0) (getBody Tryz.f28))) (cuts_by (l:=[]) (by kernel_rfl) (all_nil)) (f:=r10_Steps.l0 κ) (fun s=>by kernel_rfl) (fun k s=>by kernel_rfl) κ
def cc_r10_Steps_1(κ:Nat):Cut T:=p_r10_Steps_0.cut (gcN 0 [0,1,5]) (r10_Steps.l0 κ κ)
theorem cc_r10_Steps_1_ok(κ:Nat)(m:Int):CutOk Tryz.prog C (G m) Tryz.f28.ntmps 0 (pieceOf (.blk 0) (getBody Tryz.f28)) (cc_r10_Steps_1 κ):=p_r10_Steps_0_ct κ m
def ct_r10_Steps_1(κ:Nat):Key→Option (Cut T):=addCut noCut (.blk 0) (cc_r10_Steps_1 κ)
def sp_r10_Steps:=mkS (T:=T) [.sl 55,.sl 55] [] [⟨false,.b,[]⟩]
theorem sp_r10_Steps_ok:SpecOk sp_r10_Steps:=mkS_ok _ _ _
theorem ok_r10_Steps(κ:Nat)(m:Int):EOk Tryz.prog C (G m) 28 (sp_r10_Steps.entry (cur _ (r10_Steps κ))):=
 Spec.ok sp_r10_Steps_ok C_ok mixed (gam79_ok κ m) (cut:=(ct_r10_Steps_1 κ)) (NR:=(gcN 0 [0])) (NP:=(gcN 0 [0])) (nB:=0) Tryz.func28 (c:=(getBody Tryz.f28)) (by kernel_rfl) (by kernel_rfl) (fun i=>by kernel_rfl) gcN_ok gcN_ok (cuts_by (l:=[(pieceOf (.blk 0) (getBody Tryz.f28),cc_r10_Steps_1 κ)]) (by kernel_rfl) (all_cons (cc_r10_Steps_1_ok κ m) (all_nil))) (fun i=>by kernel_rfl)
noncomputable def gam82(κ:Nat):Gam T:=(gam79 κ).addS 28 sp_r10_Steps (cur _ (r10_Steps κ))
theorem gam82_ok(κ:Nat)(m:Int):GOk Tryz.prog C (G m) (gam82 κ):=(gam79_ok κ m).addS (ok_r10_Steps κ m)
def p_r33_name_0:=mkP (T:=T) [⟨[(0,.i .i64),(3,.own 0)],[.row 9 true],[]⟩] [⟨.normal,⟨[(0,.i .i64),(3,.own 0),(12,.b)],[.row 9 true],[]⟩⟩]
theorem p_r33_name_0_ok:PieceOk p_r33_name_0:=mkP_ok _ _
theorem p_r33_name_0_ct(κ:Nat)(m:Int):CutOk Tryz.prog C (G m) Tryz.f19.ntmps 0 (pieceOf (.reg 2) (getBody Tryz.f19)) (p_r33_name_0.cut (gcN 0 [0,3]) (cur _ (r33_name.v0 κ))):=
 Piece.join p_r33_name_0_ok C_ok mixed (gam82_ok κ m) gcN_ok xx48_ok (cut:=noCut) (X:=xx48) (cuts_by (l:=[]) (by kernel_rfl) (all_nil)) (fun s=>by kernel_rfl)
def cc_r33_name_1(κ:Nat):Cut T:=p_r33_name_0.cut (gcN 0 [0,3]) (cur _ (r33_name.v0 κ))
theorem cc_r33_name_1_ok(κ:Nat)(m:Int):CutOk Tryz.prog C (G m) Tryz.f19.ntmps 0 (pieceOf (.reg 2) (getBody Tryz.f19)) (cc_r33_name_1 κ):=p_r33_name_0_ct κ m
def ct_r33_name_1(κ:Nat):Key→Option (Cut T):=addCut noCut (.reg 2) (cc_r33_name_1 κ)
def sp_r33_name:=mkS (T:=T) [.i .i64] [] [⟨false,.s,[]⟩]
theorem sp_r33_name_ok:SpecOk sp_r33_name:=mkS_ok _ _ _
theorem ok_r33_name(κ:Nat)(m:Int):EOk Tryz.prog C (G m) 19 (sp_r33_name.entry (fun a0=>r33_name κ a0)):=
 Spec.ok sp_r33_name_ok C_ok mixed (gam82_ok κ m) (cut:=(ct_r33_name_1 κ)) (NR:=(gcN 0 [0])) (NP:=(gcN 0 [0])) (nB:=0) Tryz.func19 (c:=(getBody Tryz.f19)) (by kernel_rfl) (by kernel_rfl) (fun i=>by kernel_rfl) gcN_ok gcN_ok (cuts_by (l:=[(pieceOf (.reg 2) (getBody Tryz.f19),cc_r33_name_1 κ)]) (by kernel_rfl) (all_cons (cc_r33_name_1_ok κ m) (all_nil))) (fun i=>by kernel_rfl)
noncomputable def gam83(κ:Nat):Gam T:=(gam82 κ).addS 19 sp_r33_name (fun a0=>r33_name κ a0)
theorem gam83_ok(κ:Nat)(m:Int):GOk Tryz.prog C (G m) (gam83 κ):=(gam82_ok κ m).addS (ok_r33_name κ m)
def p_r33_Same_0:=mkP (T:=T) [⟨[(2,.ptr 0 0),(3,.ptr 1 0),(5,.b)],[.cells 32 none kk16,.cells 32 none kk16],[]⟩] [⟨.normal,⟨[(4,.b)],[],[]⟩⟩]
theorem p_r33_Same_0_ok:PieceOk p_r33_Same_0:=mkP_ok _ _
theorem p_r33_Same_0_ct(κ:Nat)(m:Int):CutOk Tryz.prog C (G m) Tryz.f14.ntmps 0 (pieceOf (.reg 2) (getBody Tryz.f14)) (p_r33_Same_0.cut (gcN 0 [2,3,5]) (cur _ (r33_Same.v0 κ))):=
 Piece.join p_r33_Same_0_ok C_ok mixed (gam83_ok κ m) gcN_ok xx7_ok (cut:=noCut) (X:=xx7) (cuts_by (l:=[]) (by kernel_rfl) (all_nil)) (fun s=>by kernel_rfl)
def cc_r33_Same_1(κ:Nat):Cut T:=p_r33_Same_0.cut (gcN 0 [2,3,5]) (cur _ (r33_Same.v0 κ))
theorem cc_r33_Same_1_ok(κ:Nat)(m:Int):CutOk Tryz.prog C (G m) Tryz.f14.ntmps 0 (pieceOf (.reg 2) (getBody Tryz.f14)) (cc_r33_Same_1 κ):=p_r33_Same_0_ct κ m
def ct_r33_Same_1(κ:Nat):Key→Option (Cut T):=addCut noCut (.reg 2) (cc_r33_Same_1 κ)
def sp_r33_Same:=mkS (T:=T) [.agg kk16,.agg kk16] [] [⟨false,.b,[]⟩]
theorem sp_r33_Same_ok:SpecOk sp_r33_Same:=mkS_ok _ _ _
theorem ok_r33_Same(κ:Nat)(m:Int):EOk Tryz.prog C (G m) 14 (sp_r33_Same.entry (cur _ (r33_Same κ))):=
 Spec.ok sp_r33_Same_ok C_ok mixed (gam83_ok κ m) (cut:=(ct_r33_Same_1 κ)) (NR:=(gcN 0 [0])) (NP:=(gcN 0 [0])) (nB:=0) Tryz.func14 (c:=(getBody Tryz.f14)) (by kernel_rfl) (by kernel_rfl) (fun i=>by kernel_rfl) gcN_ok gcN_ok (cuts_by (l:=[(pieceOf (.reg 2) (getBody Tryz.f14),cc_r33_Same_1 κ)]) (by kernel_rfl) (all_cons (cc_r33_Same_1_ok κ m) (all_nil))) (fun i=>by kernel_rfl)
noncomputable def gam84(κ:Nat):Gam T:=(gam83 κ).addS 14 sp_r33_Same (cur _ (r33_Same κ))
theorem gam84_ok(κ:Nat)(m:Int):GOk Tryz.prog C (G m) (gam84 κ):=(gam83_ok κ m).addS (ok_r33_Same κ m)
def p_r33_only_0:=mkP (T:=T) [⟨[(1,.ptr 0 0),(2,.ptr 1 0),(3,.i .i64),(4,.ptr 2 0),(10,.b)],kk50,[]⟩] [⟨.normal,⟨[(1,.ptr 0 0),(2,.ptr 1 0),(3,.i .i64),(4,.ptr 2 0)],kk50,[]⟩⟩]
theorem p_r33_only_0_ok:PieceOk p_r33_only_0:=mkP_ok _ _
theorem p_r33_only_0_ct(κ:Nat)(m:Int):CutOk Tryz.prog C (G m) Tryz.f20.ntmps 0 (pieceOf (.cnd 10 5) (getBody Tryz.f20)) (p_r33_only_0.cut (gcN 0 [1,2,3,4,10]) (cur _ (r33_only.v0 κ))):=
 Piece.join p_r33_only_0_ok C_ok mixed (gam84_ok κ m) gcN_ok xx49_ok (cut:=noCut) (X:=xx49) (cuts_by (l:=[]) (by kernel_rfl) (all_nil)) (fun s=>by kernel_rfl)
def cc_r33_only_1(κ:Nat):Cut T:=p_r33_only_0.cut (gcN 0 [1,2,3,4,10]) (cur _ (r33_only.v0 κ))
theorem cc_r33_only_1_ok(κ:Nat)(m:Int):CutOk Tryz.prog C (G m) Tryz.f20.ntmps 0 (pieceOf (.cnd 10 5) (getBody Tryz.f20)) (cc_r33_only_1 κ):=p_r33_only_0_ct κ m
def ct_r33_only_1(κ:Nat):Key→Option (Cut T):=addCut noCut (.cnd 10 5) (cc_r33_only_1 κ)
def p_r33_only_2:=mkP (T:=T) [⟨[(1,.ptr 0 0),(2,.ptr 1 0),(3,.i .i64),(4,.ptr 2 0)],kk50,[]⟩] [⟨.normal,⟨[(1,.ptr 0 0),(2,.ptr 1 0),(3,.i .i64),(4,.ptr 2 0),(19,.b)],kk50,[]⟩⟩]
theorem p_r33_only_2_ok:PieceOk p_r33_only_2:=mkP_ok _ _
theorem p_r33_only_2_ct(κ:Nat)(m:Int):CutOk Tryz.prog C (G m) Tryz.f20.ntmps 0 (pieceOf (.reg 5) (getBody Tryz.f20)) (p_r33_only_2.cut (gcN 0 [1,2,3,4]) (cur _ (r33_only.v2 κ))):=
 Piece.join p_r33_only_2_ok C_ok mixed (gam84_ok κ m) gcN_ok xx50_ok (cut:=(ct_r33_only_1 κ)) (X:=xx50) (cuts_by (l:=[]) (by kernel_rfl) (all_nil)) (fun s=>by kernel_rfl)
def cc_r33_only_3(κ:Nat):Cut T:=p_r33_only_2.cut (gcN 0 [1,2,3,4]) (cur _ (r33_only.v2 κ))
theorem cc_r33_only_3_ok(κ:Nat)(m:Int):CutOk Tryz.prog C (G m) Tryz.f20.ntmps 0 (pieceOf (.reg 5) (getBody Tryz.f20)) (cc_r33_only_3 κ):=p_r33_only_2_ct κ m
def ct_r33_only_3(κ:Nat):Key→Option (Cut T):=addCut (ct_r33_only_1 κ) (.reg 5) (cc_r33_only_3 κ)
def p_r33_only_4:=mkP (T:=T) [⟨[(1,.ptr 0 0),(2,.ptr 1 0),(3,.i .i64),(4,.ptr 2 0),(19,.b)],kk50,[]⟩] [⟨.normal,⟨[(1,.ptr 0 0),(2,.ptr 1 0),(3,.i .i64),(4,.ptr 2 0)],kk51,[]⟩⟩]
theorem p_r33_only_4_ok:PieceOk p_r33_only_4:=mkP_ok _ _
theorem p_r33_only_4_ct(κ:Nat)(m:Int):CutOk Tryz.prog C (G m) Tryz.f20.ntmps 0 (pieceOf (.cnd 19 7) (getBody Tryz.f20)) (p_r33_only_4.cut (gcN 0 [1,2,3,4,19]) (cur _ (r33_only.v4 κ))):=
 Piece.join p_r33_only_4_ok C_ok mixed (gam84_ok κ m) gcN_ok xx51_ok (cut:=(ct_r33_only_3 κ)) (X:=xx51) (cuts_by (l:=[]) (by kernel_rfl) (all_nil)) (fun s=>by kernel_rfl)
def cc_r33_only_5(κ:Nat):Cut T:=p_r33_only_4.cut (gcN 0 [1,2,3,4,19]) (cur _ (r33_only.v4 κ))
theorem cc_r33_only_5_ok(κ:Nat)(m:Int):CutOk Tryz.prog C (G m) Tryz.f20.ntmps 0 (pieceOf (.cnd 19 7) (getBody Tryz.f20)) (cc_r33_only_5 κ):=p_r33_only_4_ct κ m
def ct_r33_only_5(κ:Nat):Key→Option (Cut T):=addCut (ct_r33_only_3 κ) (.cnd 19 7) (cc_r33_only_5 κ)
def p_r33_only_6:=mkP (T:=T) [⟨[(1,.ptr 0 0),(2,.ptr 1 0),(3,.i .i64),(4,.ptr 2 0),(24,.b)],kk51,[]⟩] [⟨.normal,⟨[(1,.ptr 0 0),(2,.ptr 1 0),(3,.i .i64),(4,.ptr 2 0)],kk51,[]⟩⟩]
theorem p_r33_only_6_ok:PieceOk p_r33_only_6:=mkP_ok _ _
theorem p_r33_only_6_ct(κ:Nat)(m:Int):CutOk Tryz.prog C (G m) Tryz.f20.ntmps 0 (pieceOf (.cnd 24 9) (getBody Tryz.f20)) (p_r33_only_6.cut (gcN 0 [1,2,3,4,24]) (cur _ (r33_only.v6 κ))):=
 Piece.join p_r33_only_6_ok C_ok mixed (gam84_ok κ m) gcN_ok xx49_ok (cut:=(ct_r33_only_5 κ)) (X:=xx49) (cuts_by (l:=[]) (by kernel_rfl) (all_nil)) (fun s=>by kernel_rfl)
def cc_r33_only_7(κ:Nat):Cut T:=p_r33_only_6.cut (gcN 0 [1,2,3,4,24]) (cur _ (r33_only.v6 κ))
theorem cc_r33_only_7_ok(κ:Nat)(m:Int):CutOk Tryz.prog C (G m) Tryz.f20.ntmps 0 (pieceOf (.cnd 24 9) (getBody Tryz.f20)) (cc_r33_only_7 κ):=p_r33_only_6_ct κ m
def ct_r33_only_7(κ:Nat):Key→Option (Cut T):=addCut (ct_r33_only_5 κ) (.cnd 24 9) (cc_r33_only_7 κ)
def p_r33_only_8:=mkP (T:=T) [⟨[(1,.ptr 0 0),(2,.ptr 1 0),(3,.i .i64),(4,.ptr 2 0)],kk51,[]⟩] [⟨.normal,⟨[(1,.ptr 0 0),(2,.ptr 1 0),(3,.i .i64),(4,.ptr 2 0),(37,.b)],kk51,[]⟩⟩]
theorem p_r33_only_8_ok:PieceOk p_r33_only_8:=mkP_ok _ _
theorem p_r33_only_8_ct(κ:Nat)(m:Int):CutOk Tryz.prog C (G m) Tryz.f20.ntmps 0 (pieceOf (.reg 9) (getBody Tryz.f20)) (p_r33_only_8.cut (gcN 0 [1,2,3,4]) (cur _ (r33_only.v8 κ))):=
 Piece.join p_r33_only_8_ok C_ok mixed (gam84_ok κ m) gcN_ok xx52_ok (cut:=(ct_r33_only_7 κ)) (X:=xx52) (cuts_by (l:=[]) (by kernel_rfl) (all_nil)) (fun s=>by kernel_rfl)
def cc_r33_only_9(κ:Nat):Cut T:=p_r33_only_8.cut (gcN 0 [1,2,3,4]) (cur _ (r33_only.v8 κ))
theorem cc_r33_only_9_ok(κ:Nat)(m:Int):CutOk Tryz.prog C (G m) Tryz.f20.ntmps 0 (pieceOf (.reg 9) (getBody Tryz.f20)) (cc_r33_only_9 κ):=p_r33_only_8_ct κ m
def ct_r33_only_9(κ:Nat):Key→Option (Cut T):=addCut (ct_r33_only_7 κ) (.reg 9) (cc_r33_only_9 κ)
def p_r33_only_10:=mkP (T:=T) [⟨[(1,.ptr 0 0),(2,.ptr 1 0),(3,.i .i64),(4,.ptr 2 0),(37,.b)],kk51,[]⟩] [⟨.normal,⟨[(1,.ptr 0 0),(2,.ptr 1 0),(3,.i .i64),(4,.ptr 2 0)],kk51,[]⟩⟩]
theorem p_r33_only_10_ok:PieceOk p_r33_only_10:=mkP_ok _ _
theorem p_r33_only_10_ct(κ:Nat)(m:Int):CutOk Tryz.prog C (G m) Tryz.f20.ntmps 0 (pieceOf (.cnd 37 11) (getBody Tryz.f20)) (p_r33_only_10.cut (gcN 0 [1,2,3,4,37]) (cur _ (r33_only.v10 κ))):=
 Piece.join p_r33_only_10_ok C_ok mixed (gam84_ok κ m) gcN_ok xx49_ok (cut:=(ct_r33_only_9 κ)) (X:=xx49) (cuts_by (l:=[]) (by kernel_rfl) (all_nil)) (fun s=>by kernel_rfl)
def cc_r33_only_11(κ:Nat):Cut T:=p_r33_only_10.cut (gcN 0 [1,2,3,4,37]) (cur _ (r33_only.v10 κ))
theorem cc_r33_only_11_ok(κ:Nat)(m:Int):CutOk Tryz.prog C (G m) Tryz.f20.ntmps 0 (pieceOf (.cnd 37 11) (getBody Tryz.f20)) (cc_r33_only_11 κ):=p_r33_only_10_ct κ m
def ct_r33_only_11(κ:Nat):Key→Option (Cut T):=addCut (ct_r33_only_9 κ) (.cnd 37 11) (cc_r33_only_11 κ)
def p_r33_only_12:=mkP (T:=T) [⟨[(1,.ptr 0 0),(2,.ptr 1 0),(3,.i .i64),(4,.ptr 2 0),(42,.b)],kk51,[]⟩] [⟨.normal,⟨[(1,.ptr 0 0),(2,.ptr 1 0),(3,.i .i64),(4,.ptr 2 0)],kk51,[]⟩⟩]
theorem p_r33_only_12_ok:PieceOk p_r33_only_12:=mkP_ok _ _
theorem p_r33_only_12_ct(κ:Nat)(m:Int):CutOk Tryz.prog C (G m) Tryz.f20.ntmps 0 (pieceOf (.cnd 42 13) (getBody Tryz.f20)) (p_r33_only_12.cut (gcN 0 [1,2,3,4,42]) (cur _ (r33_only.v12 κ))):=
 Piece.join p_r33_only_12_ok C_ok mixed (gam84_ok κ m) gcN_ok xx49_ok (cut:=(ct_r33_only_11 κ)) (X:=xx49) (cuts_by (l:=[]) (by kernel_rfl) (all_nil)) (fun s=>by kernel_rfl)
def cc_r33_only_13(κ:Nat):Cut T:=p_r33_only_12.cut (gcN 0 [1,2,3,4,42]) (cur _ (r33_only.v12 κ))
theorem cc_r33_only_13_ok(κ:Nat)(m:Int):CutOk Tryz.prog C (G m) Tryz.f20.ntmps 0 (pieceOf (.cnd 42 13) (getBody Tryz.f20)) (cc_r33_only_13 κ):=p_r33_only_12_ct κ m
def ct_r33_only_13(κ:Nat):Key→Option (Cut T):=addCut (ct_r33_only_11 κ) (.cnd 42 13) (cc_r33_only_13 κ)
def p_r33_only_14:=mkP (T:=T) [⟨[(1,.ptr 0 0),(2,.ptr 1 0),(3,.i .i64),(4,.ptr 2 0)],kk51,[]⟩] [⟨.normal,⟨[(1,.ptr 0 0),(2,.ptr 1 0),(3,.i .i64),(4,.ptr 2 0),(54,.b)],kk51,[]⟩⟩]
theorem p_r33_only_14_ok:PieceOk p_r33_only_14:=mkP_ok _ _
theorem p_r33_only_14_ct(κ:Nat)(m:Int):CutOk Tryz.prog C (G m) Tryz.f20.ntmps 0 (pieceOf (.reg 14) (getBody Tryz.f20)) (p_r33_only_14.cut (gcN 0 [1,2,3,4]) (cur _ (r33_only.v14 κ))):=
 Piece.join p_r33_only_14_ok C_ok mixed (gam84_ok κ m) gcN_ok xx53_ok (cut:=(ct_r33_only_13 κ)) (X:=xx53) (cuts_by (l:=[]) (by kernel_rfl) (all_nil)) (fun s=>by kernel_rfl)
def cc_r33_only_15(κ:Nat):Cut T:=p_r33_only_14.cut (gcN 0 [1,2,3,4]) (cur _ (r33_only.v14 κ))
theorem cc_r33_only_15_ok(κ:Nat)(m:Int):CutOk Tryz.prog C (G m) Tryz.f20.ntmps 0 (pieceOf (.reg 14) (getBody Tryz.f20)) (cc_r33_only_15 κ):=p_r33_only_14_ct κ m
def ct_r33_only_15(κ:Nat):Key→Option (Cut T):=addCut (ct_r33_only_13 κ) (.reg 14) (cc_r33_only_15 κ)
def p_r33_only_16:=mkP (T:=T) [⟨[(1,.ptr 0 0),(2,.ptr 1 0),(3,.i .i64),(4,.ptr 2 0),(54,.b)],kk51,[]⟩] [⟨.normal,⟨[(1,.ptr 0 0),(2,.ptr 1 0),(3,.i .i64),(4,.ptr 2 0)],kk51,[]⟩⟩]
theorem p_r33_only_16_ok:PieceOk p_r33_only_16:=mkP_ok _ _
theorem p_r33_only_16_ct(κ:Nat)(m:Int):CutOk Tryz.prog C (G m) Tryz.f20.ntmps 0 (pieceOf (.cnd 54 16) (getBody Tryz.f20)) (p_r33_only_16.cut (gcN 0 [1,2,3,4,54]) (cur _ (r33_only.v16 κ))):=
 Piece.join p_r33_only_16_ok C_ok mixed (gam84_ok κ m) gcN_ok xx49_ok (cut:=(ct_r33_only_15 κ)) (X:=xx49) (cuts_by (l:=[]) (by kernel_rfl) (all_nil)) (fun s=>by kernel_rfl)
def cc_r33_only_17(κ:Nat):Cut T:=p_r33_only_16.cut (gcN 0 [1,2,3,4,54]) (cur _ (r33_only.v16 κ))
theorem cc_r33_only_17_ok(κ:Nat)(m:Int):CutOk Tryz.prog C (G m) Tryz.f20.ntmps 0 (pieceOf (.cnd 54 16) (getBody Tryz.f20)) (cc_r33_only_17 κ):=p_r33_only_16_ct κ m
def ct_r33_only_17(κ:Nat):Key→Option (Cut T):=addCut (ct_r33_only_15 κ) (.cnd 54 16) (cc_r33_only_17 κ)
def p_r33_only_18:=mkP (T:=T) [⟨[(1,.ptr 0 0),(2,.ptr 1 0),(3,.i .i64),(4,.ptr 2 0)],kk51,[]⟩] [⟨.normal,⟨[(1,.ptr 0 0),(2,.ptr 1 0),(3,.i .i64),(4,.ptr 2 0),(63,.b)],kk51,[]⟩⟩]
theorem p_r33_only_18_ok:PieceOk p_r33_only_18:=mkP_ok _ _
theorem p_r33_only_18_ct(κ:Nat)(m:Int):CutOk Tryz.prog C (G m) Tryz.f20.ntmps 0 (pieceOf (.reg 16) (getBody Tryz.f20)) (p_r33_only_18.cut (gcN 0 [1,2,3,4]) (cur _ (r33_only.v18 κ))):=
 Piece.join p_r33_only_18_ok C_ok mixed (gam84_ok κ m) gcN_ok xx54_ok (cut:=(ct_r33_only_17 κ)) (X:=xx54) (cuts_by (l:=[]) (by kernel_rfl) (all_nil)) (fun s=>by kernel_rfl)
def cc_r33_only_19(κ:Nat):Cut T:=p_r33_only_18.cut (gcN 0 [1,2,3,4]) (cur _ (r33_only.v18 κ))
theorem cc_r33_only_19_ok(κ:Nat)(m:Int):CutOk Tryz.prog C (G m) Tryz.f20.ntmps 0 (pieceOf (.reg 16) (getBody Tryz.f20)) (cc_r33_only_19 κ):=p_r33_only_18_ct κ m
def ct_r33_only_19(κ:Nat):Key→Option (Cut T):=addCut (ct_r33_only_17 κ) (.reg 16) (cc_r33_only_19 κ)
def p_r33_only_20:=mkP (T:=T) [⟨[(1,.ptr 0 0),(2,.ptr 1 0),(3,.i .i64),(4,.ptr 2 0),(63,.b)],kk51,[]⟩] [⟨.normal,⟨[(1,.ptr 0 0),(2,.ptr 1 0),(3,.i .i64),(4,.ptr 2 0)],kk51,[]⟩⟩]
theorem p_r33_only_20_ok:PieceOk p_r33_only_20:=mkP_ok _ _
theorem p_r33_only_20_ct(κ:Nat)(m:Int):CutOk Tryz.prog C (G m) Tryz.f20.ntmps 0 (pieceOf (.cnd 63 18) (getBody Tryz.f20)) (p_r33_only_20.cut (gcN 0 [1,2,3,4,63]) (cur _ (r33_only.v20 κ))):=
 Piece.join p_r33_only_20_ok C_ok mixed (gam84_ok κ m) gcN_ok xx49_ok (cut:=(ct_r33_only_19 κ)) (X:=xx49) (cuts_by (l:=[]) (by kernel_rfl) (all_nil)) (fun s=>by kernel_rfl)
def cc_r33_only_21(κ:Nat):Cut T:=p_r33_only_20.cut (gcN 0 [1,2,3,4,63]) (cur _ (r33_only.v20 κ))
theorem cc_r33_only_21_ok(κ:Nat)(m:Int):CutOk Tryz.prog C (G m) Tryz.f20.ntmps 0 (pieceOf (.cnd 63 18) (getBody Tryz.f20)) (cc_r33_only_21 κ):=p_r33_only_20_ct κ m
def ct_r33_only_21(κ:Nat):Key→Option (Cut T):=addCut (ct_r33_only_19 κ) (.cnd 63 18) (cc_r33_only_21 κ)
def p_r33_only_22:=mkP (T:=T) [⟨[(1,.ptr 0 0),(2,.ptr 1 0),(4,.ptr 2 0),(68,.b)],kk51,[]⟩] [⟨.normal,⟨[(2,.ptr 0 0),(4,.ptr 1 0)],kk36,[]⟩⟩]
theorem p_r33_only_22_ok:PieceOk p_r33_only_22:=mkP_ok _ _
theorem p_r33_only_22_ct(κ:Nat)(m:Int):CutOk Tryz.prog C (G m) Tryz.f20.ntmps 0 (pieceOf (.cnd 68 20) (getBody Tryz.f20)) (p_r33_only_22.cut (gcN 0 [1,2,4,68]) (cur _ (r33_only.v22 κ))):=
 Piece.join p_r33_only_22_ok C_ok mixed (gam84_ok κ m) gcN_ok xx55_ok (cut:=(ct_r33_only_21 κ)) (X:=xx55) (cuts_by (l:=[]) (by kernel_rfl) (all_nil)) (fun s=>by kernel_rfl)
def cc_r33_only_23(κ:Nat):Cut T:=p_r33_only_22.cut (gcN 0 [1,2,4,68]) (cur _ (r33_only.v22 κ))
theorem cc_r33_only_23_ok(κ:Nat)(m:Int):CutOk Tryz.prog C (G m) Tryz.f20.ntmps 0 (pieceOf (.cnd 68 20) (getBody Tryz.f20)) (cc_r33_only_23 κ):=p_r33_only_22_ct κ m
def ct_r33_only_23(κ:Nat):Key→Option (Cut T):=addCut (ct_r33_only_21 κ) (.cnd 68 20) (cc_r33_only_23 κ)
def sp_r33_only:=mkS (T:=T) kk21 [] [⟨false,.agg kk16,[]⟩]
theorem sp_r33_only_ok:SpecOk sp_r33_only:=mkS_ok _ _ _
theorem ok_r33_only(κ:Nat)(m:Int):EOk Tryz.prog C (G m) 20 (sp_r33_only.entry (cur _ (r33_only κ))):=
 Spec.ok sp_r33_only_ok C_ok mixed (gam84_ok κ m) (cut:=(ct_r33_only_23 κ)) (NR:=(gcN 0 [0])) (NP:=(gcN 0 [0])) (nB:=0) Tryz.func20 (c:=(getBody Tryz.f20)) (by kernel_rfl) (by kernel_rfl) (fun i=>by kernel_rfl) gcN_ok gcN_ok (cuts_by (l:=[(pieceOf (.cnd 10 5) (getBody Tryz.f20),cc_r33_only_1 κ),(pieceOf (.reg 5) (getBody Tryz.f20),cc_r33_only_3 κ),(pieceOf (.cnd 19 7) (getBody Tryz.f20),cc_r33_only_5 κ),(pieceOf (.cnd 24 9) (getBody Tryz.f20),cc_r33_only_7 κ),(pieceOf (.reg 9) (getBody Tryz.f20),cc_r33_only_9 κ),(pieceOf (.cnd 37 11) (getBody Tryz.f20),cc_r33_only_11 κ),(pieceOf (.cnd 42 13) (getBody Tryz.f20),cc_r33_only_13 κ),(pieceOf (.reg 14) (getBody Tryz.f20),cc_r33_only_15 κ),(pieceOf (.cnd 54 16) (getBody Tryz.f20),cc_r33_only_17 κ),(pieceOf (.reg 16) (getBody Tryz.f20),cc_r33_only_19 κ),(pieceOf (.cnd 63 18) (getBody Tryz.f20),cc_r33_only_21 κ),(pieceOf (.cnd 68 20) (getBody Tryz.f20),cc_r33_only_23 κ)]) (by kernel_rfl) (all_cons (cc_r33_only_1_ok κ m) (all_cons (cc_r33_only_3_ok κ m) (all_cons (cc_r33_only_5_ok κ m) (all_cons (cc_r33_only_7_ok κ m) (all_cons (cc_r33_only_9_ok κ m) (all_cons (cc_r33_only_11_ok κ m) (all_cons (cc_r33_only_13_ok κ m) (all_cons (cc_r33_only_15_ok κ m) (all_cons (cc_r33_only_17_ok κ m) (all_cons (cc_r33_only_19_ok κ m) (all_cons (cc_r33_only_21_ok κ m) (all_cons (cc_r33_only_23_ok κ m) (all_nil)))))))))))))) (fun i=>by kernel_rfl)
noncomputable def gam85(κ:Nat):Gam T:=(gam84 κ).addS 20 sp_r33_only (cur _ (r33_only κ))
theorem gam85_ok(κ:Nat)(m:Int):GOk Tryz.prog C (G m) (gam85 κ):=(gam84_ok κ m).addS (ok_r33_only κ m)
def p_r33_Right_0:=mkP (T:=T) [⟨[(1,.ptr 0 0),(3,.s),(4,.b)],kk24,[]⟩] [⟨.normal,⟨[(1,.ptr 0 0),(34,.b)],kk24,[]⟩⟩]
theorem p_r33_Right_0_ok:PieceOk p_r33_Right_0:=mkP_ok _ _
theorem p_r33_Right_0_ct(κ:Nat)(m:Int):CutOk Tryz.prog C (G m) Tryz.f10.ntmps 0 (pieceOf (.reg 3) (getBody Tryz.f10)) (p_r33_Right_0.cut (gcN 0 [1,3,4]) (cur _ (r33_Right.v0 κ))):=
 Piece.join p_r33_Right_0_ok C_ok mixed (gam85_ok κ m) gcN_ok xx56_ok (cut:=noCut) (X:=xx56) (cuts_by (l:=[]) (by kernel_rfl) (all_nil)) (fun s=>by kernel_rfl)
def cc_r33_Right_1(κ:Nat):Cut T:=p_r33_Right_0.cut (gcN 0 [1,3,4]) (cur _ (r33_Right.v0 κ))
theorem cc_r33_Right_1_ok(κ:Nat)(m:Int):CutOk Tryz.prog C (G m) Tryz.f10.ntmps 0 (pieceOf (.reg 3) (getBody Tryz.f10)) (cc_r33_Right_1 κ):=p_r33_Right_0_ct κ m
def ct_r33_Right_1(κ:Nat):Key→Option (Cut T):=addCut noCut (.reg 3) (cc_r33_Right_1 κ)
def p_r33_Right_2:=mkP (T:=T) [⟨[(1,.ptr 0 0),(5,.b),(6,.b)],kk24,[]⟩] [⟨.normal,⟨[(1,.ptr 0 0),(5,.b),(6,.b),(60,.b)],kk24,[]⟩⟩]
theorem p_r33_Right_2_ok:PieceOk p_r33_Right_2:=mkP_ok _ _
theorem p_r33_Right_2_ct(κ:Nat)(m:Int):CutOk Tryz.prog C (G m) Tryz.f10.ntmps 0 (pieceOf (.reg 7) (getBody Tryz.f10)) (p_r33_Right_2.cut (gcN 0 [1,5,6]) (cur _ (r33_Right.v2 κ))):=
 Piece.join p_r33_Right_2_ok C_ok mixed (gam85_ok κ m) gcN_ok xx57_ok (cut:=(ct_r33_Right_1 κ)) (X:=xx57) (cuts_by (l:=[]) (by kernel_rfl) (all_nil)) (fun s=>by kernel_rfl)
def cc_r33_Right_3(κ:Nat):Cut T:=p_r33_Right_2.cut (gcN 0 [1,5,6]) (cur _ (r33_Right.v2 κ))
theorem cc_r33_Right_3_ok(κ:Nat)(m:Int):CutOk Tryz.prog C (G m) Tryz.f10.ntmps 0 (pieceOf (.reg 7) (getBody Tryz.f10)) (cc_r33_Right_3 κ):=p_r33_Right_2_ct κ m
def ct_r33_Right_3(κ:Nat):Key→Option (Cut T):=addCut (ct_r33_Right_1 κ) (.reg 7) (cc_r33_Right_3 κ)
def p_r33_Right_4:=mkP (T:=T) [⟨[(1,.ptr 0 0),(5,.b),(6,.b)],kk24,[]⟩] [⟨.normal,⟨[(2,.b)],[],[]⟩⟩]
theorem p_r33_Right_4_ok:PieceOk p_r33_Right_4:=mkP_ok _ _
theorem p_r33_Right_4_ct(κ:Nat)(m:Int):CutOk Tryz.prog C (G m) Tryz.f10.ntmps 0 (pieceOf (.reg 9) (getBody Tryz.f10)) (p_r33_Right_4.cut (gcN 0 [1,5,6]) (cur _ (r33_Right.v4 κ))):=
 Piece.join p_r33_Right_4_ok C_ok mixed (gam85_ok κ m) gcN_ok xx0_ok (cut:=(ct_r33_Right_3 κ)) (X:=xx0) (cuts_by (l:=[]) (by kernel_rfl) (all_nil)) (fun s=>by kernel_rfl)
def cc_r33_Right_5(κ:Nat):Cut T:=p_r33_Right_4.cut (gcN 0 [1,5,6]) (cur _ (r33_Right.v4 κ))
theorem cc_r33_Right_5_ok(κ:Nat)(m:Int):CutOk Tryz.prog C (G m) Tryz.f10.ntmps 0 (pieceOf (.reg 9) (getBody Tryz.f10)) (cc_r33_Right_5 κ):=p_r33_Right_4_ct κ m
def ct_r33_Right_5(κ:Nat):Key→Option (Cut T):=addCut (ct_r33_Right_3 κ) (.reg 9) (cc_r33_Right_5 κ)
def sp_r33_Right:=mkS (T:=T) kk21 [] [⟨false,.b,[]⟩]
theorem sp_r33_Right_ok:SpecOk sp_r33_Right:=mkS_ok _ _ _
theorem ok_r33_Right(κ:Nat)(m:Int):EOk Tryz.prog C (G m) 10 (sp_r33_Right.entry (cur _ (r33_Right κ))):=
 Spec.ok sp_r33_Right_ok C_ok mixed (gam85_ok κ m) (cut:=(ct_r33_Right_5 κ)) (NR:=(gcN 0 [0])) (NP:=(gcN 0 [0])) (nB:=0) Tryz.func10 (c:=(getBody Tryz.f10)) (by kernel_rfl) (by kernel_rfl) (fun i=>by kernel_rfl) gcN_ok gcN_ok (cuts_by (l:=[(pieceOf (.reg 3) (getBody Tryz.f10),cc_r33_Right_1 κ),(pieceOf (.reg 7) (getBody Tryz.f10),cc_r33_Right_3 κ),(pieceOf (.reg 9) (getBody Tryz.f10),cc_r33_Right_5 κ)]) (by kernel_rfl) (all_cons (cc_r33_Right_1_ok κ m) (all_cons (cc_r33_Right_3_ok κ m) (all_cons (cc_r33_Right_5_ok κ m) (all_nil))))) (fun i=>by kernel_rfl)
noncomputable def gam86(κ:Nat):Gam T:=(gam85 κ).addS 10 sp_r33_Right (cur _ (r33_Right κ))
theorem gam86_ok(κ:Nat)(m:Int):GOk Tryz.prog C (G m) (gam86 κ):=(gam85_ok κ m).addS (ok_r33_Right κ m)
def p_r33_hex_0:=mkP (T:=T) [⟨[(0,.s),(3,.s),(4,.i .i64)],[],[]⟩] [⟨.normal,⟨[(3,.s)],[],[]⟩⟩]
theorem p_r33_hex_0_ok:PieceOk p_r33_hex_0:=mkP_ok _ _
theorem p_r33_hex_0_ct(κ:Nat)(m:Int):CutOk Tryz.prog C (G m) Tryz.f25.ntmps 0 (pieceOf (.blk 0) (getBody Tryz.f25)) (p_r33_hex_0.cut (gcN 0 [0,3,4]) (r33_hex.l0 κ κ)):=
 Piece.loop p_r33_hex_0_ok C_ok mixed (gam86_ok κ m) gcN_ok xx6_ok (cut:=noCut) (X:=xx6) (id:=0) (body:=bodyOf (pieceOf (.blk 0) (getBody Tryz.f25))) (cuts_by (l:=[]) (by kernel_rfl) (all_nil)) (f:=r33_hex.l0 κ) (fun s=>by kernel_rfl) (fun k s=>by kernel_rfl) κ
def cc_r33_hex_1(κ:Nat):Cut T:=p_r33_hex_0.cut (gcN 0 [0,3,4]) (r33_hex.l0 κ κ)
theorem cc_r33_hex_1_ok(κ:Nat)(m:Int):CutOk Tryz.prog C (G m) Tryz.f25.ntmps 0 (pieceOf (.blk 0) (getBody Tryz.f25)) (cc_r33_hex_1 κ):=p_r33_hex_0_ct κ m
def ct_r33_hex_1(κ:Nat):Key→Option (Cut T):=addCut noCut (.blk 0) (cc_r33_hex_1 κ)
def sp_r33_hex:=mkS (T:=T) [.s] [] [⟨false,.s,[]⟩]
theorem sp_r33_hex_ok:SpecOk sp_r33_hex:=mkS_ok _ _ _
theorem ok_r33_hex(κ:Nat)(m:Int):EOk Tryz.prog C (G m) 25 (sp_r33_hex.entry (fun a0=>r33_hex κ a0)):=
 Spec.ok sp_r33_hex_ok C_ok mixed (gam86_ok κ m) (cut:=(ct_r33_hex_1 κ)) (NR:=(gcN 0 [0])) (NP:=(gcN 0 [0])) (nB:=0) Tryz.func25 (c:=(getBody Tryz.f25)) (by kernel_rfl) (by kernel_rfl) (fun i=>by kernel_rfl) gcN_ok gcN_ok (cuts_by (l:=[(pieceOf (.blk 0) (getBody Tryz.f25),cc_r33_hex_1 κ)]) (by kernel_rfl) (all_cons (cc_r33_hex_1_ok κ m) (all_nil))) (fun i=>by kernel_rfl)
noncomputable def gam87(κ:Nat):Gam T:=(gam86 κ).addS 25 sp_r33_hex (fun a0=>r33_hex κ a0)
theorem gam87_ok(κ:Nat)(m:Int):GOk Tryz.prog C (G m) (gam87 κ):=(gam86_ok κ m).addS (ok_r33_hex κ m)
def p_r33_Line_0:=mkP (T:=T) [⟨[(1,.ptr 0 0),(4,.s),(17,.b)],kk24,[]⟩] [⟨.normal,⟨[(1,.ptr 0 0),(4,.s)],kk24,[]⟩⟩]
theorem p_r33_Line_0_ok:PieceOk p_r33_Line_0:=mkP_ok _ _
theorem p_r33_Line_0_ct(κ:Nat)(m:Int):CutOk Tryz.prog C (G m) Tryz.f12.ntmps 0 (pieceOf (.cnd 17 7) (getBody Tryz.f12)) (p_r33_Line_0.cut (gcN 0 [1,4,17]) (cur _ (r33_Line.v0 κ))):=
 Piece.join p_r33_Line_0_ok C_ok mixed (gam86_ok κ m) gcN_ok xx58_ok (cut:=noCut) (X:=xx58) (cuts_by (l:=[]) (by kernel_rfl) (all_nil)) (fun s=>by kernel_rfl)
def cc_r33_Line_1(κ:Nat):Cut T:=p_r33_Line_0.cut (gcN 0 [1,4,17]) (cur _ (r33_Line.v0 κ))
theorem cc_r33_Line_1_ok(κ:Nat)(m:Int):CutOk Tryz.prog C (G m) Tryz.f12.ntmps 0 (pieceOf (.cnd 17 7) (getBody Tryz.f12)) (cc_r33_Line_1 κ):=p_r33_Line_0_ct κ m
def ct_r33_Line_1(κ:Nat):Key→Option (Cut T):=addCut noCut (.cnd 17 7) (cc_r33_Line_1 κ)
def p_r33_Line_2:=mkP (T:=T) [⟨[(1,.ptr 0 0),(4,.s),(5,.s),(6,.s),(30,.b)],kk24,[]⟩] [⟨.normal,⟨[(1,.ptr 0 0),(4,.s),(5,.s),(6,.s)],kk24,[]⟩⟩]
theorem p_r33_Line_2_ok:PieceOk p_r33_Line_2:=mkP_ok _ _
theorem p_r33_Line_2_ct(κ:Nat)(m:Int):CutOk Tryz.prog C (G m) Tryz.f12.ntmps 0 (pieceOf (.cnd 30 11) (getBody Tryz.f12)) (p_r33_Line_2.cut (gcN 0 [1,4,5,6,30]) (cur _ (r33_Line.v2 κ))):=
 Piece.join p_r33_Line_2_ok C_ok mixed (gam86_ok κ m) gcN_ok xx59_ok (cut:=(ct_r33_Line_1 κ)) (X:=xx59) (cuts_by (l:=[]) (by kernel_rfl) (all_nil)) (fun s=>by kernel_rfl)
def cc_r33_Line_3(κ:Nat):Cut T:=p_r33_Line_2.cut (gcN 0 [1,4,5,6,30]) (cur _ (r33_Line.v2 κ))
theorem cc_r33_Line_3_ok(κ:Nat)(m:Int):CutOk Tryz.prog C (G m) Tryz.f12.ntmps 0 (pieceOf (.cnd 30 11) (getBody Tryz.f12)) (cc_r33_Line_3 κ):=p_r33_Line_2_ct κ m
def ct_r33_Line_3(κ:Nat):Key→Option (Cut T):=addCut (ct_r33_Line_1 κ) (.cnd 30 11) (cc_r33_Line_3 κ)
def p_r33_Line_4:=mkP (T:=T) [⟨[(1,.ptr 0 0),(4,.s),(5,.s),(6,.s),(7,.s),(32,.b)],kk24,[]⟩] [⟨.normal,⟨[(1,.ptr 0 0),(4,.s),(5,.s),(6,.s),(7,.s)],kk24,[]⟩⟩]
theorem p_r33_Line_4_ok:PieceOk p_r33_Line_4:=mkP_ok _ _
theorem p_r33_Line_4_ct(κ:Nat)(m:Int):CutOk Tryz.prog C (G m) Tryz.f12.ntmps 0 (pieceOf (.cnd 32 14) (getBody Tryz.f12)) (p_r33_Line_4.cut (gcN 0 [1,4,5,6,7,32]) (cur _ (r33_Line.v4 κ))):=
 Piece.join p_r33_Line_4_ok C_ok mixed (gam86_ok κ m) gcN_ok xx60_ok (cut:=(ct_r33_Line_3 κ)) (X:=xx60) (cuts_by (l:=[]) (by kernel_rfl) (all_nil)) (fun s=>by kernel_rfl)
def cc_r33_Line_5(κ:Nat):Cut T:=p_r33_Line_4.cut (gcN 0 [1,4,5,6,7,32]) (cur _ (r33_Line.v4 κ))
theorem cc_r33_Line_5_ok(κ:Nat)(m:Int):CutOk Tryz.prog C (G m) Tryz.f12.ntmps 0 (pieceOf (.cnd 32 14) (getBody Tryz.f12)) (cc_r33_Line_5 κ):=p_r33_Line_4_ct κ m
def ct_r33_Line_5(κ:Nat):Key→Option (Cut T):=addCut (ct_r33_Line_3 κ) (.cnd 32 14) (cc_r33_Line_5 κ)
def p_r33_Line_7:=mkP (T:=T) [⟨[(1,.ptr 0 0),(4,.s),(5,.s),(6,.s),(7,.s),(34,.i .i64),(64,.b)],kk24,[]⟩] [⟨.normal,⟨[(1,.ptr 0 0),(4,.s),(5,.s),(6,.s),(7,.s),(34,.i .i64),(64,.b)],kk24,[]⟩⟩]
theorem p_r33_Line_7_ok:PieceOk p_r33_Line_7:=mkP_ok _ _
theorem p_r33_Line_7_ct(κ:Nat)(m:Int):CutOk Tryz.prog C (G m) Tryz.f12.ntmps 0 (pieceOf (.cnd 64 26) (getBody Tryz.f12)) (p_r33_Line_7.cut nn6 (cur _ (r33_Line.v7 κ))):=
 Piece.join p_r33_Line_7_ok C_ok mixed (gam86_ok κ m) nn6_ok xx61_ok (cut:=(ct_r33_Line_5 κ)) (X:=xx61) (cuts_by (l:=[]) (by kernel_rfl) (all_nil)) (fun s=>by kernel_rfl)
def cc_r33_Line_8(κ:Nat):Cut T:=p_r33_Line_7.cut nn6 (cur _ (r33_Line.v7 κ))
theorem cc_r33_Line_8_ok(κ:Nat)(m:Int):CutOk Tryz.prog C (G m) Tryz.f12.ntmps 0 (pieceOf (.cnd 64 26) (getBody Tryz.f12)) (cc_r33_Line_8 κ):=p_r33_Line_7_ct κ m
def ct_r33_Line_8(κ:Nat):Key→Option (Cut T):=addCut (ct_r33_Line_5 κ) (.cnd 64 26) (cc_r33_Line_8 κ)
def p_r33_Line_6:=mkP (T:=T) [⟨[(1,.ptr 0 0),(4,.s),(5,.s),(6,.s),(7,.s),(34,.i .i64),(64,.b)],kk24,[]⟩] [⟨.normal,⟨[(1,.ptr 0 0),(4,.s),(5,.s),(6,.s),(7,.s),(34,.i .i64),(64,.b)],kk24,[]⟩⟩]
theorem p_r33_Line_6_ok:PieceOk p_r33_Line_6:=mkP_ok _ _
theorem p_r33_Line_6_ct(κ:Nat)(m:Int):CutOk Tryz.prog C (G m) Tryz.f12.ntmps 0 (pieceOf (.cnd 64 25) (getBody Tryz.f12)) (p_r33_Line_6.cut nn6 (cur _ (r33_Line.v6 κ))):=
 Piece.join p_r33_Line_6_ok C_ok mixed (gam86_ok κ m) nn6_ok xx61_ok (cut:=(ct_r33_Line_8 κ)) (X:=xx61) (cuts_by (l:=[(pieceOf (.cnd 64 26) (getBody Tryz.f12),cc_r33_Line_8 κ)]) (by kernel_rfl) (all_cons (cc_r33_Line_8_ok κ m) (all_nil))) (fun s=>by kernel_rfl)
def cc_r33_Line_9(κ:Nat):Cut T:=p_r33_Line_6.cut nn6 (cur _ (r33_Line.v6 κ))
theorem cc_r33_Line_9_ok(κ:Nat)(m:Int):CutOk Tryz.prog C (G m) Tryz.f12.ntmps 0 (pieceOf (.cnd 64 25) (getBody Tryz.f12)) (cc_r33_Line_9 κ):=p_r33_Line_6_ct κ m
def ct_r33_Line_9(κ:Nat):Key→Option (Cut T):=addCut (ct_r33_Line_5 κ) (.cnd 64 25) (cc_r33_Line_9 κ)
def p_r33_Line_10:=mkP (T:=T) [⟨[(1,.ptr 0 0),(4,.s),(34,.i .i64),(112,.b)],kk24,[]⟩] [⟨.normal,⟨[(1,.ptr 0 0),(4,.s),(112,.b)],kk24,[]⟩⟩]
theorem p_r33_Line_10_ok:PieceOk p_r33_Line_10:=mkP_ok _ _
theorem p_r33_Line_10_ct(κ:Nat)(m:Int):CutOk Tryz.prog C (G m) Tryz.f12.ntmps 0 (pieceOf (.cnd 112 37) (getBody Tryz.f12)) (p_r33_Line_10.cut (gcN 0 [1,4,34,112]) (cur _ (r33_Line.v10 κ))):=
 Piece.join p_r33_Line_10_ok C_ok mixed (gam87_ok κ m) gcN_ok xx62_ok (cut:=(ct_r33_Line_9 κ)) (X:=xx62) (cuts_by (l:=[]) (by kernel_rfl) (all_nil)) (fun s=>by kernel_rfl)
def cc_r33_Line_11(κ:Nat):Cut T:=p_r33_Line_10.cut (gcN 0 [1,4,34,112]) (cur _ (r33_Line.v10 κ))
theorem cc_r33_Line_11_ok(κ:Nat)(m:Int):CutOk Tryz.prog C (G m) Tryz.f12.ntmps 0 (pieceOf (.cnd 112 37) (getBody Tryz.f12)) (cc_r33_Line_11 κ):=p_r33_Line_10_ct κ m
def ct_r33_Line_11(κ:Nat):Key→Option (Cut T):=addCut (ct_r33_Line_9 κ) (.cnd 112 37) (cc_r33_Line_11 κ)
def sp_r33_Line:=mkS (T:=T) kk21 [] [⟨false,.s,[]⟩]
theorem sp_r33_Line_ok:SpecOk sp_r33_Line:=mkS_ok _ _ _
theorem ok_r33_Line(κ:Nat)(m:Int):EOk Tryz.prog C (G m) 12 (sp_r33_Line.entry (cur _ (r33_Line κ))):=
 Spec.ok sp_r33_Line_ok C_ok mixed (gam87_ok κ m) (cut:=(ct_r33_Line_11 κ)) (NR:=(gcN 0 [0])) (NP:=(gcN 0 [0])) (nB:=0) Tryz.func12 (c:=(getBody Tryz.f12)) (by kernel_rfl) (by kernel_rfl) (fun i=>by kernel_rfl) gcN_ok gcN_ok (cuts_by (l:=[(pieceOf (.cnd 17 7) (getBody Tryz.f12),cc_r33_Line_1 κ),(pieceOf (.cnd 30 11) (getBody Tryz.f12),cc_r33_Line_3 κ),(pieceOf (.cnd 32 14) (getBody Tryz.f12),cc_r33_Line_5 κ),(pieceOf (.cnd 64 25) (getBody Tryz.f12),cc_r33_Line_9 κ),(pieceOf (.cnd 112 37) (getBody Tryz.f12),cc_r33_Line_11 κ)]) (by kernel_rfl) (all_cons (cc_r33_Line_1_ok κ m) (all_cons (cc_r33_Line_3_ok κ m) (all_cons (cc_r33_Line_5_ok κ m) (all_cons (cc_r33_Line_9_ok κ m) (all_cons (cc_r33_Line_11_ok κ m) (all_nil))))))) (fun i=>by kernel_rfl)
noncomputable def gam88(κ:Nat):Gam T:=(gam87 κ).addS 12 sp_r33_Line (cur _ (r33_Line κ))
theorem gam88_ok(κ:Nat)(m:Int):GOk Tryz.prog C (G m) (gam88 κ):=(gam87_ok κ m).addS (ok_r33_Line κ m)
def sp_l33_Plain:=mkS (T:=T) kk23 [] [⟨false,.agg kk16,[]⟩]
theorem sp_l33_Plain_ok:SpecOk sp_l33_Plain:=mkS_ok _ _ _
theorem ok_l33_Plain(κ:Nat)(m:Int):EOk Tryz.prog C (G m) 11 (sp_l33_Plain.entry (cur _ (l33_Plain κ))):=
 Spec.ok sp_l33_Plain_ok C_ok mixed (gam88_ok κ m) (cut:=noCut) (NR:=(gcN 0 [0])) (NP:=(gcN 0 [0])) (nB:=0) Tryz.func11 (c:=(getBody Tryz.f11)) (by kernel_rfl) (by kernel_rfl) (fun i=>by kernel_rfl) gcN_ok gcN_ok (cuts_by (l:=[]) (by kernel_rfl) (all_nil)) (fun i=>by kernel_rfl)
noncomputable def gam92(κ:Nat):Gam T:=(gam88 κ).addS 11 sp_l33_Plain (cur _ (l33_Plain κ))
theorem gam92_ok(κ:Nat)(m:Int):GOk Tryz.prog C (G m) (gam92 κ):=(gam88_ok κ m).addS (ok_l33_Plain κ m)
def p_l33_WordsLines_0:=mkP (T:=T) [⟨[(2,.ptr 0 0),(3,.ptr 1 0)],kk38,[]⟩] [⟨.normal,⟨[(2,.ptr 0 0),(3,.ptr 1 0),(46,.b)],kk38,[]⟩⟩]
theorem p_l33_WordsLines_0_ok:PieceOk p_l33_WordsLines_0:=mkP_ok _ _
theorem p_l33_WordsLines_0_ct(κ:Nat)(m:Int):CutOk Tryz.prog C (G m) Tryz.f3.ntmps 0 (pieceOf (.reg 4) (getBody Tryz.f3)) (p_l33_WordsLines_0.cut (gcN 0 [2,3]) (cur _ (l33_WordsLines.v0 κ))):=
 Piece.join p_l33_WordsLines_0_ok C_ok mixed (gam92_ok κ m) gcN_ok xx73_ok (cut:=noCut) (X:=xx73) (cuts_by (l:=[]) (by kernel_rfl) (all_nil)) (fun s=>by kernel_rfl)
def cc_l33_WordsLines_1(κ:Nat):Cut T:=p_l33_WordsLines_0.cut (gcN 0 [2,3]) (cur _ (l33_WordsLines.v0 κ))
theorem cc_l33_WordsLines_1_ok(κ:Nat)(m:Int):CutOk Tryz.prog C (G m) Tryz.f3.ntmps 0 (pieceOf (.reg 4) (getBody Tryz.f3)) (cc_l33_WordsLines_1 κ):=p_l33_WordsLines_0_ct κ m
def ct_l33_WordsLines_1(κ:Nat):Key→Option (Cut T):=addCut noCut (.reg 4) (cc_l33_WordsLines_1 κ)
def p_l33_WordsLines_2:=mkP (T:=T) [⟨[(2,.ptr 0 0),(3,.ptr 1 0),(6,.s),(7,.b)],kk38,[]⟩] [⟨.normal,⟨[(2,.ptr 0 0),(6,.s),(7,.b),(73,.b)],kk26,[]⟩⟩]
theorem p_l33_WordsLines_2_ok:PieceOk p_l33_WordsLines_2:=mkP_ok _ _
theorem p_l33_WordsLines_2_ct(κ:Nat)(m:Int):CutOk Tryz.prog C (G m) Tryz.f3.ntmps 0 (pieceOf (.reg 8) (getBody Tryz.f3)) (p_l33_WordsLines_2.cut (gcN 0 [2,3,6,7]) (cur _ (l33_WordsLines.v2 κ))):=
 Piece.join p_l33_WordsLines_2_ok C_ok mixed (gam92_ok κ m) gcN_ok xx74_ok (cut:=(ct_l33_WordsLines_1 κ)) (X:=xx74) (cuts_by (l:=[]) (by kernel_rfl) (all_nil)) (fun s=>by kernel_rfl)
def cc_l33_WordsLines_3(κ:Nat):Cut T:=p_l33_WordsLines_2.cut (gcN 0 [2,3,6,7]) (cur _ (l33_WordsLines.v2 κ))
theorem cc_l33_WordsLines_3_ok(κ:Nat)(m:Int):CutOk Tryz.prog C (G m) Tryz.f3.ntmps 0 (pieceOf (.reg 8) (getBody Tryz.f3)) (cc_l33_WordsLines_3 κ):=p_l33_WordsLines_2_ct κ m
def ct_l33_WordsLines_3(κ:Nat):Key→Option (Cut T):=addCut (ct_l33_WordsLines_1 κ) (.reg 8) (cc_l33_WordsLines_3 κ)
def p_l33_WordsLines_4:=mkP (T:=T) [⟨[(2,.ptr 0 0),(7,.b),(8,.ptr 1 0),(9,.i .i64)],kk38,[]⟩] [⟨.normal,⟨[(4,.b)],[],[]⟩⟩]
theorem p_l33_WordsLines_4_ok:PieceOk p_l33_WordsLines_4:=mkP_ok _ _
theorem p_l33_WordsLines_4_ct(κ:Nat)(m:Int):CutOk Tryz.prog C (G m) Tryz.f3.ntmps 0 (pieceOf (.reg 11) (getBody Tryz.f3)) (p_l33_WordsLines_4.cut (gcN 0 [2,7,8,9]) (cur _ (l33_WordsLines.v4 κ))):=
 Piece.join p_l33_WordsLines_4_ok C_ok mixed (gam92_ok κ m) gcN_ok xx7_ok (cut:=(ct_l33_WordsLines_3 κ)) (X:=xx7) (cuts_by (l:=[]) (by kernel_rfl) (all_nil)) (fun s=>by kernel_rfl)
def cc_l33_WordsLines_5(κ:Nat):Cut T:=p_l33_WordsLines_4.cut (gcN 0 [2,7,8,9]) (cur _ (l33_WordsLines.v4 κ))
theorem cc_l33_WordsLines_5_ok(κ:Nat)(m:Int):CutOk Tryz.prog C (G m) Tryz.f3.ntmps 0 (pieceOf (.reg 11) (getBody Tryz.f3)) (cc_l33_WordsLines_5 κ):=p_l33_WordsLines_4_ct κ m
def ct_l33_WordsLines_5(κ:Nat):Key→Option (Cut T):=addCut (ct_l33_WordsLines_3 κ) (.reg 11) (cc_l33_WordsLines_5 κ)
def sp_l33_WordsLines:=mkS (T:=T) kk31 [] [⟨false,.b,[]⟩]
theorem sp_l33_WordsLines_ok:SpecOk sp_l33_WordsLines:=mkS_ok _ _ _
theorem ok_l33_WordsLines(κ:Nat)(m:Int):EOk Tryz.prog C (G m) 3 (sp_l33_WordsLines.entry (cur _ (l33_WordsLines κ))):=
 Spec.ok sp_l33_WordsLines_ok C_ok mixed (gam92_ok κ m) (cut:=(ct_l33_WordsLines_5 κ)) (NR:=(gcN 0 [0])) (NP:=(gcN 0 [0])) (nB:=0) Tryz.func3 (c:=(getBody Tryz.f3)) (by kernel_rfl) (by kernel_rfl) (fun i=>by kernel_rfl) gcN_ok gcN_ok (cuts_by (l:=[(pieceOf (.reg 4) (getBody Tryz.f3),cc_l33_WordsLines_1 κ),(pieceOf (.reg 8) (getBody Tryz.f3),cc_l33_WordsLines_3 κ),(pieceOf (.reg 11) (getBody Tryz.f3),cc_l33_WordsLines_5 κ)]) (by kernel_rfl) (all_cons (cc_l33_WordsLines_1_ok κ m) (all_cons (cc_l33_WordsLines_3_ok κ m) (all_cons (cc_l33_WordsLines_5_ok κ m) (all_nil))))) (fun i=>by kernel_rfl)
noncomputable def gam94(κ:Nat):Gam T:=(gam92 κ).addS 3 sp_l33_WordsLines (cur _ (l33_WordsLines κ))
theorem gam94_ok(κ:Nat)(m:Int):GOk Tryz.prog C (G m) (gam94 κ):=(gam92_ok κ m).addS (ok_l33_WordsLines κ m)
end Go.Proofs.YtdoifigogbdodaaGreatDoor.Ev.Seat
