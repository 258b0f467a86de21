import Derived.Test.YtdoifigogbdodaaGreatDoorEvPlain
set_option linter.unusedVariables false
set_option linter.unusedSimpArgs false
set_option maxHeartbeats 1000000
namespace Go.Proofs.YtdoifigogbdodaaGreatDoor.Ev.Seat
open Go Ev Go.Proofs
noncomputable def gamB (κ : Nat) : Gam T := (gamJoin (gamScal (gamLib gam0 κ) κ) κ).give []
theorem gamB_ok (κ : Nat) (m : Int) : GOk Tryz.prog C (G m) (gamB κ) := (gamJoin_ok κ m (gamScal_ok κ m (gamLib_ok κ m gam0_ok))).give
def kk0 : List Sh := [.s, .i .i64, .i .i64, .i .i64]
def kk1 : List Sh := [.ifc 74 (.s), .ifc 89 (.agg [])]
def kk2 : List Sh := [.ifc 78 (.agg []), .ifc 74 (.s)]
def kk3 : List Sh := [.ifc 74 (.s), .ifc 82 (.fn 40 [] [])]
def kk4 : List ShO := [.row 55 true, .cells 55 none [.s, .s]]
def kk5 : List ShO := [.cells 94 none [.pn, .own 1], .row 5 true]
def kk6 : List ShO := [.cells 94 none [.ptr 0 0, .own 1], .row 5 true]
def kk7 : List ShO := [.cells 115 none kk0]
def kk8 : List Sh := [.ifc 78 (.agg []), .ifc 74 (.s), .ifc 68 (.agg [])]
def kk9 : List Sh := [.ifc 78 (.agg []), .ifc 74 (.s), .ifc 79 (.agg [])]
def kk10 : List Sh := [.ifc 78 (.agg []), .ifc 74 (.s), .ifc 82 (.fn 40 [] [])]
def kk11 : List ShO := [.cells 115 none kk0, .row 55 true]
def kk12 : List Sh := [.ifc 78 (.agg []), .ifc 74 (.s), .ifc 74 (.s), .ifc 88 (.agg [])]
def kk13 : List Sh := [.ifc 78 (.agg []), .ifc 74 (.s), .ifc 74 (.s), .ifc 87 (.agg [])]
def kk14 : List Sh := [.ifc 78 (.agg []), .ifc 74 (.s), .ifc 79 (.agg []), .ifc 80 (.agg [])]
def kk15 : List Sh := [.i .i64, .i .i64, .cap0, .s, .i .u64, .b, .b, .s, .i .u64, .i .u64, .s]
def kk16 : List Sh := [.i .i64, .i .i64, .sl 55, .s, .i .u64, .b, .b, .s, .i .u64, .i .u64, .s]
def kk17 : List ShO := [.cells 94 none [.ptr 0 0, .own 2], .cells 55 none [.s, .s], .row 5 true]
def kk18 : List ShO := [.cells 115 none kk0, .cells 55 none [.s, .s]]
def kk19 : List Sh := [.i .i64, .i .i64, .cap0, .s, .i .u64, .b, .b, .s, .i .u64, .i .u64, .cap0]
def kk20 : List Sh := [.i .i64, .i .i64, .sl 55, .s, .i .u64, .b, .b, .s, .i .u64, .i .u64, .sl 5]
def kk21 : List Sh := [.agg kk16]
def kk22 : List Sh := [.ifc 74 (.s), .ifc 89 (.agg []), .ifc 82 (.fn 43 [] []), .ifc 82 (.fn 44 [] [])]
def kk23 : List Sh := [.agg kk20]
def kk24 : List ShO := [.cells 32 none kk16]
def kk25 : List ShO := [.cells 26 none kk19]
def kk26 : List ShO := [.cells 26 none kk20]
def kk27 : List Sh := [.ifc 78 (.agg []), .ifc 74 (.s), .ifc 86 (.agg [.s, .s, .fn 41 [] []]), .ifc 86 (.agg [.s, .s, .fn 42 [] []]), .ifc 82 (.fn 40 [] [])]
def kk28 : List ShO := [.cells 26 none kk20, .row 9 true, .cells 20 none kk1]
def kk29 : List ShO := [.cells 26 none kk20, .row 9 true, .cells 20 none kk2]
def kk30 : List ShO := [.cells 26 none kk20, .row 9 true, .cells 20 none kk3]
def kk31 : List Sh := [.agg kk20, .agg kk20]
def kk32 : List ShO := [.cells 26 none kk20, .row 9 true, .cells 20 none kk8]
def kk33 : List ShO := [.cells 26 none kk20, .row 9 true, .cells 20 none kk9]
def kk34 : List ShO := [.cells 32 none kk15, .cells 32 none kk15]
def kk35 : List ShO := [.cells 32 none kk16, .cells 32 none kk15]
def kk36 : List ShO := [.cells 32 none kk15, .cells 32 none kk16]
def kk37 : List ShO := [.cells 26 none kk20, .row 9 true, .cells 20 none kk10]
def kk38 : List ShO := [.cells 26 none kk20, .cells 26 none kk20]
def kk39 : List ShO := [.cells 26 none kk20, .row 9 true, .cells 20 none kk12]
def kk40 : List ShO := [.cells 26 none kk20, .row 9 true, .cells 20 none kk13]
def kk41 : List ShO := [.cells 26 none kk20, .row 9 true, .cells 20 none kk14]
def kk42 : List ShO := [.cells 26 none kk20, .row 9 true, .cells 20 none kk22]
def kk43 : List ShO := [.cells 26 none kk20, .cells 26 none kk20, .cells 20 none kk1]
def kk44 : List ShO := [.cells 26 none kk20, .cells 26 none kk20, .cells 20 none kk2]
def kk45 : List ShO := [.cells 26 none kk20, .cells 26 none kk20, .cells 20 none kk3]
def kk46 : List ShO := [.cells 26 none kk20, .cells 26 none kk20, .cells 20 none kk8]
def kk47 : List ShO := [.cells 26 none kk20, .cells 26 none kk20, .cells 20 none kk9]
def kk48 : List ShO := [.cells 26 none kk20, .row 9 true, .cells 20 none kk27]
def kk49 : List ShO := [.cells 26 none kk20, .cells 26 none kk20, .cells 20 none kk10]
def kk50 : List ShO := [.cells 32 none kk16, .cells 32 none kk15, .cells 32 none kk15]
def kk51 : List ShO := [.cells 32 none kk16, .cells 32 none kk15, .cells 32 none kk16]
def kk52 : List ShO := [.cells 26 none kk20, .cells 26 none kk20, .cells 20 none kk12]
def kk53 : List ShO := [.cells 26 none kk20, .cells 26 none kk20, .cells 20 none kk13]
def kk54 : List ShO := [.cells 26 none kk20, .cells 26 none kk20, .cells 20 none kk14]
def kk55 : List ShO := [.cells 26 none kk20, .cells 26 none kk20, .cells 20 none kk22]
def kk56 : List ShO := [.cells 26 none kk20, .cells 26 none kk20, .cells 20 none kk27]
def xx0 : Ex T → NormT T := (xN (gcN 0 [2]) [] (gcN 0 [2]) (gcN 0 [1000000]))
theorem xx0_ok {m : Int} (x : Ex T) : NormOk C (G m) 0 (xx0 x) := (xN_ok gcN_ok (ex_nil) gcN_ok gcN_ok) x
def xx1 : Ex T → NormT T := (xN (gcN 1 []) [] (gcN 1 []) (gcN 1 [1000000]))
theorem xx1_ok {m : Int} (x : Ex T) : NormOk C (G m) 1 (xx1 x) := (xN_ok gcN_ok (ex_nil) gcN_ok gcN_ok) x
def xx2 : Ex T → NormT T := (xN (gcN 2 []) [] (gcN 2 []) (gcN 2 [1000000]))
theorem xx2_ok {m : Int} (x : Ex T) : NormOk C (G m) 2 (xx2 x) := (xN_ok gcN_ok (ex_nil) gcN_ok gcN_ok) x
def xx3 : Ex T → NormT T := (xN (gcN 0 [3, 5, 12, 13, 14, 32]) [(1, (gcN 0 [3, 12, 13, 14])), (0, (gcN 0 [3]))] (gcN 0 [2]) (gcN 0 [1000000]))
theorem xx3_ok {m : Int} (x : Ex T) : NormOk C (G m) 0 (xx3 x) := (xN_ok gcN_ok (ex_cons gcN_ok (ex_cons gcN_ok (ex_nil))) gcN_ok gcN_ok) x
def xx4 : Ex T → NormT T := (xN (gcN 0 [3, 12, 13, 14]) [(1, (gcN 0 [3, 12, 13, 14])), (0, (gcN 0 [3]))] (gcN 0 [2]) (gcN 0 [1000000]))
theorem xx4_ok {m : Int} (x : Ex T) : NormOk C (G m) 0 (xx4 x) := (xN_ok gcN_ok (ex_cons gcN_ok (ex_cons gcN_ok (ex_nil))) gcN_ok gcN_ok) x
def xx5 : Ex T → NormT T := (xN (gcN 0 [3, 12, 13, 14]) [(0, (gcN 0 [3]))] (gcN 0 [2]) (gcN 0 [1000000]))
theorem xx5_ok {m : Int} (x : Ex T) : NormOk C (G m) 0 (xx5 x) := (xN_ok gcN_ok (ex_cons gcN_ok (ex_nil)) gcN_ok gcN_ok) x
def xx6 : Ex T → NormT T := (xN (gcN 0 [3]) [] (gcN 0 [2]) (gcN 0 [1000000]))
theorem xx6_ok {m : Int} (x : Ex T) : NormOk C (G m) 0 (xx6 x) := (xN_ok gcN_ok (ex_nil) gcN_ok gcN_ok) x
def nn0 : NormT T := (andN (gcN 0 [3, 12, 13, 14]) (andN (promC 0 1 [] 5) (gcN 0 [3, 12, 13, 14])))
theorem nn0_ok {m : Int} : NormOk C (G m) 0 nn0 := (andN_ok gcN_ok (andN_ok promC_ok gcN_ok))
def xx7 : Ex T → NormT T := (xN (gcN 0 [4]) [] (gcN 0 [4]) (gcN 0 [1000000]))
theorem xx7_ok {m : Int} (x : Ex T) : NormOk C (G m) 0 (xx7 x) := (xN_ok gcN_ok (ex_nil) gcN_ok gcN_ok) x
def xx8 : Ex T → NormT T := (xN (gcN 1 [0, 3, 4]) [] (gcN 1 [2]) (gcN 1 [1000000]))
theorem xx8_ok {m : Int} (x : Ex T) : NormOk C (G m) 1 (xx8 x) := (xN_ok gcN_ok (ex_nil) gcN_ok gcN_ok) x
def xx9 : Ex T → NormT T := (xN (gcN 1 [0, 4, 14]) [] (gcN 1 [4]) (gcN 1 [1000000]))
theorem xx9_ok {m : Int} (x : Ex T) : NormOk C (G m) 1 (xx9 x) := (xN_ok gcN_ok (ex_nil) gcN_ok gcN_ok) x
def xx10 : Ex T → NormT T := (xN (gcN 1 [0, 4]) [] (gcN 1 [4]) (gcN 1 [1000000]))
theorem xx10_ok {m : Int} (x : Ex T) : NormOk C (G m) 1 (xx10 x) := (xN_ok gcN_ok (ex_nil) gcN_ok gcN_ok) x
def xx11 : Ex T → NormT T := (xN (gcN 1 [4, 5]) [] (gcN 1 [4]) (gcN 1 [1000000]))
theorem xx11_ok {m : Int} (x : Ex T) : NormOk C (G m) 1 (xx11 x) := (xN_ok gcN_ok (ex_nil) gcN_ok gcN_ok) x
def xx12 : Ex T → NormT T := (xN (gcN 0 [5, 6, 28]) [(0, (gcN 0 [5, 6]))] (gcN 0 [2, 3, 4]) (gcN 0 [1000000]))
theorem xx12_ok {m : Int} (x : Ex T) : NormOk C (G m) 0 (xx12 x) := (xN_ok gcN_ok (ex_cons gcN_ok (ex_nil)) gcN_ok gcN_ok) x
def xx13 : Ex T → NormT T := (xN (gcN 0 [5, 6]) [] (gcN 0 [2, 3, 4]) (gcN 0 [1000000]))
theorem xx13_ok {m : Int} (x : Ex T) : NormOk C (G m) 0 (xx13 x) := (xN_ok gcN_ok (ex_nil) gcN_ok gcN_ok) x
def xx14 : Ex T → NormT T := (xN (gcN 0 [0, 5, 6]) [(0, (gcN 0 []))] (gcN 0 [2]) (gcN 0 [1000000]))
theorem xx14_ok {m : Int} (x : Ex T) : NormOk C (G m) 0 (xx14 x) := (xN_ok gcN_ok (ex_cons gcN_ok (ex_nil)) gcN_ok gcN_ok) x
def nn1 : NormT T := (andN (gcN 0 [3, 6, 7, 8]) (andN (promC 0 1 [] 5) (gcN 0 [3, 6, 7, 8])))
theorem nn1_ok {m : Int} : NormOk C (G m) 0 nn1 := (andN_ok gcN_ok (andN_ok promC_ok gcN_ok))
def xx15 : Ex T → NormT T := (xN (andN (gcN 0 [1, 4, 13, 14, 15]) (andN (slC 0 2 [] 55) (andN (slC 0 10 [] 5) (gcN 0 [1, 4, 13, 14, 15])))) [(0, (gcN 0 [4]))] (gcN 0 [2, 3]) (gcN 0 [1000000]))
theorem xx15_ok {m : Int} (x : Ex T) : NormOk C (G m) 0 (xx15 x) := (xN_ok (andN_ok gcN_ok (andN_ok (slC_ok C_ok) (andN_ok (slC_ok C_ok) gcN_ok))) (ex_cons gcN_ok (ex_nil)) gcN_ok gcN_ok) x
def nn2 : NormT T := (andN (gcN 0 [1, 4, 13, 14, 15]) (andN (slC 0 2 [] 55) (andN (slC 0 10 [] 5) (gcN 0 [1, 4, 13, 14, 15]))))
theorem nn2_ok {m : Int} : NormOk C (G m) 0 nn2 := (andN_ok gcN_ok (andN_ok (slC_ok C_ok) (andN_ok (slC_ok C_ok) gcN_ok)))
def xx16 : Ex T → NormT T := (xN (gcN 0 [0, 4, 5, 6, 7, 32]) [(1, (gcN 0 [0, 4, 5])), (0, (gcN 0 [4]))] (gcN 0 [2, 3]) (gcN 0 [1000000]))
theorem xx16_ok {m : Int} (x : Ex T) : NormOk C (G m) 0 (xx16 x) := (xN_ok gcN_ok (ex_cons gcN_ok (ex_cons gcN_ok (ex_nil))) gcN_ok gcN_ok) x
def xx17 : Ex T → NormT T := (xN (gcN 0 [4]) [] (gcN 0 [2, 3]) (gcN 0 [1000000]))
theorem xx17_ok {m : Int} (x : Ex T) : NormOk C (G m) 0 (xx17 x) := (xN_ok gcN_ok (ex_nil) gcN_ok gcN_ok) x
def nn3 : NormT T := (andN (promS 4 [] 5) (gcN 0 [0, 4, 5]))
theorem nn3_ok {m : Int} : NormOk C (G m) 0 nn3 := (andN_ok promS_ok gcN_ok)
def xx18 : Ex T → NormT T := (xN (andN (gcN 0 [0, 1, 4, 6, 7, 21, 22, 23]) (andN (slC 0 2 [] 55) (andN (slC 0 10 [] 5) (andN (slC 1 2 [] 55) (andN (slC 1 10 [] 5) (gcN 0 [0, 1, 4, 6, 7, 21, 22, 23])))))) [(0, (gcN 0 [4, 6]))] (gcN 0 [4, 5]) (gcN 0 [1000000]))
theorem xx18_ok {m : Int} (x : Ex T) : NormOk C (G m) 0 (xx18 x) := (xN_ok (andN_ok gcN_ok (andN_ok (slC_ok C_ok) (andN_ok (slC_ok C_ok) (andN_ok (slC_ok C_ok) (andN_ok (slC_ok C_ok) gcN_ok))))) (ex_cons gcN_ok (ex_nil)) gcN_ok gcN_ok) x
def nn4 : NormT T := (andN (gcN 0 [0, 1, 4, 6, 7, 21, 22, 23]) (andN (slC 0 2 [] 55) (andN (slC 0 10 [] 5) (andN (slC 1 2 [] 55) (andN (slC 1 10 [] 5) (gcN 0 [0, 1, 4, 6, 7, 21, 22, 23]))))))
theorem nn4_ok {m : Int} : NormOk C (G m) 0 nn4 := (andN_ok gcN_ok (andN_ok (slC_ok C_ok) (andN_ok (slC_ok C_ok) (andN_ok (slC_ok C_ok) (andN_ok (slC_ok C_ok) gcN_ok)))))
def xx19 : Ex T → NormT T := (xN (gcN 0 [4, 5]) [] (gcN 0 [4, 5]) (gcN 0 [1000000]))
theorem xx19_ok {m : Int} (x : Ex T) : NormOk C (G m) 0 (xx19 x) := (xN_ok gcN_ok (ex_nil) gcN_ok gcN_ok) x
def xx20 : Ex T → NormT T := (xN (gcN 0 []) [] (gcN 0 [4]) (gcN 0 [1000000]))
theorem xx20_ok {m : Int} (x : Ex T) : NormOk C (G m) 0 (xx20 x) := (xN_ok gcN_ok (ex_nil) gcN_ok gcN_ok) x
def xx21 : Ex T → NormT T := (xN (gcN 0 [0, 2, 4, 5, 23]) [(1, (gcN 0 [0, 2, 4])), (0, (gcN 0 [2]))] (gcN 0 [2, 3]) (gcN 0 [1000000]))
theorem xx21_ok {m : Int} (x : Ex T) : NormOk C (G m) 0 (xx21 x) := (xN_ok gcN_ok (ex_cons gcN_ok (ex_cons gcN_ok (ex_nil))) gcN_ok gcN_ok) x
def xx22 : Ex T → NormT T := (xN (gcN 0 [2]) [] (gcN 0 [2, 3]) (gcN 0 [1000000]))
theorem xx22_ok {m : Int} (x : Ex T) : NormOk C (G m) 0 (xx22 x) := (xN_ok gcN_ok (ex_nil) gcN_ok gcN_ok) x
def xx23 : Ex T → NormT T := (xN (gcN 0 [0]) [] (gcN 0 [0]) (gcN 0 [1000000]))
theorem xx23_ok {m : Int} (x : Ex T) : NormOk C (G m) 0 (xx23 x) := (xN_ok gcN_ok (ex_nil) gcN_ok gcN_ok) x
def xx24 : Ex T → NormT T := (xN (gcN 0 [0, 1, 6, 66]) [] (gcN 0 [4]) (gcN 0 [1000000]))
theorem xx24_ok {m : Int} (x : Ex T) : NormOk C (G m) 0 (xx24 x) := (xN_ok gcN_ok (ex_nil) gcN_ok gcN_ok) x
def xx25 : Ex T → NormT T := (xN (gcN 0 [2, 3, 30]) [] (gcN 0 [4]) (gcN 0 [1000000]))
theorem xx25_ok {m : Int} (x : Ex T) : NormOk C (G m) 0 (xx25 x) := (xN_ok gcN_ok (ex_nil) gcN_ok gcN_ok) x
def xx26 : Ex T → NormT T := (xN (gcN 0 [0, 3, 4]) [(1, (gcN 0 [0, 3])), (0, (gcN 0 [0]))] (gcN 0 [2]) (gcN 0 [1000000]))
theorem xx26_ok {m : Int} (x : Ex T) : NormOk C (G m) 0 (xx26 x) := (xN_ok gcN_ok (ex_cons gcN_ok (ex_cons gcN_ok (ex_nil))) gcN_ok gcN_ok) x
def xx27 : Ex T → NormT T := (xN (gcN 0 [0, 3, 44]) [(1, (gcN 0 [0, 3])), (0, (gcN 0 [0]))] (gcN 0 [2]) (gcN 0 [1000000]))
theorem xx27_ok {m : Int} (x : Ex T) : NormOk C (G m) 0 (xx27 x) := (xN_ok gcN_ok (ex_cons gcN_ok (ex_cons gcN_ok (ex_nil))) gcN_ok gcN_ok) x
def xx28 : Ex T → NormT T := (xN (gcN 0 [0]) [] (gcN 0 [2]) (gcN 0 [1000000]))
theorem xx28_ok {m : Int} (x : Ex T) : NormOk C (G m) 0 (xx28 x) := (xN_ok gcN_ok (ex_nil) gcN_ok gcN_ok) x
def xx29 : Ex T → NormT T := (xN (gcN 0 [0, 3, 4, 6, 38]) [(1, (gcN 0 [0, 3, 4])), (0, (gcN 0 [0, 3]))] (gcN 0 [2]) (gcN 0 [1000000]))
theorem xx29_ok {m : Int} (x : Ex T) : NormOk C (G m) 0 (xx29 x) := (xN_ok gcN_ok (ex_cons gcN_ok (ex_cons gcN_ok (ex_nil))) gcN_ok gcN_ok) x
def xx30 : Ex T → NormT T := (xN (gcN 0 [0, 3, 4]) [(1, (gcN 0 [0, 3, 4])), (0, (gcN 0 [0, 3]))] (gcN 0 [2]) (gcN 0 [1000000]))
theorem xx30_ok {m : Int} (x : Ex T) : NormOk C (G m) 0 (xx30 x) := (xN_ok gcN_ok (ex_cons gcN_ok (ex_cons gcN_ok (ex_nil))) gcN_ok gcN_ok) x
def xx31 : Ex T → NormT T := (xN (gcN 0 [0, 3, 4]) [(0, (gcN 0 [0, 3]))] (gcN 0 [2]) (gcN 0 [1000000]))
theorem xx31_ok {m : Int} (x : Ex T) : NormOk C (G m) 0 (xx31 x) := (xN_ok gcN_ok (ex_cons gcN_ok (ex_nil)) gcN_ok gcN_ok) x
def xx32 : Ex T → NormT T := (xN (gcN 0 [0, 3]) [] (gcN 0 [2]) (gcN 0 [1000000]))
theorem xx32_ok {m : Int} (x : Ex T) : NormOk C (G m) 0 (xx32 x) := (xN_ok gcN_ok (ex_nil) gcN_ok gcN_ok) x
def xx33 : Ex T → NormT T := (xN (gcN 0 [0, 1, 38]) [(0, (gcN 0 [1]))] (gcN 0 [4]) (gcN 0 [1000000]))
theorem xx33_ok {m : Int} (x : Ex T) : NormOk C (G m) 0 (xx33 x) := (xN_ok gcN_ok (ex_cons gcN_ok (ex_nil)) gcN_ok gcN_ok) x
def xx34 : Ex T → NormT T := (xN (gcN 0 [1]) [] (gcN 0 [4]) (gcN 0 [1000000]))
theorem xx34_ok {m : Int} (x : Ex T) : NormOk C (G m) 0 (xx34 x) := (xN_ok gcN_ok (ex_nil) gcN_ok gcN_ok) x
def xx35 : Ex T → NormT T := (xN (gcN 0 [0, 5, 6, 20]) [(0, (gcN 0 [5]))] (gcN 0 [2, 3, 4]) (gcN 0 [1000000]))
theorem xx35_ok {m : Int} (x : Ex T) : NormOk C (G m) 0 (xx35 x) := (xN_ok gcN_ok (ex_cons gcN_ok (ex_nil)) gcN_ok gcN_ok) x
def xx36 : Ex T → NormT T := (xN (gcN 0 [0, 5, 6, 30]) [(1, (gcN 0 [0, 5, 6])), (0, (gcN 0 [5]))] (gcN 0 [2, 3, 4]) (gcN 0 [1000000]))
theorem xx36_ok {m : Int} (x : Ex T) : NormOk C (G m) 0 (xx36 x) := (xN_ok gcN_ok (ex_cons gcN_ok (ex_cons gcN_ok (ex_nil))) gcN_ok gcN_ok) x
def xx37 : Ex T → NormT T := (xN (gcN 0 [0, 5, 6, 8, 62]) [(1, (gcN 0 [0, 5, 6])), (0, (gcN 0 [5]))] (gcN 0 [2, 3, 4]) (gcN 0 [1000000]))
theorem xx37_ok {m : Int} (x : Ex T) : NormOk C (G m) 0 (xx37 x) := (xN_ok gcN_ok (ex_cons gcN_ok (ex_cons gcN_ok (ex_nil))) gcN_ok gcN_ok) x
def xx38 : Ex T → NormT T := (xN (gcN 0 [0, 5, 7, 8, 89]) [(1, (gcN 0 [0, 5, 6])), (0, (gcN 0 [5]))] (gcN 0 [2, 3, 4]) (gcN 0 [1000000]))
theorem xx38_ok {m : Int} (x : Ex T) : NormOk C (G m) 0 (xx38 x) := (xN_ok gcN_ok (ex_cons gcN_ok (ex_cons gcN_ok (ex_nil))) gcN_ok gcN_ok) x
def xx39 : Ex T → NormT T := (xN (gcN 0 [0, 5, 6, 8]) [(1, (gcN 0 [0, 5, 6])), (0, (gcN 0 [5]))] (gcN 0 [2, 3, 4]) (gcN 0 [1000000]))
theorem xx39_ok {m : Int} (x : Ex T) : NormOk C (G m) 0 (xx39 x) := (xN_ok gcN_ok (ex_cons gcN_ok (ex_cons gcN_ok (ex_nil))) gcN_ok gcN_ok) x
def xx40 : Ex T → NormT T := (xN (gcN 0 [5]) [] (gcN 0 [2, 3, 4]) (gcN 0 [1000000]))
theorem xx40_ok {m : Int} (x : Ex T) : NormOk C (G m) 0 (xx40 x) := (xN_ok gcN_ok (ex_nil) gcN_ok gcN_ok) x
def nn5 : NormT T := (andN (promS 5 [] 55) (gcN 0 [0, 5, 6]))
theorem nn5_ok {m : Int} : NormOk C (G m) 0 nn5 := (andN_ok promS_ok gcN_ok)
def xx41 : Ex T → NormT T := (xN (gcN 0 [0, 4, 5, 13]) [(0, (gcN 0 [0, 4]))] (gcN 0 [2, 3]) (gcN 0 [1000000]))
theorem xx41_ok {m : Int} (x : Ex T) : NormOk C (G m) 0 (xx41 x) := (xN_ok gcN_ok (ex_cons gcN_ok (ex_nil)) gcN_ok gcN_ok) x
def xx42 : Ex T → NormT T := (xN (gcN 0 [0, 4]) [] (gcN 0 [2, 3]) (gcN 0 [1000000]))
theorem xx42_ok {m : Int} (x : Ex T) : NormOk C (G m) 0 (xx42 x) := (xN_ok gcN_ok (ex_nil) gcN_ok gcN_ok) x
def xx43 : Ex T → NormT T := (xN (gcN 0 [0, 3, 4, 5, 6, 7]) [(5, (gcN 0 [0, 3, 4, 5, 6, 7])), (4, (gcN 0 [0, 3, 4, 5, 6])), (3, (gcN 0 [0, 3, 4, 5, 6])), (2, (gcN 0 [0, 3, 4, 5])), (1, (gcN 0 [0, 3, 4])), (0, (gcN 0 [3]))] (gcN 0 [2]) (gcN 0 [1000000]))
theorem xx43_ok {m : Int} (x : Ex T) : NormOk C (G m) 0 (xx43 x) := (xN_ok gcN_ok (ex_cons gcN_ok (ex_cons gcN_ok (ex_cons gcN_ok (ex_cons gcN_ok (ex_cons gcN_ok (ex_cons gcN_ok (ex_nil))))))) gcN_ok gcN_ok) x
def xx44 : Ex T → NormT T := (xN (gcN 0 [0, 3, 4, 5, 6, 7]) [(4, (gcN 0 [0, 3, 4, 5, 6])), (3, (gcN 0 [0, 3, 4, 5, 6])), (2, (gcN 0 [0, 3, 4, 5])), (1, (gcN 0 [0, 3, 4])), (0, (gcN 0 [3]))] (gcN 0 [2]) (gcN 0 [1000000]))
theorem xx44_ok {m : Int} (x : Ex T) : NormOk C (G m) 0 (xx44 x) := (xN_ok gcN_ok (ex_cons gcN_ok (ex_cons gcN_ok (ex_cons gcN_ok (ex_cons gcN_ok (ex_cons gcN_ok (ex_nil)))))) gcN_ok gcN_ok) x
def xx45 : Ex T → NormT T := (xN (gcN 0 [0, 3, 4, 5, 6]) [(3, (gcN 0 [0, 3, 4, 5, 6])), (2, (gcN 0 [0, 3, 4, 5])), (1, (gcN 0 [0, 3, 4])), (0, (gcN 0 [3]))] (gcN 0 [2]) (gcN 0 [1000000]))
theorem xx45_ok {m : Int} (x : Ex T) : NormOk C (G m) 0 (xx45 x) := (xN_ok gcN_ok (ex_cons gcN_ok (ex_cons gcN_ok (ex_cons gcN_ok (ex_cons gcN_ok (ex_nil))))) gcN_ok gcN_ok) x
def xx46 : Ex T → NormT T := (xN (gcN 0 [0, 3, 4, 5]) [(1, (gcN 0 [0, 3, 4])), (0, (gcN 0 [3]))] (gcN 0 [2]) (gcN 0 [1000000]))
theorem xx46_ok {m : Int} (x : Ex T) : NormOk C (G m) 0 (xx46 x) := (xN_ok gcN_ok (ex_cons gcN_ok (ex_cons gcN_ok (ex_nil))) gcN_ok gcN_ok) x
def xx47 : Ex T → NormT T := (xN (gcN 0 [0]) [] (gcN 0 [2, 3]) (gcN 0 [1000000]))
theorem xx47_ok {m : Int} (x : Ex T) : NormOk C (G m) 0 (xx47 x) := (xN_ok gcN_ok (ex_nil) gcN_ok gcN_ok) x
def xx48 : Ex T → NormT T := (xN (gcN 0 [0, 3, 12]) [] (gcN 0 [2]) (gcN 0 [1000000]))
theorem xx48_ok {m : Int} (x : Ex T) : NormOk C (G m) 0 (xx48 x) := (xN_ok gcN_ok (ex_nil) gcN_ok gcN_ok) x
def xx49 : Ex T → NormT T := (xN (gcN 0 [1, 2, 3, 4]) [] (gcN 0 [2]) (gcN 0 [1000000]))
theorem xx49_ok {m : Int} (x : Ex T) : NormOk C (G m) 0 (xx49 x) := (xN_ok gcN_ok (ex_nil) gcN_ok gcN_ok) x
def xx50 : Ex T → NormT T := (xN (gcN 0 [1, 2, 3, 4, 19]) [] (gcN 0 [2]) (gcN 0 [1000000]))
theorem xx50_ok {m : Int} (x : Ex T) : NormOk C (G m) 0 (xx50 x) := (xN_ok gcN_ok (ex_nil) gcN_ok gcN_ok) x
def xx51 : Ex T → NormT T := (xN (andN (gcN 0 [1, 2, 3, 4]) (andN (slC 2 2 [] 55) (gcN 0 [1, 2, 3, 4]))) [] (gcN 0 [2]) (gcN 0 [1000000]))
theorem xx51_ok {m : Int} (x : Ex T) : NormOk C (G m) 0 (xx51 x) := (xN_ok (andN_ok gcN_ok (andN_ok (slC_ok C_ok) gcN_ok)) (ex_nil) gcN_ok gcN_ok) x
def xx52 : Ex T → NormT T := (xN (gcN 0 [1, 2, 3, 4, 37]) [] (gcN 0 [2]) (gcN 0 [1000000]))
theorem xx52_ok {m : Int} (x : Ex T) : NormOk C (G m) 0 (xx52 x) := (xN_ok gcN_ok (ex_nil) gcN_ok gcN_ok) x
def xx53 : Ex T → NormT T := (xN (gcN 0 [1, 2, 3, 4, 54]) [] (gcN 0 [2]) (gcN 0 [1000000]))
theorem xx53_ok {m : Int} (x : Ex T) : NormOk C (G m) 0 (xx53 x) := (xN_ok gcN_ok (ex_nil) gcN_ok gcN_ok) x
def xx54 : Ex T → NormT T := (xN (gcN 0 [1, 2, 3, 4, 63]) [] (gcN 0 [2]) (gcN 0 [1000000]))
theorem xx54_ok {m : Int} (x : Ex T) : NormOk C (G m) 0 (xx54 x) := (xN_ok gcN_ok (ex_nil) gcN_ok gcN_ok) x
def xx55 : Ex T → NormT T := (xN (gcN 0 [2, 4]) [] (gcN 0 [2]) (gcN 0 [1000000]))
theorem xx55_ok {m : Int} (x : Ex T) : NormOk C (G m) 0 (xx55 x) := (xN_ok gcN_ok (ex_nil) gcN_ok gcN_ok) x
def xx56 : Ex T → NormT T := (xN (gcN 0 [1, 34]) [] (gcN 0 [2]) (gcN 0 [1000000]))
theorem xx56_ok {m : Int} (x : Ex T) : NormOk C (G m) 0 (xx56 x) := (xN_ok gcN_ok (ex_nil) gcN_ok gcN_ok) x
def xx57 : Ex T → NormT T := (xN (gcN 0 [1, 5, 6, 60]) [] (gcN 0 [2]) (gcN 0 [1000000]))
theorem xx57_ok {m : Int} (x : Ex T) : NormOk C (G m) 0 (xx57 x) := (xN_ok gcN_ok (ex_nil) gcN_ok gcN_ok) x
def xx58 : Ex T → NormT T := (xN (gcN 0 [1, 4]) [] (gcN 0 [2]) (gcN 0 [1000000]))
theorem xx58_ok {m : Int} (x : Ex T) : NormOk C (G m) 0 (xx58 x) := (xN_ok gcN_ok (ex_nil) gcN_ok gcN_ok) x
def xx59 : Ex T → NormT T := (xN (gcN 0 [1, 4, 5, 6]) [] (gcN 0 [2]) (gcN 0 [1000000]))
theorem xx59_ok {m : Int} (x : Ex T) : NormOk C (G m) 0 (xx59 x) := (xN_ok gcN_ok (ex_nil) gcN_ok gcN_ok) x
def xx60 : Ex T → NormT T := (xN (gcN 0 [1, 4, 5, 6, 7]) [] (gcN 0 [2]) (gcN 0 [1000000]))
theorem xx60_ok {m : Int} (x : Ex T) : NormOk C (G m) 0 (xx60 x) := (xN_ok gcN_ok (ex_nil) gcN_ok gcN_ok) x
def xx61 : Ex T → NormT T := (xN (gcN 0 [1, 4, 5, 6, 7, 34, 64]) [(0, (gcN 0 [4]))] (gcN 0 [2]) (gcN 0 [1000000]))
theorem xx61_ok {m : Int} (x : Ex T) : NormOk C (G m) 0 (xx61 x) := (xN_ok gcN_ok (ex_cons gcN_ok (ex_nil)) gcN_ok gcN_ok) x
def nn6 : NormT T := (gcN 0 [1, 4, 5, 6, 7, 34, 64])
theorem nn6_ok {m : Int} : NormOk C (G m) 0 nn6 := gcN_ok
def xx62 : Ex T → NormT T := (xN (gcN 0 [1, 4, 112]) [(0, (gcN 0 [4]))] (gcN 0 [2]) (gcN 0 [1000000]))
theorem xx62_ok {m : Int} (x : Ex T) : NormOk C (G m) 0 (xx62 x) := (xN_ok gcN_ok (ex_cons gcN_ok (ex_nil)) gcN_ok gcN_ok) x
def xx63 : Ex T → NormT T := (xN (gcN 0 [1, 2, 4, 5, 6, 7, 8, 9, 36, 37]) [(0, (gcN 0 [2, 4]))] (gcN 0 [4]) (gcN 0 [1000000]))
theorem xx63_ok {m : Int} (x : Ex T) : NormOk C (G m) 0 (xx63 x) := (xN_ok gcN_ok (ex_cons gcN_ok (ex_nil)) gcN_ok gcN_ok) x
def nn7 : NormT T := (gcN 0 [1, 2, 4, 5, 6, 7, 8, 9, 36, 37])
theorem nn7_ok {m : Int} : NormOk C (G m) 0 nn7 := gcN_ok
def xx64 : Ex T → NormT T := (xN (gcN 0 [1, 2, 4, 5, 6, 7, 8, 9, 36, 50]) [(0, (gcN 0 [2, 4]))] (gcN 0 [4]) (gcN 0 [1000000]))
theorem xx64_ok {m : Int} (x : Ex T) : NormOk C (G m) 0 (xx64 x) := (xN_ok gcN_ok (ex_cons gcN_ok (ex_nil)) gcN_ok gcN_ok) x
def nn8 : NormT T := (gcN 0 [1, 2, 4, 5, 6, 7, 8, 9, 36, 50])
theorem nn8_ok {m : Int} : NormOk C (G m) 0 nn8 := gcN_ok
def xx65 : Ex T → NormT T := (xN (gcN 0 [1, 2, 4, 99]) [(0, (gcN 0 [2, 4]))] (gcN 0 [4]) (gcN 0 [1000000]))
theorem xx65_ok {m : Int} (x : Ex T) : NormOk C (G m) 0 (xx65 x) := (xN_ok gcN_ok (ex_cons gcN_ok (ex_nil)) gcN_ok gcN_ok) x
def xx66 : Ex T → NormT T := (xN (gcN 0 [2, 4]) [(0, (gcN 0 [2, 4]))] (gcN 0 [4]) (gcN 0 [1000000]))
theorem xx66_ok {m : Int} (x : Ex T) : NormOk C (G m) 0 (xx66 x) := (xN_ok gcN_ok (ex_cons gcN_ok (ex_nil)) gcN_ok gcN_ok) x
def nn9 : NormT T := (gcN 0 [1, 2, 4, 5, 7, 8, 36, 81])
theorem nn9_ok {m : Int} : NormOk C (G m) 0 nn9 := gcN_ok
def nn10 : NormT T := (gcN 0 [1, 2, 4, 5, 6, 7, 8, 36, 76])
theorem nn10_ok {m : Int} : NormOk C (G m) 0 nn10 := gcN_ok
def nn11 : NormT T := (gcN 0 [1, 2, 4, 5, 6, 7, 8, 36, 72])
theorem nn11_ok {m : Int} : NormOk C (G m) 0 nn11 := gcN_ok
def nn12 : NormT T := (gcN 0 [1, 2, 4, 5, 6, 7, 8, 36, 57])
theorem nn12_ok {m : Int} : NormOk C (G m) 0 nn12 := gcN_ok
def xx67 : Ex T → NormT T := (xN (andN (gcN 0 [2, 4]) (andN (slC 0 2 [] 55) (gcN 0 [2, 4]))) [(0, (gcN 0 [2, 4]))] (gcN 0 [4]) (gcN 0 [1000000]))
theorem xx67_ok {m : Int} (x : Ex T) : NormOk C (G m) 0 (xx67 x) := (xN_ok (andN_ok gcN_ok (andN_ok (slC_ok C_ok) gcN_ok)) (ex_cons gcN_ok (ex_nil)) gcN_ok gcN_ok) x
def xx68 : Ex T → NormT T := (xN (gcN 0 [2, 4]) [] (gcN 0 [4]) (gcN 0 [1000000]))
theorem xx68_ok {m : Int} (x : Ex T) : NormOk C (G m) 0 (xx68 x) := (xN_ok gcN_ok (ex_nil) gcN_ok gcN_ok) x
def nn13 : NormT T := (gcN 0 [1, 2, 4, 5, 6, 7, 8, 9, 36])
theorem nn13_ok {m : Int} : NormOk C (G m) 0 nn13 := gcN_ok
def xx69 : Ex T → NormT T := (xN (andN (gcN 0 [2, 4]) (andN (promC 0 2 [] 55) (gcN 0 [2, 4]))) [(0, (gcN 0 [2, 4]))] (gcN 0 [4]) (gcN 0 [1000000]))
theorem xx69_ok {m : Int} (x : Ex T) : NormOk C (G m) 0 (xx69 x) := (xN_ok (andN_ok gcN_ok (andN_ok promC_ok gcN_ok)) (ex_cons gcN_ok (ex_nil)) gcN_ok gcN_ok) x
def xx70 : Ex T → NormT T := (xN (gcN 0 [0, 2, 4, 5, 6, 7]) [(1, (gcN 0 [0, 2, 4])), (0, (gcN 0 [2]))] (gcN 0 [2, 3]) (gcN 0 [1000000]))
theorem xx70_ok {m : Int} (x : Ex T) : NormOk C (G m) 0 (xx70 x) := (xN_ok gcN_ok (ex_cons gcN_ok (ex_cons gcN_ok (ex_nil))) gcN_ok gcN_ok) x
def xx71 : Ex T → NormT T := (xN (gcN 0 [0, 2, 4, 7, 57]) [(1, (gcN 0 [0, 2, 4])), (0, (gcN 0 [2]))] (gcN 0 [2, 3]) (gcN 0 [1000000]))
theorem xx71_ok {m : Int} (x : Ex T) : NormOk C (G m) 0 (xx71 x) := (xN_ok gcN_ok (ex_cons gcN_ok (ex_cons gcN_ok (ex_nil))) gcN_ok gcN_ok) x
def xx72 : Ex T → NormT T := (xN (gcN 0 [0, 4, 5, 33]) [] (gcN 0 [2]) (gcN 0 [1000000]))
theorem xx72_ok {m : Int} (x : Ex T) : NormOk C (G m) 0 (xx72 x) := (xN_ok gcN_ok (ex_nil) gcN_ok gcN_ok) x
def xx73 : Ex T → NormT T := (xN (gcN 0 [2, 3, 46]) [] (gcN 0 [4]) (gcN 0 [1000000]))
theorem xx73_ok {m : Int} (x : Ex T) : NormOk C (G m) 0 (xx73 x) := (xN_ok gcN_ok (ex_nil) gcN_ok gcN_ok) x
def xx74 : Ex T → NormT T := (xN (gcN 0 [2, 6, 7, 73]) [] (gcN 0 [4]) (gcN 0 [1000000]))
theorem xx74_ok {m : Int} (x : Ex T) : NormOk C (G m) 0 (xx74 x) := (xN_ok gcN_ok (ex_nil) gcN_ok gcN_ok) x
def p_scalar_Ident_0 := mkP (T := T) [⟨[(0, .s)], [], []⟩] [⟨.normal, ⟨[(2, .b)], [], []⟩⟩]
theorem p_scalar_Ident_0_ok : PieceOk p_scalar_Ident_0 := mkP_ok _ _
theorem p_scalar_Ident_0_ct (κ : Nat) (m : Int) : CutOk Tryz.prog C (G m) Tryz.f48.ntmps 0 (pieceOf (.reg 1) (getBody Tryz.f48)) (p_scalar_Ident_0.cut (gcN 0 [0]) (fun a0 => scalar_Ident.v0 κ a0)) :=
 Piece.join p_scalar_Ident_0_ok C_ok mixed (gamB_ok κ m) gcN_ok xx0_ok (cut := noCut) (X := xx0) (cuts_by (l := []) (by kernel_rfl) (all_nil)) (fun s => by kernel_rfl)
def cc_scalar_Ident_1 (κ : Nat) : Cut T := p_scalar_Ident_0.cut (gcN 0 [0]) (fun a0 => scalar_Ident.v0 κ a0)
theorem cc_scalar_Ident_1_ok (κ : Nat) (m : Int) : CutOk Tryz.prog C (G m) Tryz.f48.ntmps 0 (pieceOf (.reg 1) (getBody Tryz.f48)) (cc_scalar_Ident_1 κ) := p_scalar_Ident_0_ct κ m
def ct_scalar_Ident_1 (κ : Nat) : Key → Option (Cut T) := addCut noCut (.reg 1) (cc_scalar_Ident_1 κ)
def sp_scalar_Ident := mkS (T := T) [.s] [] [⟨false, .b, []⟩]
theorem sp_scalar_Ident_ok : SpecOk sp_scalar_Ident := mkS_ok _ _ _
theorem ok_scalar_Ident (κ : Nat) (m : Int) : EOk Tryz.prog C (G m) 48 (sp_scalar_Ident.entry (fun a0 => scalar_Ident κ a0)) :=
 Spec.ok sp_scalar_Ident_ok C_ok mixed (gamB_ok κ m) (cut := (ct_scalar_Ident_1 κ)) (NR := (gcN 0 [0])) (NP := (gcN 0 [0])) (nB := 0) Tryz.func48 (c := (getBody Tryz.f48)) (by kernel_rfl) (by kernel_rfl) (fun i => by kernel_rfl) gcN_ok gcN_ok (cuts_by (l := [(pieceOf (.reg 1) (getBody Tryz.f48), cc_scalar_Ident_1 κ)]) (by kernel_rfl) (all_cons (cc_scalar_Ident_1_ok κ m) (all_nil))) (fun i => by kernel_rfl)
noncomputable def gam1 (κ : Nat) : Gam T := (gamB κ).addS 48 sp_scalar_Ident (fun a0 => scalar_Ident κ a0)
theorem gam1_ok (κ : Nat) (m : Int) : GOk Tryz.prog C (G m) (gam1 κ) := (gamB_ok κ m).addS (ok_scalar_Ident κ m)
def p_strings_Builder_copyCheck_0 := mkP (T := T) [⟨[(0, .ptr 0 0), (6, .b)], [.cells 94 none [.pn, .cap0]], []⟩] [⟨.normal, ⟨[], [.cells 94 none [.ptr 0 0, .cap0]], []⟩⟩]
theorem p_strings_Builder_copyCheck_0_ok : PieceOk p_strings_Builder_copyCheck_0 := mkP_ok _ _
theorem p_strings_Builder_copyCheck_0_ct (κ : Nat) (m : Int) : CutOk Tryz.prog C (G m) Tryz.f62.ntmps 1 (pieceOf (.cnd 6 2) (getBody Tryz.f62)) (p_strings_Builder_copyCheck_0.cut (gcN 1 [0, 6]) (fun a0 => strings_Builder_copyCheck.v0 κ a0)) :=
 Piece.join p_strings_Builder_copyCheck_0_ok C_ok mixed (gam1_ok κ m) gcN_ok xx1_ok (cut := noCut) (X := xx1) (cuts_by (l := []) (by kernel_rfl) (all_nil)) (fun s => by kernel_rfl)
def cc_strings_Builder_copyCheck_1 (κ : Nat) : Cut T := p_strings_Builder_copyCheck_0.cut (gcN 1 [0, 6]) (fun a0 => strings_Builder_copyCheck.v0 κ a0)
theorem cc_strings_Builder_copyCheck_1_ok (κ : Nat) (m : Int) : CutOk Tryz.prog C (G m) Tryz.f62.ntmps 1 (pieceOf (.cnd 6 2) (getBody Tryz.f62)) (cc_strings_Builder_copyCheck_1 κ) := p_strings_Builder_copyCheck_0_ct κ m
def ct_strings_Builder_copyCheck_1 (κ : Nat) : Key → Option (Cut T) := addCut noCut (.cnd 6 2) (cc_strings_Builder_copyCheck_1 κ)
def sp_strings_Builder_copyCheck := mkS (T := T) [.ptr 0 0] [.cells 94 none [.pn, .cap0]] [⟨false, .tup [], [.cells 94 none [.ptr 0 0, .cap0]]⟩]
theorem sp_strings_Builder_copyCheck_ok : SpecOk sp_strings_Builder_copyCheck := mkS_ok _ _ _
theorem ok_strings_Builder_copyCheck (κ : Nat) (m : Int) : EOk Tryz.prog C (G m) 62 (sp_strings_Builder_copyCheck.entry (fun _ => strings_Builder_copyCheck κ )) :=
 Spec.ok sp_strings_Builder_copyCheck_ok C_ok mixed (gam1_ok κ m) (cut := (ct_strings_Builder_copyCheck_1 κ)) (NR := (gcN 1 [0])) (NP := (gcN 1 [0])) (nB := 1) Tryz.func62 (c := (getBody Tryz.f62)) (by kernel_rfl) (by kernel_rfl) (fun i => by kernel_rfl) gcN_ok gcN_ok (cuts_by (l := [(pieceOf (.cnd 6 2) (getBody Tryz.f62), cc_strings_Builder_copyCheck_1 κ)]) (by kernel_rfl) (all_cons (cc_strings_Builder_copyCheck_1_ok κ m) (all_nil))) (fun i => by kernel_rfl)
noncomputable def gam2 (κ : Nat) : Gam T := (gam1 κ).addS 62 sp_strings_Builder_copyCheck (fun _ => strings_Builder_copyCheck κ )
theorem gam2_ok (κ : Nat) (m : Int) : GOk Tryz.prog C (G m) (gam2 κ) := (gam1_ok κ m).addS (ok_strings_Builder_copyCheck κ m)
def sp_strings_Builder_WriteString := mkS (T := T) [.ptr 0 0, .s] [.cells 94 none [.pn, .cap0]] [⟨false, .tup [.i .i64, .if0], kk6⟩]
theorem sp_strings_Builder_WriteString_ok : SpecOk sp_strings_Builder_WriteString := mkS_ok _ _ _
theorem ok_strings_Builder_WriteString (κ : Nat) (m : Int) : EOk Tryz.prog C (G m) 51 (sp_strings_Builder_WriteString.entry (fun a0 => strings_Builder_WriteString κ a0)) :=
 Spec.ok sp_strings_Builder_WriteString_ok C_ok mixed (gam2_ok κ m) (cut := noCut) (NR := (gcN 1 [0])) (NP := (gcN 1 [0])) (nB := 1) Tryz.func51 (c := (getBody Tryz.f51)) (by kernel_rfl) (by kernel_rfl) (fun i => by kernel_rfl) gcN_ok gcN_ok (cuts_by (l := []) (by kernel_rfl) (all_nil)) (fun i => by kernel_rfl)
noncomputable def gam3 (κ : Nat) : Gam T := (gam2 κ).addS 51 sp_strings_Builder_WriteString (fun a0 => strings_Builder_WriteString κ a0)
theorem gam3_ok (κ : Nat) (m : Int) : GOk Tryz.prog C (G m) (gam3 κ) := (gam2_ok κ m).addS (ok_strings_Builder_WriteString κ m)
def p_strings_Builder_copyCheck_2_0 := mkP (T := T) [⟨[(0, .ptr 0 0), (6, .b)], kk6, []⟩] [⟨.normal, ⟨[], kk6, []⟩⟩]
theorem p_strings_Builder_copyCheck_2_0_ok : PieceOk p_strings_Builder_copyCheck_2_0 := mkP_ok _ _
theorem p_strings_Builder_copyCheck_2_0_ct (κ : Nat) (m : Int) : CutOk Tryz.prog C (G m) Tryz.f62.ntmps 2 (pieceOf (.cnd 6 2) (getBody Tryz.f62)) (p_strings_Builder_copyCheck_2_0.cut (gcN 2 [0, 6]) (cur _ (strings_Builder_copyCheck_2.v0 κ))) :=
 Piece.join p_strings_Builder_copyCheck_2_0_ok C_ok mixed (gam3_ok κ m) gcN_ok xx2_ok (cut := noCut) (X := xx2) (cuts_by (l := []) (by kernel_rfl) (all_nil)) (fun s => by kernel_rfl)
def cc_strings_Builder_copyCheck_2_1 (κ : Nat) : Cut T := p_strings_Builder_copyCheck_2_0.cut (gcN 2 [0, 6]) (cur _ (strings_Builder_copyCheck_2.v0 κ))
theorem cc_strings_Builder_copyCheck_2_1_ok (κ : Nat) (m : Int) : CutOk Tryz.prog C (G m) Tryz.f62.ntmps 2 (pieceOf (.cnd 6 2) (getBody Tryz.f62)) (cc_strings_Builder_copyCheck_2_1 κ) := p_strings_Builder_copyCheck_2_0_ct κ m
def ct_strings_Builder_copyCheck_2_1 (κ : Nat) : Key → Option (Cut T) := addCut noCut (.cnd 6 2) (cc_strings_Builder_copyCheck_2_1 κ)
def sp_strings_Builder_copyCheck_2 := mkS (T := T) [.ptr 0 0] kk6 [⟨false, .tup [], kk6⟩]
theorem sp_strings_Builder_copyCheck_2_ok : SpecOk sp_strings_Builder_copyCheck_2 := mkS_ok _ _ _
theorem ok_strings_Builder_copyCheck_2 (κ : Nat) (m : Int) : EOk Tryz.prog C (G m) 62 (sp_strings_Builder_copyCheck_2.entry (fun a0 => strings_Builder_copyCheck_2 κ a0)) :=
 Spec.ok sp_strings_Builder_copyCheck_2_ok C_ok mixed (gam3_ok κ m) (cut := (ct_strings_Builder_copyCheck_2_1 κ)) (NR := (gcN 2 [0])) (NP := (gcN 2 [0])) (nB := 2) Tryz.func62 (c := (getBody Tryz.f62)) (by kernel_rfl) (by kernel_rfl) (fun i => by kernel_rfl) gcN_ok gcN_ok (cuts_by (l := [(pieceOf (.cnd 6 2) (getBody Tryz.f62), cc_strings_Builder_copyCheck_2_1 κ)]) (by kernel_rfl) (all_cons (cc_strings_Builder_copyCheck_2_1_ok κ m) (all_nil))) (fun i => by kernel_rfl)
noncomputable def gam4 (κ : Nat) : Gam T := (gam3 κ).addS 62 sp_strings_Builder_copyCheck_2 (fun a0 => strings_Builder_copyCheck_2 κ a0)
theorem gam4_ok (κ : Nat) (m : Int) : GOk Tryz.prog C (G m) (gam4 κ) := (gam3_ok κ m).addS (ok_strings_Builder_copyCheck_2 κ m)
def sp_strings_Builder_WriteString_2 := mkS (T := T) [.ptr 0 0, .s] kk6 [⟨false, .tup [.i .i64, .if0], kk6⟩]
theorem sp_strings_Builder_WriteString_2_ok : SpecOk sp_strings_Builder_WriteString_2 := mkS_ok _ _ _
theorem ok_strings_Builder_WriteString_2 (κ : Nat) (m : Int) : EOk Tryz.prog C (G m) 51 (sp_strings_Builder_WriteString_2.entry (cur _ (strings_Builder_WriteString_2 κ))) :=
 Spec.ok sp_strings_Builder_WriteString_2_ok C_ok mixed (gam4_ok κ m) (cut := noCut) (NR := (gcN 2 [0])) (NP := (gcN 2 [0])) (nB := 2) Tryz.func51 (c := (getBody Tryz.f51)) (by kernel_rfl) (by kernel_rfl) (fun i => by kernel_rfl) gcN_ok gcN_ok (cuts_by (l := []) (by kernel_rfl) (all_nil)) (fun i => by kernel_rfl)
noncomputable def gam5 (κ : Nat) : Gam T := (gam4 κ).addS 51 sp_strings_Builder_WriteString_2 (cur _ (strings_Builder_WriteString_2 κ))
theorem gam5_ok (κ : Nat) (m : Int) : GOk Tryz.prog C (G m) (gam5 κ) := (gam4_ok κ m).addS (ok_strings_Builder_WriteString_2 κ m)
def p_strings_Builder_copyCheck_3_0 := mkP (T := T) [⟨[(0, .ptr 0 0), (6, .b)], kk5, []⟩] [⟨.normal, ⟨[], kk6, []⟩⟩]
theorem p_strings_Builder_copyCheck_3_0_ok : PieceOk p_strings_Builder_copyCheck_3_0 := mkP_ok _ _
theorem p_strings_Builder_copyCheck_3_0_ct (κ : Nat) (m : Int) : CutOk Tryz.prog C (G m) Tryz.f62.ntmps 2 (pieceOf (.cnd 6 2) (getBody Tryz.f62)) (p_strings_Builder_copyCheck_3_0.cut (gcN 2 [0, 6]) (cur _ (strings_Builder_copyCheck_3.v0 κ))) :=
 Piece.join p_strings_Builder_copyCheck_3_0_ok C_ok mixed (gam5_ok κ m) gcN_ok xx2_ok (cut := noCut) (X := xx2) (cuts_by (l := []) (by kernel_rfl) (all_nil)) (fun s => by kernel_rfl)
def cc_strings_Builder_copyCheck_3_1 (κ : Nat) : Cut T := p_strings_Builder_copyCheck_3_0.cut (gcN 2 [0, 6]) (cur _ (strings_Builder_copyCheck_3.v0 κ))
theorem cc_strings_Builder_copyCheck_3_1_ok (κ : Nat) (m : Int) : CutOk Tryz.prog C (G m) Tryz.f62.ntmps 2 (pieceOf (.cnd 6 2) (getBody Tryz.f62)) (cc_strings_Builder_copyCheck_3_1 κ) := p_strings_Builder_copyCheck_3_0_ct κ m
def ct_strings_Builder_copyCheck_3_1 (κ : Nat) : Key → Option (Cut T) := addCut noCut (.cnd 6 2) (cc_strings_Builder_copyCheck_3_1 κ)
def sp_strings_Builder_copyCheck_3 := mkS (T := T) [.ptr 0 0] kk5 [⟨false, .tup [], kk6⟩]
theorem sp_strings_Builder_copyCheck_3_ok : SpecOk sp_strings_Builder_copyCheck_3 := mkS_ok _ _ _
theorem ok_strings_Builder_copyCheck_3 (κ : Nat) (m : Int) : EOk Tryz.prog C (G m) 62 (sp_strings_Builder_copyCheck_3.entry (fun a0 => strings_Builder_copyCheck_3 κ a0)) :=
 Spec.ok sp_strings_Builder_copyCheck_3_ok C_ok mixed (gam5_ok κ m) (cut := (ct_strings_Builder_copyCheck_3_1 κ)) (NR := (gcN 2 [0])) (NP := (gcN 2 [0])) (nB := 2) Tryz.func62 (c := (getBody Tryz.f62)) (by kernel_rfl) (by kernel_rfl) (fun i => by kernel_rfl) gcN_ok gcN_ok (cuts_by (l := [(pieceOf (.cnd 6 2) (getBody Tryz.f62), cc_strings_Builder_copyCheck_3_1 κ)]) (by kernel_rfl) (all_cons (cc_strings_Builder_copyCheck_3_1_ok κ m) (all_nil))) (fun i => by kernel_rfl)
noncomputable def gam6 (κ : Nat) : Gam T := (gam5 κ).addS 62 sp_strings_Builder_copyCheck_3 (fun a0 => strings_Builder_copyCheck_3 κ a0)
theorem gam6_ok (κ : Nat) (m : Int) : GOk Tryz.prog C (G m) (gam6 κ) := (gam5_ok κ m).addS (ok_strings_Builder_copyCheck_3 κ m)
def sp_strings_Builder_WriteString_3 := mkS (T := T) [.ptr 0 0, .s] kk5 [⟨false, .tup [.i .i64, .if0], kk6⟩]
theorem sp_strings_Builder_WriteString_3_ok : SpecOk sp_strings_Builder_WriteString_3 := mkS_ok _ _ _
theorem ok_strings_Builder_WriteString_3 (κ : Nat) (m : Int) : EOk Tryz.prog C (G m) 51 (sp_strings_Builder_WriteString_3.entry (cur _ (strings_Builder_WriteString_3 κ))) :=
 Spec.ok sp_strings_Builder_WriteString_3_ok C_ok mixed (gam6_ok κ m) (cut := noCut) (NR := (gcN 2 [0])) (NP := (gcN 2 [0])) (nB := 2) Tryz.func51 (c := (getBody Tryz.f51)) (by kernel_rfl) (by kernel_rfl) (fun i => by kernel_rfl) gcN_ok gcN_ok (cuts_by (l := []) (by kernel_rfl) (all_nil)) (fun i => by kernel_rfl)
noncomputable def gam7 (κ : Nat) : Gam T := (gam6 κ).addS 51 sp_strings_Builder_WriteString_3 (cur _ (strings_Builder_WriteString_3 κ))
theorem gam7_ok (κ : Nat) (m : Int) : GOk Tryz.prog C (G m) (gam7 κ) := (gam6_ok κ m).addS (ok_strings_Builder_WriteString_3 κ m)
def sp_strings_Builder_String := mkS (T := T) [.ptr 0 0] kk5 [⟨false, .s, [.cells 94 none [.pn, .any], .dead]⟩]
theorem sp_strings_Builder_String_ok : SpecOk sp_strings_Builder_String := mkS_ok _ _ _
theorem ok_strings_Builder_String (κ : Nat) (m : Int) : EOk Tryz.prog C (G m) 52 (sp_strings_Builder_String.entry (fun a0 => strings_Builder_String κ a0)) :=
 Spec.ok sp_strings_Builder_String_ok C_ok mixed (gam7_ok κ m) (cut := noCut) (NR := (gcN 2 [0])) (NP := (gcN 2 [0])) (nB := 2) Tryz.func52 (c := (getBody Tryz.f52)) (by kernel_rfl) (by kernel_rfl) (fun i => by kernel_rfl) gcN_ok gcN_ok (cuts_by (l := []) (by kernel_rfl) (all_nil)) (fun i => by kernel_rfl)
noncomputable def gam8 (κ : Nat) : Gam T := (gam7 κ).addS 52 sp_strings_Builder_String (fun a0 => strings_Builder_String κ a0)
theorem gam8_ok (κ : Nat) (m : Int) : GOk Tryz.prog C (G m) (gam8 κ) := (gam7_ok κ m).addS (ok_strings_Builder_String κ m)
def sp_strings_Builder_String_2 := mkS (T := T) [.ptr 0 0] kk6 [⟨false, .s, [.cells 94 none [.ptr 0 0, .any], .dead]⟩]
theorem sp_strings_Builder_String_2_ok : SpecOk sp_strings_Builder_String_2 := mkS_ok _ _ _
theorem ok_strings_Builder_String_2 (κ : Nat) (m : Int) : EOk Tryz.prog C (G m) 52 (sp_strings_Builder_String_2.entry (fun a0 => strings_Builder_String_2 κ a0)) :=
 Spec.ok sp_strings_Builder_String_2_ok C_ok mixed (gam8_ok κ m) (cut := noCut) (NR := (gcN 2 [0])) (NP := (gcN 2 [0])) (nB := 2) Tryz.func52 (c := (getBody Tryz.f52)) (by kernel_rfl) (by kernel_rfl) (fun i => by kernel_rfl) gcN_ok gcN_ok (cuts_by (l := []) (by kernel_rfl) (all_nil)) (fun i => by kernel_rfl)
noncomputable def gam9 (κ : Nat) : Gam T := (gam8 κ).addS 52 sp_strings_Builder_String_2 (fun a0 => strings_Builder_String_2 κ a0)
theorem gam9_ok (κ : Nat) (m : Int) : GOk Tryz.prog C (G m) (gam9 κ) := (gam8_ok κ m).addS (ok_strings_Builder_String_2 κ m)
def p_path_Show_25 := mkP (T := T) [⟨[(3, .ptr 0 0), (5, .ptr 1 0), (12, .sl 55), (13, .i .i64), (14, .i .i64)], [.cells 94 none [.pn, .own 2], .cells 55 none [.s, .s], .row 5 true], []⟩] [⟨.normal, ⟨[(3, .ptr 0 0), (5, .ptr 1 0), (12, .sl 55), (13, .i .i64), (14, .i .i64), (32, .b)], [.cells 94 none [.pn, .own 2], .cells 55 none [.s, .s], .row 5 true], []⟩⟩]
theorem p_path_Show_25_ok : PieceOk p_path_Show_25 := mkP_ok _ _
theorem p_path_Show_25_ct (κ : Nat) (m : Int) : CutOk Tryz.prog C (G m) Tryz.f46.ntmps 0 (pieceOf (.reg 9) (getBody Tryz.f46)) (p_path_Show_25.cut (gcN 0 [3, 5, 12, 13, 14]) (cur _ (path_Show.v25 κ))) :=
 Piece.join p_path_Show_25_ok C_ok mixed (gam7_ok κ m) gcN_ok xx3_ok (cut := noCut) (X := xx3) (cuts_by (l := []) (by kernel_rfl) (all_nil)) (fun s => by kernel_rfl)
def cc_path_Show_26 (κ : Nat) : Cut T := p_path_Show_25.cut (gcN 0 [3, 5, 12, 13, 14]) (cur _ (path_Show.v25 κ))
theorem cc_path_Show_26_ok (κ : Nat) (m : Int) : CutOk Tryz.prog C (G m) Tryz.f46.ntmps 0 (pieceOf (.reg 9) (getBody Tryz.f46)) (cc_path_Show_26 κ) := p_path_Show_25_ct κ m
def ct_path_Show_26 (κ : Nat) : Key → Option (Cut T) := addCut noCut (.reg 9) (cc_path_Show_26 κ)
def p_path_Show_27 := mkP (T := T) [⟨[(3, .ptr 0 0), (5, .ptr 1 0), (12, .sl 55), (13, .i .i64), (14, .i .i64), (39, .b)], kk17, []⟩] [⟨.normal, ⟨[(3, .ptr 0 0), (12, .sl 55), (13, .i .i64), (14, .i .i64)], kk6, []⟩⟩]
theorem p_path_Show_27_ok : PieceOk p_path_Show_27 := mkP_ok _ _
theorem p_path_Show_27_ct (κ : Nat) (m : Int) : CutOk Tryz.prog C (G m) Tryz.f46.ntmps 0 (pieceOf (.cnd 39 14) (getBody Tryz.f46)) (p_path_Show_27.cut (gcN 0 [3, 5, 12, 13, 14, 39]) (cur _ (path_Show.v27 κ))) :=
 Piece.join p_path_Show_27_ok C_ok mixed (gam7_ok κ m) gcN_ok xx4_ok (cut := (ct_path_Show_26 κ)) (X := xx4) (cuts_by (l := []) (by kernel_rfl) (all_nil)) (fun s => by kernel_rfl)
def cc_path_Show_28 (κ : Nat) : Cut T := p_path_Show_27.cut (gcN 0 [3, 5, 12, 13, 14, 39]) (cur _ (path_Show.v27 κ))
theorem cc_path_Show_28_ok (κ : Nat) (m : Int) : CutOk Tryz.prog C (G m) Tryz.f46.ntmps 0 (pieceOf (.cnd 39 14) (getBody Tryz.f46)) (cc_path_Show_28 κ) := p_path_Show_27_ct κ m
def ct_path_Show_28 (κ : Nat) : Key → Option (Cut T) := addCut (ct_path_Show_26 κ) (.cnd 39 14) (cc_path_Show_28 κ)
def p_path_Show_24 := mkP (T := T) [⟨[(3, .ptr 0 0), (12, .sl 55), (13, .i .i64), (14, .i .i64)], kk5, []⟩] [⟨.normal, ⟨[(3, .ptr 0 0), (12, .sl 55), (13, .i .i64), (14, .i .i64)], kk6, []⟩⟩, ⟨.ret, ⟨[(2, .s)], [], []⟩⟩]
theorem p_path_Show_24_ok : PieceOk p_path_Show_24 := mkP_ok _ _
theorem p_path_Show_24_ct (κ : Nat) (m : Int) : CutOk Tryz.prog C (G m) Tryz.f46.ntmps 0 (pieceOf (.blk 1) (getBody Tryz.f46)) (p_path_Show_24.cut (gcN 0 [3, 12, 13, 14]) (cur _ (path_Show.v24 κ))) :=
 Piece.join p_path_Show_24_ok C_ok mixed (gam7_ok κ m) gcN_ok xx5_ok (cut := (ct_path_Show_28 κ)) (X := xx5) (cuts_by (l := [(pieceOf (.reg 9) (getBody Tryz.f46), cc_path_Show_26 κ), (pieceOf (.cnd 39 14) (getBody Tryz.f46), cc_path_Show_28 κ)]) (by kernel_rfl) (all_cons (cc_path_Show_26_ok κ m) (all_cons (cc_path_Show_28_ok κ m) (all_nil)))) (fun s => by kernel_rfl)
def p_path_Show_30 := mkP (T := T) [⟨[(3, .ptr 0 0), (5, .ptr 1 0), (12, .sl 55), (13, .i .i64), (14, .i .i64)], kk17, []⟩] [⟨.normal, ⟨[(3, .ptr 0 0), (5, .ptr 1 0), (12, .sl 55), (13, .i .i64), (14, .i .i64), (32, .b)], kk17, []⟩⟩]
theorem p_path_Show_30_ok : PieceOk p_path_Show_30 := mkP_ok _ _
theorem p_path_Show_30_ct (κ : Nat) (m : Int) : CutOk Tryz.prog C (G m) Tryz.f46.ntmps 0 (pieceOf (.reg 9) (getBody Tryz.f46)) (p_path_Show_30.cut (gcN 0 [3, 5, 12, 13, 14]) (cur _ (path_Show.v30 κ))) :=
 Piece.join p_path_Show_30_ok C_ok mixed (gam7_ok κ m) gcN_ok xx3_ok (cut := noCut) (X := xx3) (cuts_by (l := []) (by kernel_rfl) (all_nil)) (fun s => by kernel_rfl)
def cc_path_Show_31 (κ : Nat) : Cut T := p_path_Show_30.cut (gcN 0 [3, 5, 12, 13, 14]) (cur _ (path_Show.v30 κ))
theorem cc_path_Show_31_ok (κ : Nat) (m : Int) : CutOk Tryz.prog C (G m) Tryz.f46.ntmps 0 (pieceOf (.reg 9) (getBody Tryz.f46)) (cc_path_Show_31 κ) := p_path_Show_30_ct κ m
def ct_path_Show_31 (κ : Nat) : Key → Option (Cut T) := addCut noCut (.reg 9) (cc_path_Show_31 κ)
def p_path_Show_32 := mkP (T := T) [⟨[(3, .ptr 0 0), (5, .ptr 1 0), (12, .sl 55), (13, .i .i64), (14, .i .i64), (39, .b)], kk17, []⟩] [⟨.normal, ⟨[(3, .ptr 0 0), (12, .sl 55), (13, .i .i64), (14, .i .i64)], kk6, []⟩⟩]
theorem p_path_Show_32_ok : PieceOk p_path_Show_32 := mkP_ok _ _
theorem p_path_Show_32_ct (κ : Nat) (m : Int) : CutOk Tryz.prog C (G m) Tryz.f46.ntmps 0 (pieceOf (.cnd 39 14) (getBody Tryz.f46)) (p_path_Show_32.cut (gcN 0 [3, 5, 12, 13, 14, 39]) (cur _ (path_Show.v32 κ))) :=
 Piece.join p_path_Show_32_ok C_ok mixed (gam7_ok κ m) gcN_ok xx4_ok (cut := (ct_path_Show_31 κ)) (X := xx4) (cuts_by (l := []) (by kernel_rfl) (all_nil)) (fun s => by kernel_rfl)
def cc_path_Show_33 (κ : Nat) : Cut T := p_path_Show_32.cut (gcN 0 [3, 5, 12, 13, 14, 39]) (cur _ (path_Show.v32 κ))
theorem cc_path_Show_33_ok (κ : Nat) (m : Int) : CutOk Tryz.prog C (G m) Tryz.f46.ntmps 0 (pieceOf (.cnd 39 14) (getBody Tryz.f46)) (cc_path_Show_33 κ) := p_path_Show_32_ct κ m
def ct_path_Show_33 (κ : Nat) : Key → Option (Cut T) := addCut (ct_path_Show_31 κ) (.cnd 39 14) (cc_path_Show_33 κ)
def p_path_Show_29 := mkP (T := T) [⟨[(3, .ptr 0 0), (12, .sl 55), (13, .i .i64), (14, .i .i64)], kk6, []⟩] [⟨.normal, ⟨[(3, .ptr 0 0), (12, .sl 55), (13, .i .i64), (14, .i .i64)], kk6, []⟩⟩, ⟨.ret, ⟨[(2, .s)], [], []⟩⟩]
theorem p_path_Show_29_ok : PieceOk p_path_Show_29 := mkP_ok _ _
theorem p_path_Show_29_ct (κ : Nat) (m : Int) : CutOk Tryz.prog C (G m) Tryz.f46.ntmps 0 (pieceOf (.blk 1) (getBody Tryz.f46)) (p_path_Show_29.cut (gcN 0 [3, 12, 13, 14]) (cur _ (path_Show.v29 κ))) :=
 Piece.join p_path_Show_29_ok C_ok mixed (gam7_ok κ m) gcN_ok xx5_ok (cut := (ct_path_Show_33 κ)) (X := xx5) (cuts_by (l := [(pieceOf (.reg 9) (getBody Tryz.f46), cc_path_Show_31 κ), (pieceOf (.cnd 39 14) (getBody Tryz.f46), cc_path_Show_33 κ)]) (by kernel_rfl) (all_cons (cc_path_Show_31_ok κ m) (all_cons (cc_path_Show_33_ok κ m) (all_nil)))) (fun s => by kernel_rfl)
def cc_path_Show_34 (κ : Nat) : Cut T := p_path_Show_24.cutOr (gcN 0 [3, 12, 13, 14]) (cur _ (path_Show.v24 κ)) (p_path_Show_29.cut (gcN 0 [3, 12, 13, 14]) (cur _ (path_Show.v29 κ)))
theorem cc_path_Show_34_ok (κ : Nat) (m : Int) : CutOk Tryz.prog C (G m) Tryz.f46.ntmps 0 (pieceOf (.blk 1) (getBody Tryz.f46)) (cc_path_Show_34 κ) := Piece.or_ok (p_path_Show_24_ct κ m) (p_path_Show_29_ct κ m)
def ct_path_Show_34 (κ : Nat) : Key → Option (Cut T) := addCut noCut (.blk 1) (cc_path_Show_34 κ)
def p_path_Show_23 := mkP (T := T) [⟨[(3, .ptr 0 0), (12, .sl 55), (13, .i .i64), (14, .i .i64)], kk5, []⟩, ⟨[(3, .ptr 0 0), (12, .sl 55), (13, .i .i64), (14, .i .i64)], kk6, []⟩] [⟨.normal, ⟨[(3, .ptr 0 0)], kk5, []⟩⟩, ⟨.ret, ⟨[(2, .s)], [], []⟩⟩, ⟨.normal, ⟨[(3, .ptr 0 0)], kk6, []⟩⟩]
theorem p_path_Show_23_ok : PieceOk p_path_Show_23 := mkP_ok _ _
theorem p_path_Show_23_ct (κ : Nat) (m : Int) : CutOk Tryz.prog C (G m) Tryz.f46.ntmps 0 (pieceOf (.blk 0) (getBody Tryz.f46)) (p_path_Show_23.cut nn0 (path_Show.l23 κ κ)) :=
 Piece.loop p_path_Show_23_ok C_ok mixed (gam7_ok κ m) nn0_ok xx6_ok (cut := (ct_path_Show_34 κ)) (X := xx6) (id := 0) (body := bodyOf (pieceOf (.blk 0) (getBody Tryz.f46))) (cuts_by (l := [(pieceOf (.blk 1) (getBody Tryz.f46), cc_path_Show_34 κ)]) (by kernel_rfl) (all_cons (cc_path_Show_34_ok κ m) (all_nil))) (f := path_Show.l23 κ) (fun s => by rcases s with s | s <;> kernel_rfl) (fun k s => by rcases s with s | s <;> kernel_rfl) κ
def cc_path_Show_35 (κ : Nat) : Cut T := p_path_Show_23.cut nn0 (path_Show.l23 κ κ)
theorem cc_path_Show_35_ok (κ : Nat) (m : Int) : CutOk Tryz.prog C (G m) Tryz.f46.ntmps 0 (pieceOf (.blk 0) (getBody Tryz.f46)) (cc_path_Show_35 κ) := p_path_Show_23_ct κ m
def ct_path_Show_35 (κ : Nat) : Key → Option (Cut T) := addCut noCut (.blk 0) (cc_path_Show_35 κ)
def sp_path_Show := mkS (T := T) [.sl 55] [] [⟨false, .s, []⟩]
theorem sp_path_Show_ok : SpecOk sp_path_Show := mkS_ok _ _ _
theorem ok_path_Show (κ : Nat) (m : Int) : EOk Tryz.prog C (G m) 46 (sp_path_Show.entry (fun a0 => path_Show κ a0)) :=
 Spec.ok sp_path_Show_ok C_ok mixed (gam9_ok κ m) (cut := (ct_path_Show_35 κ)) (NR := (gcN 0 [0])) (NP := (gcN 0 [0])) (nB := 0) Tryz.func46 (c := (getBody Tryz.f46)) (by kernel_rfl) (by kernel_rfl) (fun i => by kernel_rfl) gcN_ok gcN_ok (cuts_by (l := [(pieceOf (.blk 0) (getBody Tryz.f46), cc_path_Show_35 κ)]) (by kernel_rfl) (all_cons (cc_path_Show_35_ok κ m) (all_nil))) (fun i => by kernel_rfl)
noncomputable def gam10 (κ : Nat) : Gam T := (gam9 κ).addS 46 sp_path_Show (fun a0 => path_Show κ a0)
theorem gam10_ok (κ : Nat) (m : Int) : GOk Tryz.prog C (G m) (gam10 κ) := (gam9_ok κ m).addS (ok_path_Show κ m)
def p_internal_stringslite_HasPrefix_0 := mkP (T := T) [⟨[(0, .s), (1, .s)], [], []⟩] [⟨.normal, ⟨[(4, .b)], [], []⟩⟩]
theorem p_internal_stringslite_HasPrefix_0_ok : PieceOk p_internal_stringslite_HasPrefix_0 := mkP_ok _ _
theorem p_internal_stringslite_HasPrefix_0_ct (κ : Nat) (m : Int) : CutOk Tryz.prog C (G m) Tryz.f105.ntmps 0 (pieceOf (.reg 1) (getBody Tryz.f105)) (p_internal_stringslite_HasPrefix_0.cut (gcN 0 [0, 1]) (cur _ (internal_stringslite_HasPrefix.v0 κ))) :=
 Piece.join p_internal_stringslite_HasPrefix_0_ok C_ok mixed (gam10_ok κ m) gcN_ok xx7_ok (cut := noCut) (X := xx7) (cuts_by (l := []) (by kernel_rfl) (all_nil)) (fun s => by kernel_rfl)
def cc_internal_stringslite_HasPrefix_1 (κ : Nat) : Cut T := p_internal_stringslite_HasPrefix_0.cut (gcN 0 [0, 1]) (cur _ (internal_stringslite_HasPrefix.v0 κ))
theorem cc_internal_stringslite_HasPrefix_1_ok (κ : Nat) (m : Int) : CutOk Tryz.prog C (G m) Tryz.f105.ntmps 0 (pieceOf (.reg 1) (getBody Tryz.f105)) (cc_internal_stringslite_HasPrefix_1 κ) := p_internal_stringslite_HasPrefix_0_ct κ m
def ct_internal_stringslite_HasPrefix_1 (κ : Nat) : Key → Option (Cut T) := addCut noCut (.reg 1) (cc_internal_stringslite_HasPrefix_1 κ)
def sp_internal_stringslite_HasPrefix := mkS (T := T) [.s, .s] [] [⟨false, .b, []⟩]
theorem sp_internal_stringslite_HasPrefix_ok : SpecOk sp_internal_stringslite_HasPrefix := mkS_ok _ _ _
theorem ok_internal_stringslite_HasPrefix (κ : Nat) (m : Int) : EOk Tryz.prog C (G m) 105 (sp_internal_stringslite_HasPrefix.entry (cur _ (internal_stringslite_HasPrefix κ))) :=
 Spec.ok sp_internal_stringslite_HasPrefix_ok C_ok mixed (gam10_ok κ m) (cut := (ct_internal_stringslite_HasPrefix_1 κ)) (NR := (gcN 0 [0])) (NP := (gcN 0 [0])) (nB := 0) Tryz.func105 (c := (getBody Tryz.f105)) (by kernel_rfl) (by kernel_rfl) (fun i => by kernel_rfl) gcN_ok gcN_ok (cuts_by (l := [(pieceOf (.reg 1) (getBody Tryz.f105), cc_internal_stringslite_HasPrefix_1 κ)]) (by kernel_rfl) (all_cons (cc_internal_stringslite_HasPrefix_1_ok κ m) (all_nil))) (fun i => by kernel_rfl)
noncomputable def gam11 (κ : Nat) : Gam T := (gam10 κ).addS 105 sp_internal_stringslite_HasPrefix (cur _ (internal_stringslite_HasPrefix κ))
theorem gam11_ok (κ : Nat) (m : Int) : GOk Tryz.prog C (G m) (gam11 κ) := (gam10_ok κ m).addS (ok_internal_stringslite_HasPrefix κ m)
def sp_strings_HasPrefix := mkS (T := T) [.s, .s] [] [⟨false, .b, []⟩]
theorem sp_strings_HasPrefix_ok : SpecOk sp_strings_HasPrefix := mkS_ok _ _ _
theorem ok_strings_HasPrefix (κ : Nat) (m : Int) : EOk Tryz.prog C (G m) 85 (sp_strings_HasPrefix.entry (cur _ (strings_HasPrefix κ))) :=
 Spec.ok sp_strings_HasPrefix_ok C_ok mixed (gam11_ok κ m) (cut := noCut) (NR := (gcN 0 [0])) (NP := (gcN 0 [0])) (nB := 0) Tryz.func85 (c := (getBody Tryz.f85)) (by kernel_rfl) (by kernel_rfl) (fun i => by kernel_rfl) gcN_ok gcN_ok (cuts_by (l := []) (by kernel_rfl) (all_nil)) (fun i => by kernel_rfl)
noncomputable def gam12 (κ : Nat) : Gam T := (gam11 κ).addS 85 sp_strings_HasPrefix (cur _ (strings_HasPrefix κ))
theorem gam12_ok (κ : Nat) (m : Int) : GOk Tryz.prog C (G m) (gam12 κ) := (gam11_ok κ m).addS (ok_strings_HasPrefix κ m)
def p_path_reader_fail_0 := mkP (T := T) [⟨[(0, .ptr 0 0), (1, .i .i64), (8, .b)], kk7, []⟩] [⟨.normal, ⟨[], kk7, []⟩⟩]
theorem p_path_reader_fail_0_ok : PieceOk p_path_reader_fail_0 := mkP_ok _ _
theorem p_path_reader_fail_0_ct (κ : Nat) (m : Int) : CutOk Tryz.prog C (G m) Tryz.f86.ntmps 1 (pieceOf (.cnd 8 2) (getBody Tryz.f86)) (p_path_reader_fail_0.cut (gcN 1 [0, 1, 8]) (cur _ (path_reader_fail.v0 κ))) :=
 Piece.join p_path_reader_fail_0_ok C_ok mixed (gam12_ok κ m) gcN_ok xx1_ok (cut := noCut) (X := xx1) (cuts_by (l := []) (by kernel_rfl) (all_nil)) (fun s => by kernel_rfl)
def cc_path_reader_fail_1 (κ : Nat) : Cut T := p_path_reader_fail_0.cut (gcN 1 [0, 1, 8]) (cur _ (path_reader_fail.v0 κ))
theorem cc_path_reader_fail_1_ok (κ : Nat) (m : Int) : CutOk Tryz.prog C (G m) Tryz.f86.ntmps 1 (pieceOf (.cnd 8 2) (getBody Tryz.f86)) (cc_path_reader_fail_1 κ) := p_path_reader_fail_0_ct κ m
def ct_path_reader_fail_1 (κ : Nat) : Key → Option (Cut T) := addCut noCut (.cnd 8 2) (cc_path_reader_fail_1 κ)
def sp_path_reader_fail := mkS (T := T) [.ptr 0 0, .i .i64] kk7 [⟨false, .tup [], kk7⟩]
theorem sp_path_reader_fail_ok : SpecOk sp_path_reader_fail := mkS_ok _ _ _
theorem ok_path_reader_fail (κ : Nat) (m : Int) : EOk Tryz.prog C (G m) 86 (sp_path_reader_fail.entry (cur _ (path_reader_fail κ))) :=
 Spec.ok sp_path_reader_fail_ok C_ok mixed (gam12_ok κ m) (cut := (ct_path_reader_fail_1 κ)) (NR := (gcN 1 [0])) (NP := (gcN 1 [0])) (nB := 1) Tryz.func86 (c := (getBody Tryz.f86)) (by kernel_rfl) (by kernel_rfl) (fun i => by kernel_rfl) gcN_ok gcN_ok (cuts_by (l := [(pieceOf (.cnd 8 2) (getBody Tryz.f86), cc_path_reader_fail_1 κ)]) (by kernel_rfl) (all_cons (cc_path_reader_fail_1_ok κ m) (all_nil))) (fun i => by kernel_rfl)
noncomputable def gam13 (κ : Nat) : Gam T := (gam12 κ).addS 86 sp_path_reader_fail (cur _ (path_reader_fail κ))
theorem gam13_ok (κ : Nat) (m : Int) : GOk Tryz.prog C (G m) (gam13 κ) := (gam12_ok κ m).addS (ok_path_reader_fail κ m)
def sp_internal_stringslite_CutPrefix := mkS (T := T) [.s, .s] [] [⟨false, .tup [.s, .b], []⟩]
theorem sp_internal_stringslite_CutPrefix_ok : SpecOk sp_internal_stringslite_CutPrefix := mkS_ok _ _ _
theorem ok_internal_stringslite_CutPrefix (κ : Nat) (m : Int) : EOk Tryz.prog C (G m) 119 (sp_internal_stringslite_CutPrefix.entry (cur _ (internal_stringslite_CutPrefix κ))) :=
 Spec.ok sp_internal_stringslite_CutPrefix_ok C_ok mixed (gam13_ok κ m) (cut := noCut) (NR := (gcN 0 [0])) (NP := (gcN 0 [0])) (nB := 0) Tryz.func119 (c := (getBody Tryz.f119)) (by kernel_rfl) (by kernel_rfl) (fun i => by kernel_rfl) gcN_ok gcN_ok (cuts_by (l := []) (by kernel_rfl) (all_nil)) (fun i => by kernel_rfl)
noncomputable def gam14 (κ : Nat) : Gam T := (gam13 κ).addS 119 sp_internal_stringslite_CutPrefix (cur _ (internal_stringslite_CutPrefix κ))
theorem gam14_ok (κ : Nat) (m : Int) : GOk Tryz.prog C (G m) (gam14 κ) := (gam13_ok κ m).addS (ok_internal_stringslite_CutPrefix κ m)
def sp_strings_CutPrefix := mkS (T := T) [.s, .s] [] [⟨false, .tup [.s, .b], []⟩]
theorem sp_strings_CutPrefix_ok : SpecOk sp_strings_CutPrefix := mkS_ok _ _ _
theorem ok_strings_CutPrefix (κ : Nat) (m : Int) : EOk Tryz.prog C (G m) 106 (sp_strings_CutPrefix.entry (cur _ (strings_CutPrefix κ))) :=
 Spec.ok sp_strings_CutPrefix_ok C_ok mixed (gam14_ok κ m) (cut := noCut) (NR := (gcN 0 [0])) (NP := (gcN 0 [0])) (nB := 0) Tryz.func106 (c := (getBody Tryz.f106)) (by kernel_rfl) (by kernel_rfl) (fun i => by kernel_rfl) gcN_ok gcN_ok (cuts_by (l := []) (by kernel_rfl) (all_nil)) (fun i => by kernel_rfl)
noncomputable def gam15 (κ : Nat) : Gam T := (gam14 κ).addS 106 sp_strings_CutPrefix (cur _ (strings_CutPrefix κ))
theorem gam15_ok (κ : Nat) (m : Int) : GOk Tryz.prog C (G m) (gam15 κ) := (gam14_ok κ m).addS (ok_strings_CutPrefix κ m)
def sp_path_reader_sign := mkS (T := T) [.ptr 0 0, .s] kk7 [⟨false, .tup [], kk7⟩]
theorem sp_path_reader_sign_ok : SpecOk sp_path_reader_sign := mkS_ok _ _ _
theorem ok_path_reader_sign (κ : Nat) (m : Int) : EOk Tryz.prog C (G m) 87 (sp_path_reader_sign.entry (cur _ (path_reader_sign κ))) :=
 Spec.ok sp_path_reader_sign_ok C_ok mixed (gam15_ok κ m) (cut := noCut) (NR := (gcN 1 [0])) (NP := (gcN 1 [0])) (nB := 1) Tryz.func87 (c := (getBody Tryz.f87)) (by kernel_rfl) (by kernel_rfl) (fun i => by kernel_rfl) gcN_ok gcN_ok (cuts_by (l := []) (by kernel_rfl) (all_nil)) (fun i => by kernel_rfl)
noncomputable def gam16 (κ : Nat) : Gam T := (gam15 κ).addS 87 sp_path_reader_sign (cur _ (path_reader_sign κ))
theorem gam16_ok (κ : Nat) (m : Int) : GOk Tryz.prog C (G m) (gam16 κ) := (gam15_ok κ m).addS (ok_path_reader_sign κ m)
def p_path_reader_name_0 := mkP (T := T) [⟨[(0, .ptr 0 0), (3, .s), (4, .s), (25, .b)], kk7, []⟩] [⟨.normal, ⟨[(0, .ptr 0 0), (3, .s), (4, .s)], kk7, []⟩⟩]
theorem p_path_reader_name_0_ok : PieceOk p_path_reader_name_0 := mkP_ok _ _
theorem p_path_reader_name_0_ct (κ : Nat) (m : Int) : CutOk Tryz.prog C (G m) Tryz.f88.ntmps 1 (pieceOf (.cnd 25 5) (getBody Tryz.f88)) (p_path_reader_name_0.cut (gcN 1 [0, 3, 4, 25]) (cur _ (path_reader_name.v0 κ))) :=
 Piece.join p_path_reader_name_0_ok C_ok mixed (gam16_ok κ m) gcN_ok xx8_ok (cut := noCut) (X := xx8) (cuts_by (l := []) (by kernel_rfl) (all_nil)) (fun s => by kernel_rfl)
def cc_path_reader_name_1 (κ : Nat) : Cut T := p_path_reader_name_0.cut (gcN 1 [0, 3, 4, 25]) (cur _ (path_reader_name.v0 κ))
theorem cc_path_reader_name_1_ok (κ : Nat) (m : Int) : CutOk Tryz.prog C (G m) Tryz.f88.ntmps 1 (pieceOf (.cnd 25 5) (getBody Tryz.f88)) (cc_path_reader_name_1 κ) := p_path_reader_name_0_ct κ m
def ct_path_reader_name_1 (κ : Nat) : Key → Option (Cut T) := addCut noCut (.cnd 25 5) (cc_path_reader_name_1 κ)
def sp_path_reader_name := mkS (T := T) [.ptr 0 0] kk7 [⟨false, .s, kk7⟩]
theorem sp_path_reader_name_ok : SpecOk sp_path_reader_name := mkS_ok _ _ _
theorem ok_path_reader_name (κ : Nat) (m : Int) : EOk Tryz.prog C (G m) 88 (sp_path_reader_name.entry (cur _ (path_reader_name κ))) :=
 Spec.ok sp_path_reader_name_ok C_ok mixed (gam16_ok κ m) (cut := (ct_path_reader_name_1 κ)) (NR := (gcN 1 [0])) (NP := (gcN 1 [0])) (nB := 1) Tryz.func88 (c := (getBody Tryz.f88)) (by kernel_rfl) (by kernel_rfl) (fun i => by kernel_rfl) gcN_ok gcN_ok (cuts_by (l := [(pieceOf (.cnd 25 5) (getBody Tryz.f88), cc_path_reader_name_1 κ)]) (by kernel_rfl) (all_cons (cc_path_reader_name_1_ok κ m) (all_nil))) (fun i => by kernel_rfl)
noncomputable def gam17 (κ : Nat) : Gam T := (gam16 κ).addS 88 sp_path_reader_name (cur _ (path_reader_name κ))
theorem gam17_ok (κ : Nat) (m : Int) : GOk Tryz.prog C (G m) (gam17 κ) := (gam16_ok κ m).addS (ok_path_reader_name κ m)
def p_path_reader_step_0 := mkP (T := T) [⟨[(0, .ptr 0 0), (1, .i .i64), (4, .ptr 1 0)], kk18, []⟩] [⟨.normal, ⟨[(0, .ptr 0 0), (4, .ptr 1 0), (14, .b)], kk18, []⟩⟩]
theorem p_path_reader_step_0_ok : PieceOk p_path_reader_step_0 := mkP_ok _ _
theorem p_path_reader_step_0_ct (κ : Nat) (m : Int) : CutOk Tryz.prog C (G m) Tryz.f66.ntmps 1 (pieceOf (.reg 1) (getBody Tryz.f66)) (p_path_reader_step_0.cut (gcN 1 [0, 1, 4]) (cur _ (path_reader_step.v0 κ))) :=
 Piece.join p_path_reader_step_0_ok C_ok mixed (gam12_ok κ m) gcN_ok xx9_ok (cut := noCut) (X := xx9) (cuts_by (l := []) (by kernel_rfl) (all_nil)) (fun s => by kernel_rfl)
def cc_path_reader_step_1 (κ : Nat) : Cut T := p_path_reader_step_0.cut (gcN 1 [0, 1, 4]) (cur _ (path_reader_step.v0 κ))
theorem cc_path_reader_step_1_ok (κ : Nat) (m : Int) : CutOk Tryz.prog C (G m) Tryz.f66.ntmps 1 (pieceOf (.reg 1) (getBody Tryz.f66)) (cc_path_reader_step_1 κ) := p_path_reader_step_0_ct κ m
def ct_path_reader_step_1 (κ : Nat) : Key → Option (Cut T) := addCut noCut (.reg 1) (cc_path_reader_step_1 κ)
def p_path_reader_step_2 := mkP (T := T) [⟨[(0, .ptr 0 0), (4, .ptr 1 0), (14, .b)], kk18, []⟩] [⟨.normal, ⟨[(0, .ptr 0 0), (4, .ptr 1 0)], kk18, []⟩⟩]
theorem p_path_reader_step_2_ok : PieceOk p_path_reader_step_2 := mkP_ok _ _
theorem p_path_reader_step_2_ct (κ : Nat) (m : Int) : CutOk Tryz.prog C (G m) Tryz.f66.ntmps 1 (pieceOf (.cnd 14 3) (getBody Tryz.f66)) (p_path_reader_step_2.cut (gcN 1 [0, 4, 14]) (cur _ (path_reader_step.v2 κ))) :=
 Piece.join p_path_reader_step_2_ok C_ok mixed (gam13_ok κ m) gcN_ok xx10_ok (cut := (ct_path_reader_step_1 κ)) (X := xx10) (cuts_by (l := []) (by kernel_rfl) (all_nil)) (fun s => by kernel_rfl)
def cc_path_reader_step_3 (κ : Nat) : Cut T := p_path_reader_step_2.cut (gcN 1 [0, 4, 14]) (cur _ (path_reader_step.v2 κ))
theorem cc_path_reader_step_3_ok (κ : Nat) (m : Int) : CutOk Tryz.prog C (G m) Tryz.f66.ntmps 1 (pieceOf (.cnd 14 3) (getBody Tryz.f66)) (cc_path_reader_step_3 κ) := p_path_reader_step_2_ct κ m
def ct_path_reader_step_3 (κ : Nat) : Key → Option (Cut T) := addCut (ct_path_reader_step_1 κ) (.cnd 14 3) (cc_path_reader_step_3 κ)
def p_path_reader_step_4 := mkP (T := T) [⟨[(0, .ptr 0 0), (4, .ptr 1 0), (5, .ptr 2 0), (26, .b)], [.cells 115 none kk0, .cells 55 none [.s, .s], .cells 55 none [.s, .s]], []⟩] [⟨.normal, ⟨[(4, .ptr 1 0), (5, .ptr 2 0)], [.cells 115 none kk0, .cells 55 none [.s, .s], .cells 55 none [.s, .s]], []⟩⟩]
theorem p_path_reader_step_4_ok : PieceOk p_path_reader_step_4 := mkP_ok _ _
theorem p_path_reader_step_4_ct (κ : Nat) (m : Int) : CutOk Tryz.prog C (G m) Tryz.f66.ntmps 1 (pieceOf (.cnd 26 7) (getBody Tryz.f66)) (p_path_reader_step_4.cut (gcN 1 [0, 4, 5, 26]) (cur _ (path_reader_step.v4 κ))) :=
 Piece.join p_path_reader_step_4_ok C_ok mixed (gam17_ok κ m) gcN_ok xx11_ok (cut := (ct_path_reader_step_3 κ)) (X := xx11) (cuts_by (l := []) (by kernel_rfl) (all_nil)) (fun s => by kernel_rfl)
def cc_path_reader_step_5 (κ : Nat) : Cut T := p_path_reader_step_4.cut (gcN 1 [0, 4, 5, 26]) (cur _ (path_reader_step.v4 κ))
theorem cc_path_reader_step_5_ok (κ : Nat) (m : Int) : CutOk Tryz.prog C (G m) Tryz.f66.ntmps 1 (pieceOf (.cnd 26 7) (getBody Tryz.f66)) (cc_path_reader_step_5 κ) := p_path_reader_step_4_ct κ m
def ct_path_reader_step_5 (κ : Nat) : Key → Option (Cut T) := addCut (ct_path_reader_step_3 κ) (.cnd 26 7) (cc_path_reader_step_5 κ)
def sp_path_reader_step := mkS (T := T) [.ptr 0 0, .i .i64] kk7 [⟨false, .agg [.s, .s], kk7⟩]
theorem sp_path_reader_step_ok : SpecOk sp_path_reader_step := mkS_ok _ _ _
theorem ok_path_reader_step (κ : Nat) (m : Int) : EOk Tryz.prog C (G m) 66 (sp_path_reader_step.entry (cur _ (path_reader_step κ))) :=
 Spec.ok sp_path_reader_step_ok C_ok mixed (gam17_ok κ m) (cut := (ct_path_reader_step_5 κ)) (NR := (gcN 1 [0])) (NP := (gcN 1 [0])) (nB := 1) Tryz.func66 (c := (getBody Tryz.f66)) (by kernel_rfl) (by kernel_rfl) (fun i => by kernel_rfl) gcN_ok gcN_ok (cuts_by (l := [(pieceOf (.reg 1) (getBody Tryz.f66), cc_path_reader_step_1 κ), (pieceOf (.cnd 14 3) (getBody Tryz.f66), cc_path_reader_step_3 κ), (pieceOf (.cnd 26 7) (getBody Tryz.f66), cc_path_reader_step_5 κ)]) (by kernel_rfl) (all_cons (cc_path_reader_step_1_ok κ m) (all_cons (cc_path_reader_step_3_ok κ m) (all_cons (cc_path_reader_step_5_ok κ m) (all_nil))))) (fun i => by kernel_rfl)
noncomputable def gam18 (κ : Nat) : Gam T := (gam17 κ).addS 66 sp_path_reader_step (cur _ (path_reader_step κ))
theorem gam18_ok (κ : Nat) (m : Int) : GOk Tryz.prog C (G m) (gam18 κ) := (gam17_ok κ m).addS (ok_path_reader_step κ m)
def p_path_Parse_3 := mkP (T := T) [⟨[(5, .ptr 0 0), (6, .own 1)], kk11, []⟩] [⟨.normal, ⟨[(5, .ptr 0 0), (6, .own 1), (28, .b)], kk11, []⟩⟩]
theorem p_path_Parse_3_ok : PieceOk p_path_Parse_3 := mkP_ok _ _
theorem p_path_Parse_3_ct (κ : Nat) (m : Int) : CutOk Tryz.prog C (G m) Tryz.f55.ntmps 0 (pieceOf (.reg 5) (getBody Tryz.f55)) (p_path_Parse_3.cut (gcN 0 [5, 6]) (cur _ (path_Parse.v3 κ))) :=
 Piece.join p_path_Parse_3_ok C_ok mixed (gam18_ok κ m) gcN_ok xx12_ok (cut := noCut) (X := xx12) (cuts_by (l := []) (by kernel_rfl) (all_nil)) (fun s => by kernel_rfl)
def cc_path_Parse_4 (κ : Nat) : Cut T := p_path_Parse_3.cut (gcN 0 [5, 6]) (cur _ (path_Parse.v3 κ))
theorem cc_path_Parse_4_ok (κ : Nat) (m : Int) : CutOk Tryz.prog C (G m) Tryz.f55.ntmps 0 (pieceOf (.reg 5) (getBody Tryz.f55)) (cc_path_Parse_4 κ) := p_path_Parse_3_ct κ m
def ct_path_Parse_4 (κ : Nat) : Key → Option (Cut T) := addCut noCut (.reg 5) (cc_path_Parse_4 κ)
def p_path_Parse_2 := mkP (T := T) [⟨[(5, .ptr 0 0), (6, .own 1)], kk11, []⟩] [⟨.normal, ⟨[(5, .ptr 0 0), (6, .own 1)], kk11, []⟩⟩]
theorem p_path_Parse_2_ok : PieceOk p_path_Parse_2 := mkP_ok _ _
theorem p_path_Parse_2_ct (κ : Nat) (m : Int) : CutOk Tryz.prog C (G m) Tryz.f55.ntmps 0 (pieceOf (.blk 0) (getBody Tryz.f55)) (p_path_Parse_2.cut (gcN 0 [5, 6]) (path_Parse.l2 κ κ)) :=
 Piece.loop p_path_Parse_2_ok C_ok mixed (gam18_ok κ m) gcN_ok xx13_ok (cut := (ct_path_Parse_4 κ)) (X := xx13) (id := 0) (body := bodyOf (pieceOf (.blk 0) (getBody Tryz.f55))) (cuts_by (l := [(pieceOf (.reg 5) (getBody Tryz.f55), cc_path_Parse_4 κ)]) (by kernel_rfl) (all_cons (cc_path_Parse_4_ok κ m) (all_nil))) (f := path_Parse.l2 κ) (fun s => by kernel_rfl) (fun k s => by kernel_rfl) κ
def cc_path_Parse_5 (κ : Nat) : Cut T := p_path_Parse_2.cut (gcN 0 [5, 6]) (path_Parse.l2 κ κ)
theorem cc_path_Parse_5_ok (κ : Nat) (m : Int) : CutOk Tryz.prog C (G m) Tryz.f55.ntmps 0 (pieceOf (.blk 0) (getBody Tryz.f55)) (cc_path_Parse_5 κ) := p_path_Parse_2_ct κ m
def ct_path_Parse_5 (κ : Nat) : Key → Option (Cut T) := addCut noCut (.blk 0) (cc_path_Parse_5 κ)
def sp_path_Parse := mkS (T := T) [.s] [] [⟨false, .tup [.own 0, .i .i64, .i .i64], [.row 55 true]⟩]
theorem sp_path_Parse_ok : SpecOk sp_path_Parse := mkS_ok _ _ _
theorem ok_path_Parse (κ : Nat) (m : Int) : EOk Tryz.prog C (G m) 55 (sp_path_Parse.entry (fun a0 => path_Parse κ a0)) :=
 Spec.ok sp_path_Parse_ok C_ok mixed (gam18_ok κ m) (cut := (ct_path_Parse_5 κ)) (NR := (andN (promS 0 [0] 55) (gcN 0 [0]))) (NP := (gcN 0 [0])) (nB := 0) Tryz.func55 (c := (getBody Tryz.f55)) (by kernel_rfl) (by kernel_rfl) (fun i => by kernel_rfl) (andN_ok promS_ok gcN_ok) gcN_ok (cuts_by (l := [(pieceOf (.blk 0) (getBody Tryz.f55), cc_path_Parse_5 κ)]) (by kernel_rfl) (all_cons (cc_path_Parse_5_ok κ m) (all_nil))) (fun i => by kernel_rfl)
noncomputable def gam19 (κ : Nat) : Gam T := (gam18 κ).addS 55 sp_path_Parse (fun a0 => path_Parse κ a0)
theorem gam19_ok (κ : Nat) (m : Int) : GOk Tryz.prog C (G m) (gam19 κ) := (gam18_ok κ m).addS (ok_path_Parse κ m)
def p_words_parts_5 := mkP (T := T) [⟨[(0, .i .i64), (5, .i .i64), (6, .b)], [], []⟩] [⟨.normal, ⟨[(0, .i .i64), (5, .i .i64), (6, .b)], [], []⟩⟩]
theorem p_words_parts_5_ok : PieceOk p_words_parts_5 := mkP_ok _ _
theorem p_words_parts_5_ct (κ : Nat) (m : Int) : CutOk Tryz.prog C (G m) Tryz.f32.ntmps 0 (pieceOf (.cnd 6 9) (getBody Tryz.f32)) (p_words_parts_5.cut (gcN 0 [0, 5, 6]) (cur _ (words_parts.v5 κ))) :=
 Piece.join p_words_parts_5_ok C_ok mixed (gam19_ok κ m) gcN_ok xx14_ok (cut := noCut) (X := xx14) (cuts_by (l := []) (by kernel_rfl) (all_nil)) (fun s => by kernel_rfl)
def cc_words_parts_6 (κ : Nat) : Cut T := p_words_parts_5.cut (gcN 0 [0, 5, 6]) (cur _ (words_parts.v5 κ))
theorem cc_words_parts_6_ok (κ : Nat) (m : Int) : CutOk Tryz.prog C (G m) Tryz.f32.ntmps 0 (pieceOf (.cnd 6 9) (getBody Tryz.f32)) (cc_words_parts_6 κ) := p_words_parts_5_ct κ m
def ct_words_parts_6 (κ : Nat) : Key → Option (Cut T) := addCut noCut (.cnd 6 9) (cc_words_parts_6 κ)
def p_words_parts_4 := mkP (T := T) [⟨[(0, .i .i64), (5, .i .i64), (6, .b)], [], []⟩] [⟨.normal, ⟨[(0, .i .i64), (5, .i .i64), (6, .b)], [], []⟩⟩]
theorem p_words_parts_4_ok : PieceOk p_words_parts_4 := mkP_ok _ _
theorem p_words_parts_4_ct (κ : Nat) (m : Int) : CutOk Tryz.prog C (G m) Tryz.f32.ntmps 0 (pieceOf (.cnd 6 8) (getBody Tryz.f32)) (p_words_parts_4.cut (gcN 0 [0, 5, 6]) (cur _ (words_parts.v4 κ))) :=
 Piece.join p_words_parts_4_ok C_ok mixed (gam19_ok κ m) gcN_ok xx14_ok (cut := (ct_words_parts_6 κ)) (X := xx14) (cuts_by (l := [(pieceOf (.cnd 6 9) (getBody Tryz.f32), cc_words_parts_6 κ)]) (by kernel_rfl) (all_cons (cc_words_parts_6_ok κ m) (all_nil))) (fun s => by kernel_rfl)
def cc_words_parts_7 (κ : Nat) : Cut T := p_words_parts_4.cut (gcN 0 [0, 5, 6]) (cur _ (words_parts.v4 κ))
theorem cc_words_parts_7_ok (κ : Nat) (m : Int) : CutOk Tryz.prog C (G m) Tryz.f32.ntmps 0 (pieceOf (.cnd 6 8) (getBody Tryz.f32)) (cc_words_parts_7 κ) := p_words_parts_4_ct κ m
def ct_words_parts_7 (κ : Nat) : Key → Option (Cut T) := addCut noCut (.cnd 6 8) (cc_words_parts_7 κ)
def p_words_parts_3 := mkP (T := T) [⟨[(0, .i .i64), (5, .i .i64), (6, .b)], [], []⟩] [⟨.normal, ⟨[(0, .i .i64), (5, .i .i64), (6, .b)], [], []⟩⟩]
theorem p_words_parts_3_ok : PieceOk p_words_parts_3 := mkP_ok _ _
theorem p_words_parts_3_ct (κ : Nat) (m : Int) : CutOk Tryz.prog C (G m) Tryz.f32.ntmps 0 (pieceOf (.cnd 6 7) (getBody Tryz.f32)) (p_words_parts_3.cut (gcN 0 [0, 5, 6]) (cur _ (words_parts.v3 κ))) :=
 Piece.join p_words_parts_3_ok C_ok mixed (gam19_ok κ m) gcN_ok xx14_ok (cut := (ct_words_parts_7 κ)) (X := xx14) (cuts_by (l := [(pieceOf (.cnd 6 8) (getBody Tryz.f32), cc_words_parts_7 κ)]) (by kernel_rfl) (all_cons (cc_words_parts_7_ok κ m) (all_nil))) (fun s => by kernel_rfl)
def cc_words_parts_8 (κ : Nat) : Cut T := p_words_parts_3.cut (gcN 0 [0, 5, 6]) (cur _ (words_parts.v3 κ))
theorem cc_words_parts_8_ok (κ : Nat) (m : Int) : CutOk Tryz.prog C (G m) Tryz.f32.ntmps 0 (pieceOf (.cnd 6 7) (getBody Tryz.f32)) (cc_words_parts_8 κ) := p_words_parts_3_ct κ m
def ct_words_parts_8 (κ : Nat) : Key → Option (Cut T) := addCut noCut (.cnd 6 7) (cc_words_parts_8 κ)
def p_words_parts_2 := mkP (T := T) [⟨[(0, .i .i64), (5, .i .i64), (6, .b)], [], []⟩] [⟨.normal, ⟨[(0, .i .i64), (5, .i .i64), (6, .b)], [], []⟩⟩]
theorem p_words_parts_2_ok : PieceOk p_words_parts_2 := mkP_ok _ _
theorem p_words_parts_2_ct (κ : Nat) (m : Int) : CutOk Tryz.prog C (G m) Tryz.f32.ntmps 0 (pieceOf (.cnd 6 6) (getBody Tryz.f32)) (p_words_parts_2.cut (gcN 0 [0, 5, 6]) (cur _ (words_parts.v2 κ))) :=
 Piece.join p_words_parts_2_ok C_ok mixed (gam19_ok κ m) gcN_ok xx14_ok (cut := (ct_words_parts_8 κ)) (X := xx14) (cuts_by (l := [(pieceOf (.cnd 6 7) (getBody Tryz.f32), cc_words_parts_8 κ)]) (by kernel_rfl) (all_cons (cc_words_parts_8_ok κ m) (all_nil))) (fun s => by kernel_rfl)
def cc_words_parts_9 (κ : Nat) : Cut T := p_words_parts_2.cut (gcN 0 [0, 5, 6]) (cur _ (words_parts.v2 κ))
theorem cc_words_parts_9_ok (κ : Nat) (m : Int) : CutOk Tryz.prog C (G m) Tryz.f32.ntmps 0 (pieceOf (.cnd 6 6) (getBody Tryz.f32)) (cc_words_parts_9 κ) := p_words_parts_2_ct κ m
def ct_words_parts_9 (κ : Nat) : Key → Option (Cut T) := addCut noCut (.cnd 6 6) (cc_words_parts_9 κ)
def p_words_parts_1 := mkP (T := T) [⟨[(0, .i .i64), (5, .i .i64), (6, .b)], [], []⟩] [⟨.normal, ⟨[(0, .i .i64), (5, .i .i64), (6, .b)], [], []⟩⟩]
theorem p_words_parts_1_ok : PieceOk p_words_parts_1 := mkP_ok _ _
theorem p_words_parts_1_ct (κ : Nat) (m : Int) : CutOk Tryz.prog C (G m) Tryz.f32.ntmps 0 (pieceOf (.cnd 6 5) (getBody Tryz.f32)) (p_words_parts_1.cut (gcN 0 [0, 5, 6]) (cur _ (words_parts.v1 κ))) :=
 Piece.join p_words_parts_1_ok C_ok mixed (gam19_ok κ m) gcN_ok xx14_ok (cut := (ct_words_parts_9 κ)) (X := xx14) (cuts_by (l := [(pieceOf (.cnd 6 6) (getBody Tryz.f32), cc_words_parts_9 κ)]) (by kernel_rfl) (all_cons (cc_words_parts_9_ok κ m) (all_nil))) (fun s => by kernel_rfl)
def cc_words_parts_10 (κ : Nat) : Cut T := p_words_parts_1.cut (gcN 0 [0, 5, 6]) (cur _ (words_parts.v1 κ))
theorem cc_words_parts_10_ok (κ : Nat) (m : Int) : CutOk Tryz.prog C (G m) Tryz.f32.ntmps 0 (pieceOf (.cnd 6 5) (getBody Tryz.f32)) (cc_words_parts_10 κ) := p_words_parts_1_ct κ m
def ct_words_parts_10 (κ : Nat) : Key → Option (Cut T) := addCut noCut (.cnd 6 5) (cc_words_parts_10 κ)
def p_words_parts_0 := mkP (T := T) [⟨[(0, .i .i64), (5, .i .i64), (6, .b)], [], []⟩] [⟨.normal, ⟨[(0, .i .i64), (5, .i .i64), (6, .b)], [], []⟩⟩]
theorem p_words_parts_0_ok : PieceOk p_words_parts_0 := mkP_ok _ _
theorem p_words_parts_0_ct (κ : Nat) (m : Int) : CutOk Tryz.prog C (G m) Tryz.f32.ntmps 0 (pieceOf (.cnd 6 4) (getBody Tryz.f32)) (p_words_parts_0.cut (gcN 0 [0, 5, 6]) (cur _ (words_parts.v0 κ))) :=
 Piece.join p_words_parts_0_ok C_ok mixed (gam19_ok κ m) gcN_ok xx14_ok (cut := (ct_words_parts_10 κ)) (X := xx14) (cuts_by (l := [(pieceOf (.cnd 6 5) (getBody Tryz.f32), cc_words_parts_10 κ)]) (by kernel_rfl) (all_cons (cc_words_parts_10_ok κ m) (all_nil))) (fun s => by kernel_rfl)
def cc_words_parts_11 (κ : Nat) : Cut T := p_words_parts_0.cut (gcN 0 [0, 5, 6]) (cur _ (words_parts.v0 κ))
theorem cc_words_parts_11_ok (κ : Nat) (m : Int) : CutOk Tryz.prog C (G m) Tryz.f32.ntmps 0 (pieceOf (.cnd 6 4) (getBody Tryz.f32)) (cc_words_parts_11 κ) := p_words_parts_0_ct κ m
def ct_words_parts_11 (κ : Nat) : Key → Option (Cut T) := addCut noCut (.cnd 6 4) (cc_words_parts_11 κ)
def sp_words_parts := mkS (T := T) [.i .i64] [] [⟨false, .cap0, []⟩, ⟨false, .slc 0 0 2 2, [.cells 20 none kk1]⟩, ⟨false, .slc 0 0 2 2, [.cells 20 none kk3]⟩, ⟨false, .slc 0 0 4 4, [.cells 20 none kk22]⟩, ⟨false, .slc 0 0 4 4, [.cells 20 none kk12]⟩, ⟨false, .slc 0 0 4 4, [.cells 20 none kk13]⟩, ⟨false, .slc 0 0 5 5, [.cells 20 none kk27]⟩, ⟨false, .slc 0 0 3 3, [.cells 20 none kk10]⟩, ⟨false, .slc 0 0 3 3, [.cells 20 none kk8]⟩, ⟨false, .slc 0 0 3 3, [.cells 20 none kk9]⟩, ⟨false, .slc 0 0 4 4, [.cells 20 none kk14]⟩, ⟨false, .slc 0 0 2 2, [.cells 20 none kk2]⟩]
theorem sp_words_parts_ok : SpecOk sp_words_parts := mkS_ok _ _ _
theorem ok_words_parts (κ : Nat) (m : Int) : EOk Tryz.prog C (G m) 32 (sp_words_parts.entry (fun a0 => words_parts κ a0)) :=
 Spec.ok sp_words_parts_ok C_ok mixed (gam19_ok κ m) (cut := (ct_words_parts_11 κ)) (NR := (gcN 0 [0])) (NP := (gcN 0 [0])) (nB := 0) Tryz.func32 (c := (getBody Tryz.f32)) (by kernel_rfl) (by kernel_rfl) (fun i => by kernel_rfl) gcN_ok gcN_ok (cuts_by (l := [(pieceOf (.cnd 6 4) (getBody Tryz.f32), cc_words_parts_11 κ)]) (by kernel_rfl) (all_cons (cc_words_parts_11_ok κ m) (all_nil))) (fun i => by kernel_rfl)
noncomputable def gam20 (κ : Nat) : Gam T := (gam19 κ).addS 32 sp_words_parts (fun a0 => words_parts κ a0)
theorem gam20_ok (κ : Nat) (m : Int) : GOk Tryz.prog C (G m) (gam20 κ) := (gam19_ok κ m).addS (ok_words_parts κ m)
def sp_words_show := mkS (T := T) [.ptr 0 0, .ifc 74 (.s)] kk26 [⟨false, .tup [.s, .b], kk26⟩]
theorem sp_words_show_ok : SpecOk sp_words_show := mkS_ok _ _ _
theorem ok_words_show (κ : Nat) (m : Int) : EOk Tryz.prog C (G m) 33 (sp_words_show.entry (cur _ (words_show κ))) :=
 Spec.ok sp_words_show_ok C_ok mixed (gam20_ok κ m) (cut := noCut) (NR := (gcN 1 [0])) (NP := (gcN 1 [0])) (nB := 1) Tryz.func33 (c := (getBody Tryz.f33)) (by kernel_rfl) (by kernel_rfl) (fun i => by kernel_rfl) gcN_ok gcN_ok (cuts_by (l := []) (by kernel_rfl) (all_nil)) (fun i => by kernel_rfl)
noncomputable def gam21 (κ : Nat) : Gam T := (gam20 κ).addS 33 sp_words_show (cur _ (words_show κ))
theorem gam21_ok (κ : Nat) (m : Int) : GOk Tryz.prog C (G m) (gam21 κ) := (gam20_ok κ m).addS (ok_words_show κ m)
def sp_words_show_2 := mkS (T := T) [.ptr 0 0, .ifc 78 (.agg [])] kk26 [⟨false, .tup [.s, .b], kk26⟩]
theorem sp_words_show_2_ok : SpecOk sp_words_show_2 := mkS_ok _ _ _
theorem ok_words_show_2 (κ : Nat) (m : Int) : EOk Tryz.prog C (G m) 33 (sp_words_show_2.entry (cur _ (words_show_2 κ))) :=
 Spec.ok sp_words_show_2_ok C_ok mixed (gam21_ok κ m) (cut := noCut) (NR := (gcN 1 [0])) (NP := (gcN 1 [0])) (nB := 1) Tryz.func33 (c := (getBody Tryz.f33)) (by kernel_rfl) (by kernel_rfl) (fun i => by kernel_rfl) gcN_ok gcN_ok (cuts_by (l := []) (by kernel_rfl) (all_nil)) (fun i => by kernel_rfl)
noncomputable def gam22 (κ : Nat) : Gam T := (gam21 κ).addS 33 sp_words_show_2 (cur _ (words_show_2 κ))
theorem gam22_ok (κ : Nat) (m : Int) : GOk Tryz.prog C (G m) (gam22 κ) := (gam21_ok κ m).addS (ok_words_show_2 κ m)
def sp_words_show_3 := mkS (T := T) [.ptr 0 0, .ifc 89 (.agg [])] kk26 [⟨false, .tup [.s, .b], kk26⟩]
theorem sp_words_show_3_ok : SpecOk sp_words_show_3 := mkS_ok _ _ _
theorem ok_words_show_3 (κ : Nat) (m : Int) : EOk Tryz.prog C (G m) 33 (sp_words_show_3.entry (cur _ (words_show_3 κ))) :=
 Spec.ok sp_words_show_3_ok C_ok mixed (gam22_ok κ m) (cut := noCut) (NR := (gcN 1 [0])) (NP := (gcN 1 [0])) (nB := 1) Tryz.func33 (c := (getBody Tryz.f33)) (by kernel_rfl) (by kernel_rfl) (fun i => by kernel_rfl) gcN_ok gcN_ok (cuts_by (l := []) (by kernel_rfl) (all_nil)) (fun i => by kernel_rfl)
noncomputable def gam23 (κ : Nat) : Gam T := (gam22 κ).addS 33 sp_words_show_3 (cur _ (words_show_3 κ))
theorem gam23_ok (κ : Nat) (m : Int) : GOk Tryz.prog C (G m) (gam23 κ) := (gam22_ok κ m).addS (ok_words_show_3 κ m)
def sp_words_n := mkS (T := T) [.ptr 0 0] kk26 [⟨false, .ptr 0 4, kk26⟩]
theorem sp_words_n_ok : SpecOk sp_words_n := mkS_ok _ _ _
theorem ok_words_n (κ : Nat) (m : Int) : EOk Tryz.prog C (G m) 40 (sp_words_n.entry (cur _ (words_n κ))) :=
 Spec.ok sp_words_n_ok C_ok mixed (gam23_ok κ m) (cut := noCut) (NR := (gcN 1 [0])) (NP := (gcN 1 [0])) (nB := 1) Tryz.func40 (c := (getBody Tryz.f40)) (by kernel_rfl) (by kernel_rfl) (fun i => by kernel_rfl) gcN_ok gcN_ok (cuts_by (l := []) (by kernel_rfl) (all_nil)) (fun i => by kernel_rfl)
noncomputable def gam24 (κ : Nat) : Gam T := (gam23 κ).addS 40 sp_words_n (cur _ (words_n κ))
theorem gam24_ok (κ : Nat) (m : Int) : GOk Tryz.prog C (G m) (gam24 κ) := (gam23_ok κ m).addS (ok_words_n κ m)
def sp_words_show_4 := mkS (T := T) [.ptr 0 0, .ifc 82 (.fn 40 [] [])] kk26 [⟨false, .tup [.s, .b], kk26⟩]
theorem sp_words_show_4_ok : SpecOk sp_words_show_4 := mkS_ok _ _ _
theorem ok_words_show_4 (κ : Nat) (m : Int) : EOk Tryz.prog C (G m) 33 (sp_words_show_4.entry (cur _ (words_show_4 κ))) :=
 Spec.ok sp_words_show_4_ok C_ok mixed (gam24_ok κ m) (cut := noCut) (NR := (gcN 1 [0])) (NP := (gcN 1 [0])) (nB := 1) Tryz.func33 (c := (getBody Tryz.f33)) (by kernel_rfl) (by kernel_rfl) (fun i => by kernel_rfl) gcN_ok gcN_ok (cuts_by (l := []) (by kernel_rfl) (all_nil)) (fun i => by kernel_rfl)
noncomputable def gam25 (κ : Nat) : Gam T := (gam24 κ).addS 33 sp_words_show_4 (cur _ (words_show_4 κ))
theorem gam25_ok (κ : Nat) (m : Int) : GOk Tryz.prog C (G m) (gam25 κ) := (gam24_ok κ m).addS (ok_words_show_4 κ m)
def sp_words_flow := mkS (T := T) [.ptr 0 0] kk26 [⟨false, .ptr 0 8, kk26⟩]
theorem sp_words_flow_ok : SpecOk sp_words_flow := mkS_ok _ _ _
theorem ok_words_flow (κ : Nat) (m : Int) : EOk Tryz.prog C (G m) 43 (sp_words_flow.entry (cur _ (words_flow κ))) :=
 Spec.ok sp_words_flow_ok C_ok mixed (gam25_ok κ m) (cut := noCut) (NR := (gcN 1 [0])) (NP := (gcN 1 [0])) (nB := 1) Tryz.func43 (c := (getBody Tryz.f43)) (by kernel_rfl) (by kernel_rfl) (fun i => by kernel_rfl) gcN_ok gcN_ok (cuts_by (l := []) (by kernel_rfl) (all_nil)) (fun i => by kernel_rfl)
noncomputable def gam26 (κ : Nat) : Gam T := (gam25 κ).addS 43 sp_words_flow (cur _ (words_flow κ))
theorem gam26_ok (κ : Nat) (m : Int) : GOk Tryz.prog C (G m) (gam26 κ) := (gam25_ok κ m).addS (ok_words_flow κ m)
def sp_words_show_5 := mkS (T := T) [.ptr 0 0, .ifc 82 (.fn 43 [] [])] kk26 [⟨false, .tup [.s, .b], kk26⟩]
theorem sp_words_show_5_ok : SpecOk sp_words_show_5 := mkS_ok _ _ _
theorem ok_words_show_5 (κ : Nat) (m : Int) : EOk Tryz.prog C (G m) 33 (sp_words_show_5.entry (cur _ (words_show_5 κ))) :=
 Spec.ok sp_words_show_5_ok C_ok mixed (gam26_ok κ m) (cut := noCut) (NR := (gcN 1 [0])) (NP := (gcN 1 [0])) (nB := 1) Tryz.func33 (c := (getBody Tryz.f33)) (by kernel_rfl) (by kernel_rfl) (fun i => by kernel_rfl) gcN_ok gcN_ok (cuts_by (l := []) (by kernel_rfl) (all_nil)) (fun i => by kernel_rfl)
noncomputable def gam27 (κ : Nat) : Gam T := (gam26 κ).addS 33 sp_words_show_5 (cur _ (words_show_5 κ))
theorem gam27_ok (κ : Nat) (m : Int) : GOk Tryz.prog C (G m) (gam27 κ) := (gam26_ok κ m).addS (ok_words_show_5 κ m)
def sp_words_parts_1 := mkS (T := T) [.ptr 0 0] kk26 [⟨false, .ptr 0 5, kk26⟩]
theorem sp_words_parts_1_ok : SpecOk sp_words_parts_1 := mkS_ok _ _ _
theorem ok_words_parts_1 (κ : Nat) (m : Int) : EOk Tryz.prog C (G m) 41 (sp_words_parts_1.entry (cur _ (words_parts_1 κ))) :=
 Spec.ok sp_words_parts_1_ok C_ok mixed (gam27_ok κ m) (cut := noCut) (NR := (gcN 1 [0])) (NP := (gcN 1 [0])) (nB := 1) Tryz.func41 (c := (getBody Tryz.f41)) (by kernel_rfl) (by kernel_rfl) (fun i => by kernel_rfl) gcN_ok gcN_ok (cuts_by (l := []) (by kernel_rfl) (all_nil)) (fun i => by kernel_rfl)
noncomputable def gam28 (κ : Nat) : Gam T := (gam27 κ).addS 41 sp_words_parts_1 (cur _ (words_parts_1 κ))
theorem gam28_ok (κ : Nat) (m : Int) : GOk Tryz.prog C (G m) (gam28 κ) := (gam27_ok κ m).addS (ok_words_parts_1 κ m)
def sp_words_show_6 := mkS (T := T) [.ptr 0 0, .ifc 86 (.agg [.s, .s, .fn 41 [] []])] kk26 [⟨false, .tup [.s, .b], kk26⟩]
theorem sp_words_show_6_ok : SpecOk sp_words_show_6 := mkS_ok _ _ _
theorem ok_words_show_6 (κ : Nat) (m : Int) : EOk Tryz.prog C (G m) 33 (sp_words_show_6.entry (cur _ (words_show_6 κ))) :=
 Spec.ok sp_words_show_6_ok C_ok mixed (gam28_ok κ m) (cut := noCut) (NR := (gcN 1 [0])) (NP := (gcN 1 [0])) (nB := 1) Tryz.func33 (c := (getBody Tryz.f33)) (by kernel_rfl) (by kernel_rfl) (fun i => by kernel_rfl) gcN_ok gcN_ok (cuts_by (l := []) (by kernel_rfl) (all_nil)) (fun i => by kernel_rfl)
noncomputable def gam29 (κ : Nat) : Gam T := (gam28 κ).addS 33 sp_words_show_6 (cur _ (words_show_6 κ))
theorem gam29_ok (κ : Nat) (m : Int) : GOk Tryz.prog C (G m) (gam29 κ) := (gam28_ok κ m).addS (ok_words_show_6 κ m)
def sp_words_show_7 := mkS (T := T) [.ptr 0 0, .ifc 68 (.agg [])] kk26 [⟨false, .tup [.s, .b], kk26⟩]
theorem sp_words_show_7_ok : SpecOk sp_words_show_7 := mkS_ok _ _ _
theorem ok_words_show_7 (κ : Nat) (m : Int) : EOk Tryz.prog C (G m) 33 (sp_words_show_7.entry (cur _ (words_show_7 κ))) :=
 Spec.ok sp_words_show_7_ok C_ok mixed (gam29_ok κ m) (cut := noCut) (NR := (gcN 1 [0])) (NP := (gcN 1 [0])) (nB := 1) Tryz.func33 (c := (getBody Tryz.f33)) (by kernel_rfl) (by kernel_rfl) (fun i => by kernel_rfl) gcN_ok gcN_ok (cuts_by (l := []) (by kernel_rfl) (all_nil)) (fun i => by kernel_rfl)
noncomputable def gam30 (κ : Nat) : Gam T := (gam29 κ).addS 33 sp_words_show_7 (cur _ (words_show_7 κ))
theorem gam30_ok (κ : Nat) (m : Int) : GOk Tryz.prog C (G m) (gam30 κ) := (gam29_ok κ m).addS (ok_words_show_7 κ m)
def sp_words_show_8 := mkS (T := T) [.ptr 0 0, .ifc 79 (.agg [])] kk26 [⟨false, .tup [.s, .b], kk26⟩]
theorem sp_words_show_8_ok : SpecOk sp_words_show_8 := mkS_ok _ _ _
theorem ok_words_show_8 (κ : Nat) (m : Int) : EOk Tryz.prog C (G m) 33 (sp_words_show_8.entry (cur _ (words_show_8 κ))) :=
 Spec.ok sp_words_show_8_ok C_ok mixed (gam30_ok κ m) (cut := noCut) (NR := (gcN 1 [0])) (NP := (gcN 1 [0])) (nB := 1) Tryz.func33 (c := (getBody Tryz.f33)) (by kernel_rfl) (by kernel_rfl) (fun i => by kernel_rfl) gcN_ok gcN_ok (cuts_by (l := []) (by kernel_rfl) (all_nil)) (fun i => by kernel_rfl)
noncomputable def gam31 (κ : Nat) : Gam T := (gam30 κ).addS 33 sp_words_show_8 (cur _ (words_show_8 κ))
theorem gam31_ok (κ : Nat) (m : Int) : GOk Tryz.prog C (G m) (gam31 κ) := (gam30_ok κ m).addS (ok_words_show_8 κ m)
def sp_words_size := mkS (T := T) [.ptr 0 0] kk26 [⟨false, .ptr 0 9, kk26⟩]
theorem sp_words_size_ok : SpecOk sp_words_size := mkS_ok _ _ _
theorem ok_words_size (κ : Nat) (m : Int) : EOk Tryz.prog C (G m) 44 (sp_words_size.entry (cur _ (words_size κ))) :=
 Spec.ok sp_words_size_ok C_ok mixed (gam31_ok κ m) (cut := noCut) (NR := (gcN 1 [0])) (NP := (gcN 1 [0])) (nB := 1) Tryz.func44 (c := (getBody Tryz.f44)) (by kernel_rfl) (by kernel_rfl) (fun i => by kernel_rfl) gcN_ok gcN_ok (cuts_by (l := []) (by kernel_rfl) (all_nil)) (fun i => by kernel_rfl)
noncomputable def gam32 (κ : Nat) : Gam T := (gam31 κ).addS 44 sp_words_size (cur _ (words_size κ))
theorem gam32_ok (κ : Nat) (m : Int) : GOk Tryz.prog C (G m) (gam32 κ) := (gam31_ok κ m).addS (ok_words_size κ m)
def sp_words_show_9 := mkS (T := T) [.ptr 0 0, .ifc 82 (.fn 44 [] [])] kk26 [⟨false, .tup [.s, .b], kk26⟩]
theorem sp_words_show_9_ok : SpecOk sp_words_show_9 := mkS_ok _ _ _
theorem ok_words_show_9 (κ : Nat) (m : Int) : EOk Tryz.prog C (G m) 33 (sp_words_show_9.entry (cur _ (words_show_9 κ))) :=
 Spec.ok sp_words_show_9_ok C_ok mixed (gam32_ok κ m) (cut := noCut) (NR := (gcN 1 [0])) (NP := (gcN 1 [0])) (nB := 1) Tryz.func33 (c := (getBody Tryz.f33)) (by kernel_rfl) (by kernel_rfl) (fun i => by kernel_rfl) gcN_ok gcN_ok (cuts_by (l := []) (by kernel_rfl) (all_nil)) (fun i => by kernel_rfl)
noncomputable def gam33 (κ : Nat) : Gam T := (gam32 κ).addS 33 sp_words_show_9 (cur _ (words_show_9 κ))
theorem gam33_ok (κ : Nat) (m : Int) : GOk Tryz.prog C (G m) (gam33 κ) := (gam32_ok κ m).addS (ok_words_show_9 κ m)
def sp_strings_Builder_WriteByte := mkS (T := T) [.ptr 0 0, .i .u8] [.cells 94 none [.pn, .cap0]] [⟨false, .if0, kk6⟩]
theorem sp_strings_Builder_WriteByte_ok : SpecOk sp_strings_Builder_WriteByte := mkS_ok _ _ _
theorem ok_strings_Builder_WriteByte (κ : Nat) (m : Int) : EOk Tryz.prog C (G m) 61 (sp_strings_Builder_WriteByte.entry (fun a0 => strings_Builder_WriteByte κ a0)) :=
 Spec.ok sp_strings_Builder_WriteByte_ok C_ok mixed (gam33_ok κ m) (cut := noCut) (NR := (gcN 1 [0])) (NP := (gcN 1 [0])) (nB := 1) Tryz.func61 (c := (getBody Tryz.f61)) (by kernel_rfl) (by kernel_rfl) (fun i => by kernel_rfl) gcN_ok gcN_ok (cuts_by (l := []) (by kernel_rfl) (all_nil)) (fun i => by kernel_rfl)
noncomputable def gam34 (κ : Nat) : Gam T := (gam33 κ).addS 61 sp_strings_Builder_WriteByte (fun a0 => strings_Builder_WriteByte κ a0)
theorem gam34_ok (κ : Nat) (m : Int) : GOk Tryz.prog C (G m) (gam34 κ) := (gam33_ok κ m).addS (ok_strings_Builder_WriteByte κ m)
def sp_strings_Builder_WriteByte_2 := mkS (T := T) [.ptr 0 0, .i .u8] kk6 [⟨false, .if0, kk6⟩]
theorem sp_strings_Builder_WriteByte_2_ok : SpecOk sp_strings_Builder_WriteByte_2 := mkS_ok _ _ _
theorem ok_strings_Builder_WriteByte_2 (κ : Nat) (m : Int) : EOk Tryz.prog C (G m) 61 (sp_strings_Builder_WriteByte_2.entry (cur _ (strings_Builder_WriteByte_2 κ))) :=
 Spec.ok sp_strings_Builder_WriteByte_2_ok C_ok mixed (gam34_ok κ m) (cut := noCut) (NR := (gcN 2 [0])) (NP := (gcN 2 [0])) (nB := 2) Tryz.func61 (c := (getBody Tryz.f61)) (by kernel_rfl) (by kernel_rfl) (fun i => by kernel_rfl) gcN_ok gcN_ok (cuts_by (l := []) (by kernel_rfl) (all_nil)) (fun i => by kernel_rfl)
noncomputable def gam35 (κ : Nat) : Gam T := (gam34 κ).addS 61 sp_strings_Builder_WriteByte_2 (cur _ (strings_Builder_WriteByte_2 κ))
theorem gam35_ok (κ : Nat) (m : Int) : GOk Tryz.prog C (G m) (gam35 κ) := (gam34_ok κ m).addS (ok_strings_Builder_WriteByte_2 κ m)
def sp_strings_Builder_WriteByte_3 := mkS (T := T) [.ptr 0 0, .i .u8] kk5 [⟨false, .if0, kk6⟩]
theorem sp_strings_Builder_WriteByte_3_ok : SpecOk sp_strings_Builder_WriteByte_3 := mkS_ok _ _ _
theorem ok_strings_Builder_WriteByte_3 (κ : Nat) (m : Int) : EOk Tryz.prog C (G m) 61 (sp_strings_Builder_WriteByte_3.entry (cur _ (strings_Builder_WriteByte_3 κ))) :=
 Spec.ok sp_strings_Builder_WriteByte_3_ok C_ok mixed (gam35_ok κ m) (cut := noCut) (NR := (gcN 2 [0])) (NP := (gcN 2 [0])) (nB := 2) Tryz.func61 (c := (getBody Tryz.f61)) (by kernel_rfl) (by kernel_rfl) (fun i => by kernel_rfl) gcN_ok gcN_ok (cuts_by (l := []) (by kernel_rfl) (all_nil)) (fun i => by kernel_rfl)
noncomputable def gam36 (κ : Nat) : Gam T := (gam35 κ).addS 61 sp_strings_Builder_WriteByte_3 (cur _ (strings_Builder_WriteByte_3 κ))
theorem gam36_ok (κ : Nat) (m : Int) : GOk Tryz.prog C (G m) (gam36 κ) := (gam35_ok κ m).addS (ok_strings_Builder_WriteByte_3 κ m)
def p_words_hex_0 := mkP (T := T) [⟨[(3, .ptr 0 0), (6, .sl 5), (7, .i .i64), (8, .i .i64)], kk5, []⟩, ⟨[(3, .ptr 0 0), (6, .sl 5), (7, .i .i64), (8, .i .i64)], kk6, []⟩] [⟨.normal, ⟨[(3, .ptr 0 0)], kk5, []⟩⟩, ⟨.normal, ⟨[(3, .ptr 0 0)], kk6, []⟩⟩]
theorem p_words_hex_0_ok : PieceOk p_words_hex_0 := mkP_ok _ _
theorem p_words_hex_0_ct (κ : Nat) (m : Int) : CutOk Tryz.prog C (G m) Tryz.f49.ntmps 0 (pieceOf (.blk 0) (getBody Tryz.f49)) (p_words_hex_0.cut nn1 (words_hex.l0 κ κ)) :=
 Piece.loop p_words_hex_0_ok C_ok mixed (gam36_ok κ m) nn1_ok xx6_ok (cut := noCut) (X := xx6) (id := 0) (body := bodyOf (pieceOf (.blk 0) (getBody Tryz.f49))) (cuts_by (l := []) (by kernel_rfl) (all_nil)) (f := words_hex.l0 κ) (fun s => by rcases s with s | s <;> kernel_rfl) (fun k s => by rcases s with s | s <;> kernel_rfl) κ
def cc_words_hex_1 (κ : Nat) : Cut T := p_words_hex_0.cut nn1 (words_hex.l0 κ κ)
theorem cc_words_hex_1_ok (κ : Nat) (m : Int) : CutOk Tryz.prog C (G m) Tryz.f49.ntmps 0 (pieceOf (.blk 0) (getBody Tryz.f49)) (cc_words_hex_1 κ) := p_words_hex_0_ct κ m
def ct_words_hex_1 (κ : Nat) : Key → Option (Cut T) := addCut noCut (.blk 0) (cc_words_hex_1 κ)
def sp_words_hex := mkS (T := T) [.sl 5] [] [⟨false, .s, []⟩]
theorem sp_words_hex_ok : SpecOk sp_words_hex := mkS_ok _ _ _
theorem ok_words_hex (κ : Nat) (m : Int) : EOk Tryz.prog C (G m) 49 (sp_words_hex.entry (fun a0 => words_hex κ a0)) :=
 Spec.ok sp_words_hex_ok C_ok mixed (gam36_ok κ m) (cut := (ct_words_hex_1 κ)) (NR := (gcN 0 [0])) (NP := (gcN 0 [0])) (nB := 0) Tryz.func49 (c := (getBody Tryz.f49)) (by kernel_rfl) (by kernel_rfl) (fun i => by kernel_rfl) gcN_ok gcN_ok (cuts_by (l := [(pieceOf (.blk 0) (getBody Tryz.f49), cc_words_hex_1 κ)]) (by kernel_rfl) (all_cons (cc_words_hex_1_ok κ m) (all_nil))) (fun i => by kernel_rfl)
noncomputable def gam37 (κ : Nat) : Gam T := (gam36 κ).addS 49 sp_words_hex (fun a0 => words_hex κ a0)
theorem gam37_ok (κ : Nat) (m : Int) : GOk Tryz.prog C (G m) (gam37 κ) := (gam36_ok κ m).addS (ok_words_hex κ m)
def sp_words_show_10 := mkS (T := T) [.ptr 0 0, .ifc 88 (.agg [])] kk26 [⟨false, .tup [.s, .b], kk26⟩]
theorem sp_words_show_10_ok : SpecOk sp_words_show_10 := mkS_ok _ _ _
theorem ok_words_show_10 (κ : Nat) (m : Int) : EOk Tryz.prog C (G m) 33 (sp_words_show_10.entry (cur _ (words_show_10 κ))) :=
 Spec.ok sp_words_show_10_ok C_ok mixed (gam37_ok κ m) (cut := noCut) (NR := (gcN 1 [0])) (NP := (gcN 1 [0])) (nB := 1) Tryz.func33 (c := (getBody Tryz.f33)) (by kernel_rfl) (by kernel_rfl) (fun i => by kernel_rfl) gcN_ok gcN_ok (cuts_by (l := []) (by kernel_rfl) (all_nil)) (fun i => by kernel_rfl)
noncomputable def gam38 (κ : Nat) : Gam T := (gam37 κ).addS 33 sp_words_show_10 (cur _ (words_show_10 κ))
theorem gam38_ok (κ : Nat) (m : Int) : GOk Tryz.prog C (G m) (gam38 κ) := (gam37_ok κ m).addS (ok_words_show_10 κ m)
def sp_words_show_11 := mkS (T := T) [.ptr 0 0, .ifc 87 (.agg [])] kk26 [⟨false, .tup [.s, .b], kk26⟩]
theorem sp_words_show_11_ok : SpecOk sp_words_show_11 := mkS_ok _ _ _
theorem ok_words_show_11 (κ : Nat) (m : Int) : EOk Tryz.prog C (G m) 33 (sp_words_show_11.entry (cur _ (words_show_11 κ))) :=
 Spec.ok sp_words_show_11_ok C_ok mixed (gam38_ok κ m) (cut := noCut) (NR := (gcN 1 [0])) (NP := (gcN 1 [0])) (nB := 1) Tryz.func33 (c := (getBody Tryz.f33)) (by kernel_rfl) (by kernel_rfl) (fun i => by kernel_rfl) gcN_ok gcN_ok (cuts_by (l := []) (by kernel_rfl) (all_nil)) (fun i => by kernel_rfl)
noncomputable def gam39 (κ : Nat) : Gam T := (gam38 κ).addS 33 sp_words_show_11 (cur _ (words_show_11 κ))
theorem gam39_ok (κ : Nat) (m : Int) : GOk Tryz.prog C (G m) (gam39 κ) := (gam38_ok κ m).addS (ok_words_show_11 κ m)
def sp_words_parts_2 := mkS (T := T) [.ptr 0 0] kk26 [⟨false, .ptr 0 6, kk26⟩]
theorem sp_words_parts_2_ok : SpecOk sp_words_parts_2 := mkS_ok _ _ _
theorem ok_words_parts_2 (κ : Nat) (m : Int) : EOk Tryz.prog C (G m) 42 (sp_words_parts_2.entry (cur _ (words_parts_2 κ))) :=
 Spec.ok sp_words_parts_2_ok C_ok mixed (gam39_ok κ m) (cut := noCut) (NR := (gcN 1 [0])) (NP := (gcN 1 [0])) (nB := 1) Tryz.func42 (c := (getBody Tryz.f42)) (by kernel_rfl) (by kernel_rfl) (fun i => by kernel_rfl) gcN_ok gcN_ok (cuts_by (l := []) (by kernel_rfl) (all_nil)) (fun i => by kernel_rfl)
noncomputable def gam40 (κ : Nat) : Gam T := (gam39 κ).addS 42 sp_words_parts_2 (cur _ (words_parts_2 κ))
theorem gam40_ok (κ : Nat) (m : Int) : GOk Tryz.prog C (G m) (gam40 κ) := (gam39_ok κ m).addS (ok_words_parts_2 κ m)
def sp_words_show_12 := mkS (T := T) [.ptr 0 0, .ifc 86 (.agg [.s, .s, .fn 42 [] []])] kk26 [⟨false, .tup [.s, .b], kk26⟩]
theorem sp_words_show_12_ok : SpecOk sp_words_show_12 := mkS_ok _ _ _
theorem ok_words_show_12 (κ : Nat) (m : Int) : EOk Tryz.prog C (G m) 33 (sp_words_show_12.entry (cur _ (words_show_12 κ))) :=
 Spec.ok sp_words_show_12_ok C_ok mixed (gam40_ok κ m) (cut := noCut) (NR := (gcN 1 [0])) (NP := (gcN 1 [0])) (nB := 1) Tryz.func33 (c := (getBody Tryz.f33)) (by kernel_rfl) (by kernel_rfl) (fun i => by kernel_rfl) gcN_ok gcN_ok (cuts_by (l := []) (by kernel_rfl) (all_nil)) (fun i => by kernel_rfl)
noncomputable def gam41 (κ : Nat) : Gam T := (gam40 κ).addS 33 sp_words_show_12 (cur _ (words_show_12 κ))
theorem gam41_ok (κ : Nat) (m : Int) : GOk Tryz.prog C (G m) (gam41 κ) := (gam40_ok κ m).addS (ok_words_show_12 κ m)
def p_lex_Plain_0 := mkP (T := T) [⟨[(0, .s)], [], []⟩] [⟨.normal, ⟨[(2, .b)], [], []⟩⟩]
theorem p_lex_Plain_0_ok : PieceOk p_lex_Plain_0 := mkP_ok _ _
theorem p_lex_Plain_0_ct (κ : Nat) (m : Int) : CutOk Tryz.prog C (G m) Tryz.f47.ntmps 0 (pieceOf (.reg 1) (getBody Tryz.f47)) (p_lex_Plain_0.cut (gcN 0 [0]) (fun a0 => lex_Plain.v0 κ a0)) :=
 Piece.join p_lex_Plain_0_ok C_ok mixed (gam41_ok κ m) gcN_ok xx0_ok (cut := noCut) (X := xx0) (cuts_by (l := []) (by kernel_rfl) (all_nil)) (fun s => by kernel_rfl)
def cc_lex_Plain_1 (κ : Nat) : Cut T := p_lex_Plain_0.cut (gcN 0 [0]) (fun a0 => lex_Plain.v0 κ a0)
theorem cc_lex_Plain_1_ok (κ : Nat) (m : Int) : CutOk Tryz.prog C (G m) Tryz.f47.ntmps 0 (pieceOf (.reg 1) (getBody Tryz.f47)) (cc_lex_Plain_1 κ) := p_lex_Plain_0_ct κ m
def ct_lex_Plain_1 (κ : Nat) : Key → Option (Cut T) := addCut noCut (.reg 1) (cc_lex_Plain_1 κ)
def sp_lex_Plain := mkS (T := T) [.s] [] [⟨false, .b, []⟩]
theorem sp_lex_Plain_ok : SpecOk sp_lex_Plain := mkS_ok _ _ _
theorem ok_lex_Plain (κ : Nat) (m : Int) : EOk Tryz.prog C (G m) 47 (sp_lex_Plain.entry (fun a0 => lex_Plain κ a0)) :=
 Spec.ok sp_lex_Plain_ok C_ok mixed (gam41_ok κ m) (cut := (ct_lex_Plain_1 κ)) (NR := (gcN 0 [0])) (NP := (gcN 0 [0])) (nB := 0) Tryz.func47 (c := (getBody Tryz.f47)) (by kernel_rfl) (by kernel_rfl) (fun i => by kernel_rfl) gcN_ok gcN_ok (cuts_by (l := [(pieceOf (.reg 1) (getBody Tryz.f47), cc_lex_Plain_1 κ)]) (by kernel_rfl) (all_cons (cc_lex_Plain_1_ok κ m) (all_nil))) (fun i => by kernel_rfl)
noncomputable def gam42 (κ : Nat) : Gam T := (gam41 κ).addS 47 sp_lex_Plain (fun a0 => lex_Plain κ a0)
theorem gam42_ok (κ : Nat) (m : Int) : GOk Tryz.prog C (G m) (gam42 κ) := (gam41_ok κ m).addS (ok_lex_Plain κ m)
def sp_words_show_13 := mkS (T := T) [.ptr 0 0, .ifc 80 (.agg [])] kk26 [⟨false, .tup [.s, .b], kk26⟩]
theorem sp_words_show_13_ok : SpecOk sp_words_show_13 := mkS_ok _ _ _
theorem ok_words_show_13 (κ : Nat) (m : Int) : EOk Tryz.prog C (G m) 33 (sp_words_show_13.entry (cur _ (words_show_13 κ))) :=
 Spec.ok sp_words_show_13_ok C_ok mixed (gam42_ok κ m) (cut := noCut) (NR := (gcN 1 [0])) (NP := (gcN 1 [0])) (nB := 1) Tryz.func33 (c := (getBody Tryz.f33)) (by kernel_rfl) (by kernel_rfl) (fun i => by kernel_rfl) gcN_ok gcN_ok (cuts_by (l := []) (by kernel_rfl) (all_nil)) (fun i => by kernel_rfl)
noncomputable def gam43 (κ : Nat) : Gam T := (gam42 κ).addS 33 sp_words_show_13 (cur _ (words_show_13 κ))
theorem gam43_ok (κ : Nat) (m : Int) : GOk Tryz.prog C (G m) (gam43 κ) := (gam42_ok κ m).addS (ok_words_show_13 κ m)
def sp_strings_Join := mkS (T := T) [.cap0, .s] [] [⟨false, .s, []⟩]
theorem sp_strings_Join_ok : SpecOk sp_strings_Join := mkS_ok _ _ _
theorem ok_strings_Join (κ : Nat) (m : Int) : EOk Tryz.prog C (G m) 34 (sp_strings_Join.entry (fun a0 => strings_Join κ a0)) :=
 Spec.ok sp_strings_Join_ok C_ok mixed (gam43_ok κ m) (cut := noCut) (NR := (gcN 0 [0])) (NP := (gcN 0 [0])) (nB := 0) Tryz.func34 (c := (getBody Tryz.f34)) (by kernel_rfl) (by kernel_rfl) (fun i => by kernel_rfl) gcN_ok gcN_ok (cuts_by (l := []) (by kernel_rfl) (all_nil)) (fun i => by kernel_rfl)
noncomputable def gam44 (κ : Nat) : Gam T := (gam43 κ).addS 34 sp_strings_Join (fun a0 => strings_Join κ a0)
theorem gam44_ok (κ : Nat) (m : Int) : GOk Tryz.prog C (G m) (gam44 κ) := (gam43_ok κ m).addS (ok_strings_Join κ m)
def p_words_line_0 := mkP (T := T) [⟨[(1, .ptr 0 0), (4, .cap0), (13, .cap0), (14, .lit .i64 0), (15, .lit .i64 0)], kk26, []⟩] [⟨(.exit 0), ⟨[(4, .cap0)], [], []⟩⟩]
theorem p_words_line_0_ok : PieceOk p_words_line_0 := mkP_ok _ _
theorem p_words_line_0_ct (κ : Nat) (m : Int) : CutOk Tryz.prog C (G m) Tryz.f17.ntmps 0 (bodyOf (pieceOf (.blk 0) (getBody Tryz.f17))) (p_words_line_0.cut nn2 (cur _ (words_line.v0 κ))) :=
 Piece.join p_words_line_0_ok C_ok mixed (gam20_ok κ m) nn2_ok xx15_ok (cut := noCut) (X := xx15) (cuts_by (l := []) (by kernel_rfl) (all_nil)) (fun s => by kernel_rfl)
def p_words_line_1 := mkP (T := T) [⟨[(1, .ptr 0 0), (4, .cap0), (13, .slc 1 0 2 2), (14, .lit .i64 2), (15, .lit .i64 0)], [.cells 26 none kk20, .cells 20 none kk1], []⟩] [⟨.normal, ⟨[(1, .ptr 0 0), (4, .own 1), (13, .slc 2 0 2 2), (14, .lit .i64 2), (15, .lit .i64 1)], kk28, []⟩⟩]
theorem p_words_line_1_ok : PieceOk p_words_line_1 := mkP_ok _ _
theorem p_words_line_1_ct (κ : Nat) (m : Int) : CutOk Tryz.prog C (G m) Tryz.f17.ntmps 0 (bodyOf (pieceOf (.blk 0) (getBody Tryz.f17))) (p_words_line_1.cut nn2 (cur _ (words_line.v1 κ))) :=
 Piece.join p_words_line_1_ok C_ok mixed (gam21_ok κ m) nn2_ok xx15_ok (cut := noCut) (X := xx15) (cuts_by (l := []) (by kernel_rfl) (all_nil)) (fun s => by kernel_rfl)
def p_words_line_2 := mkP (T := T) [⟨[(1, .ptr 0 0), (4, .cap0), (13, .slc 1 0 2 2), (14, .lit .i64 2), (15, .lit .i64 0)], [.cells 26 none kk20, .cells 20 none kk3], []⟩] [⟨.normal, ⟨[(1, .ptr 0 0), (4, .own 1), (13, .slc 2 0 2 2), (14, .lit .i64 2), (15, .lit .i64 1)], kk30, []⟩⟩]
theorem p_words_line_2_ok : PieceOk p_words_line_2 := mkP_ok _ _
theorem p_words_line_2_ct (κ : Nat) (m : Int) : CutOk Tryz.prog C (G m) Tryz.f17.ntmps 0 (bodyOf (pieceOf (.blk 0) (getBody Tryz.f17))) (p_words_line_2.cut nn2 (cur _ (words_line.v2 κ))) :=
 Piece.join p_words_line_2_ok C_ok mixed (gam21_ok κ m) nn2_ok xx15_ok (cut := noCut) (X := xx15) (cuts_by (l := []) (by kernel_rfl) (all_nil)) (fun s => by kernel_rfl)
def p_words_line_3 := mkP (T := T) [⟨[(1, .ptr 0 0), (4, .cap0), (13, .slc 1 0 4 4), (14, .lit .i64 4), (15, .lit .i64 0)], [.cells 26 none kk20, .cells 20 none kk22], []⟩] [⟨.normal, ⟨[(1, .ptr 0 0), (4, .own 1), (13, .slc 2 0 4 4), (14, .lit .i64 4), (15, .lit .i64 1)], kk42, []⟩⟩]
theorem p_words_line_3_ok : PieceOk p_words_line_3 := mkP_ok _ _
theorem p_words_line_3_ct (κ : Nat) (m : Int) : CutOk Tryz.prog C (G m) Tryz.f17.ntmps 0 (bodyOf (pieceOf (.blk 0) (getBody Tryz.f17))) (p_words_line_3.cut nn2 (cur _ (words_line.v3 κ))) :=
 Piece.join p_words_line_3_ok C_ok mixed (gam21_ok κ m) nn2_ok xx15_ok (cut := noCut) (X := xx15) (cuts_by (l := []) (by kernel_rfl) (all_nil)) (fun s => by kernel_rfl)
def p_words_line_4 := mkP (T := T) [⟨[(1, .ptr 0 0), (4, .cap0), (13, .slc 1 0 4 4), (14, .lit .i64 4), (15, .lit .i64 0)], [.cells 26 none kk20, .cells 20 none kk12], []⟩] [⟨.normal, ⟨[(1, .ptr 0 0), (4, .own 1), (13, .slc 2 0 4 4), (14, .lit .i64 4), (15, .lit .i64 1)], kk39, []⟩⟩, ⟨.ret, ⟨[(2, .s), (3, .b)], [], []⟩⟩]
theorem p_words_line_4_ok : PieceOk p_words_line_4 := mkP_ok _ _
theorem p_words_line_4_ct (κ : Nat) (m : Int) : CutOk Tryz.prog C (G m) Tryz.f17.ntmps 0 (bodyOf (pieceOf (.blk 0) (getBody Tryz.f17))) (p_words_line_4.cut nn2 (cur _ (words_line.v4 κ))) :=
 Piece.join p_words_line_4_ok C_ok mixed (gam22_ok κ m) nn2_ok xx15_ok (cut := noCut) (X := xx15) (cuts_by (l := []) (by kernel_rfl) (all_nil)) (fun s => by kernel_rfl)
def p_words_line_5 := mkP (T := T) [⟨[(1, .ptr 0 0), (4, .cap0), (13, .slc 1 0 4 4), (14, .lit .i64 4), (15, .lit .i64 0)], [.cells 26 none kk20, .cells 20 none kk13], []⟩] [⟨.normal, ⟨[(1, .ptr 0 0), (4, .own 1), (13, .slc 2 0 4 4), (14, .lit .i64 4), (15, .lit .i64 1)], kk40, []⟩⟩, ⟨.ret, ⟨[(2, .s), (3, .b)], [], []⟩⟩]
theorem p_words_line_5_ok : PieceOk p_words_line_5 := mkP_ok _ _
theorem p_words_line_5_ct (κ : Nat) (m : Int) : CutOk Tryz.prog C (G m) Tryz.f17.ntmps 0 (bodyOf (pieceOf (.blk 0) (getBody Tryz.f17))) (p_words_line_5.cut nn2 (cur _ (words_line.v5 κ))) :=
 Piece.join p_words_line_5_ok C_ok mixed (gam22_ok κ m) nn2_ok xx15_ok (cut := noCut) (X := xx15) (cuts_by (l := []) (by kernel_rfl) (all_nil)) (fun s => by kernel_rfl)
def p_words_line_6 := mkP (T := T) [⟨[(1, .ptr 0 0), (4, .cap0), (13, .slc 1 0 5 5), (14, .lit .i64 5), (15, .lit .i64 0)], [.cells 26 none kk20, .cells 20 none kk27], []⟩] [⟨.normal, ⟨[(1, .ptr 0 0), (4, .own 1), (13, .slc 2 0 5 5), (14, .lit .i64 5), (15, .lit .i64 1)], kk48, []⟩⟩, ⟨.ret, ⟨[(2, .s), (3, .b)], [], []⟩⟩]
theorem p_words_line_6_ok : PieceOk p_words_line_6 := mkP_ok _ _
theorem p_words_line_6_ct (κ : Nat) (m : Int) : CutOk Tryz.prog C (G m) Tryz.f17.ntmps 0 (bodyOf (pieceOf (.blk 0) (getBody Tryz.f17))) (p_words_line_6.cut nn2 (cur _ (words_line.v6 κ))) :=
 Piece.join p_words_line_6_ok C_ok mixed (gam22_ok κ m) nn2_ok xx15_ok (cut := noCut) (X := xx15) (cuts_by (l := []) (by kernel_rfl) (all_nil)) (fun s => by kernel_rfl)
def p_words_line_7 := mkP (T := T) [⟨[(1, .ptr 0 0), (4, .cap0), (13, .slc 1 0 3 3), (14, .lit .i64 3), (15, .lit .i64 0)], [.cells 26 none kk20, .cells 20 none kk10], []⟩] [⟨.normal, ⟨[(1, .ptr 0 0), (4, .own 1), (13, .slc 2 0 3 3), (14, .lit .i64 3), (15, .lit .i64 1)], kk37, []⟩⟩, ⟨.ret, ⟨[(2, .s), (3, .b)], [], []⟩⟩]
theorem p_words_line_7_ok : PieceOk p_words_line_7 := mkP_ok _ _
theorem p_words_line_7_ct (κ : Nat) (m : Int) : CutOk Tryz.prog C (G m) Tryz.f17.ntmps 0 (bodyOf (pieceOf (.blk 0) (getBody Tryz.f17))) (p_words_line_7.cut nn2 (cur _ (words_line.v7 κ))) :=
 Piece.join p_words_line_7_ok C_ok mixed (gam22_ok κ m) nn2_ok xx15_ok (cut := noCut) (X := xx15) (cuts_by (l := []) (by kernel_rfl) (all_nil)) (fun s => by kernel_rfl)
def p_words_line_8 := mkP (T := T) [⟨[(1, .ptr 0 0), (4, .cap0), (13, .slc 1 0 3 3), (14, .lit .i64 3), (15, .lit .i64 0)], [.cells 26 none kk20, .cells 20 none kk8], []⟩] [⟨.normal, ⟨[(1, .ptr 0 0), (4, .own 1), (13, .slc 2 0 3 3), (14, .lit .i64 3), (15, .lit .i64 1)], kk32, []⟩⟩, ⟨.ret, ⟨[(2, .s), (3, .b)], [], []⟩⟩]
theorem p_words_line_8_ok : PieceOk p_words_line_8 := mkP_ok _ _
theorem p_words_line_8_ct (κ : Nat) (m : Int) : CutOk Tryz.prog C (G m) Tryz.f17.ntmps 0 (bodyOf (pieceOf (.blk 0) (getBody Tryz.f17))) (p_words_line_8.cut nn2 (cur _ (words_line.v8 κ))) :=
 Piece.join p_words_line_8_ok C_ok mixed (gam22_ok κ m) nn2_ok xx15_ok (cut := noCut) (X := xx15) (cuts_by (l := []) (by kernel_rfl) (all_nil)) (fun s => by kernel_rfl)
def p_words_line_9 := mkP (T := T) [⟨[(1, .ptr 0 0), (4, .cap0), (13, .slc 1 0 3 3), (14, .lit .i64 3), (15, .lit .i64 0)], [.cells 26 none kk20, .cells 20 none kk9], []⟩] [⟨.normal, ⟨[(1, .ptr 0 0), (4, .own 1), (13, .slc 2 0 3 3), (14, .lit .i64 3), (15, .lit .i64 1)], kk33, []⟩⟩, ⟨.ret, ⟨[(2, .s), (3, .b)], [], []⟩⟩]
theorem p_words_line_9_ok : PieceOk p_words_line_9 := mkP_ok _ _
theorem p_words_line_9_ct (κ : Nat) (m : Int) : CutOk Tryz.prog C (G m) Tryz.f17.ntmps 0 (bodyOf (pieceOf (.blk 0) (getBody Tryz.f17))) (p_words_line_9.cut nn2 (cur _ (words_line.v9 κ))) :=
 Piece.join p_words_line_9_ok C_ok mixed (gam22_ok κ m) nn2_ok xx15_ok (cut := noCut) (X := xx15) (cuts_by (l := []) (by kernel_rfl) (all_nil)) (fun s => by kernel_rfl)
def p_words_line_10 := mkP (T := T) [⟨[(1, .ptr 0 0), (4, .cap0), (13, .slc 1 0 4 4), (14, .lit .i64 4), (15, .lit .i64 0)], [.cells 26 none kk20, .cells 20 none kk14], []⟩] [⟨.normal, ⟨[(1, .ptr 0 0), (4, .own 1), (13, .slc 2 0 4 4), (14, .lit .i64 4), (15, .lit .i64 1)], kk41, []⟩⟩, ⟨.ret, ⟨[(2, .s), (3, .b)], [], []⟩⟩]
theorem p_words_line_10_ok : PieceOk p_words_line_10 := mkP_ok _ _
theorem p_words_line_10_ct (κ : Nat) (m : Int) : CutOk Tryz.prog C (G m) Tryz.f17.ntmps 0 (bodyOf (pieceOf (.blk 0) (getBody Tryz.f17))) (p_words_line_10.cut nn2 (cur _ (words_line.v10 κ))) :=
 Piece.join p_words_line_10_ok C_ok mixed (gam22_ok κ m) nn2_ok xx15_ok (cut := noCut) (X := xx15) (cuts_by (l := []) (by kernel_rfl) (all_nil)) (fun s => by kernel_rfl)
def p_words_line_11 := mkP (T := T) [⟨[(1, .ptr 0 0), (4, .cap0), (13, .slc 1 0 2 2), (14, .lit .i64 2), (15, .lit .i64 0)], [.cells 26 none kk20, .cells 20 none kk2], []⟩] [⟨.normal, ⟨[(1, .ptr 0 0), (4, .own 1), (13, .slc 2 0 2 2), (14, .lit .i64 2), (15, .lit .i64 1)], kk29, []⟩⟩, ⟨.ret, ⟨[(2, .s), (3, .b)], [], []⟩⟩]
theorem p_words_line_11_ok : PieceOk p_words_line_11 := mkP_ok _ _
theorem p_words_line_11_ct (κ : Nat) (m : Int) : CutOk Tryz.prog C (G m) Tryz.f17.ntmps 0 (bodyOf (pieceOf (.blk 0) (getBody Tryz.f17))) (p_words_line_11.cut nn2 (cur _ (words_line.v11 κ))) :=
 Piece.join p_words_line_11_ok C_ok mixed (gam22_ok κ m) nn2_ok xx15_ok (cut := noCut) (X := xx15) (cuts_by (l := []) (by kernel_rfl) (all_nil)) (fun s => by kernel_rfl)
def p_words_line_12 := mkP (T := T) [⟨[(1, .ptr 0 0), (4, .own 1), (13, .slc 2 0 2 2), (14, .lit .i64 2), (15, .lit .i64 1)], kk28, []⟩] [⟨.normal, ⟨[(1, .ptr 0 0), (4, .own 1), (13, .slc 2 0 2 2), (14, .lit .i64 2), (15, .lit .i64 2)], kk28, []⟩⟩, ⟨.ret, ⟨[(2, .s), (3, .b)], [], []⟩⟩]
theorem p_words_line_12_ok : PieceOk p_words_line_12 := mkP_ok _ _
theorem p_words_line_12_ct (κ : Nat) (m : Int) : CutOk Tryz.prog C (G m) Tryz.f17.ntmps 0 (bodyOf (pieceOf (.blk 0) (getBody Tryz.f17))) (p_words_line_12.cut nn2 (cur _ (words_line.v12 κ))) :=
 Piece.join p_words_line_12_ok C_ok mixed (gam23_ok κ m) nn2_ok xx15_ok (cut := noCut) (X := xx15) (cuts_by (l := []) (by kernel_rfl) (all_nil)) (fun s => by kernel_rfl)
def p_words_line_13 := mkP (T := T) [⟨[(1, .ptr 0 0), (4, .own 1), (13, .slc 2 0 2 2), (14, .lit .i64 2), (15, .lit .i64 1)], kk30, []⟩] [⟨.normal, ⟨[(1, .ptr 0 0), (4, .own 1), (13, .slc 2 0 2 2), (14, .lit .i64 2), (15, .lit .i64 2)], kk30, []⟩⟩, ⟨.ret, ⟨[(2, .s), (3, .b)], [], []⟩⟩]
theorem p_words_line_13_ok : PieceOk p_words_line_13 := mkP_ok _ _
theorem p_words_line_13_ct (κ : Nat) (m : Int) : CutOk Tryz.prog C (G m) Tryz.f17.ntmps 0 (bodyOf (pieceOf (.blk 0) (getBody Tryz.f17))) (p_words_line_13.cut nn2 (cur _ (words_line.v13 κ))) :=
 Piece.join p_words_line_13_ok C_ok mixed (gam25_ok κ m) nn2_ok xx15_ok (cut := noCut) (X := xx15) (cuts_by (l := []) (by kernel_rfl) (all_nil)) (fun s => by kernel_rfl)
def p_words_line_14 := mkP (T := T) [⟨[(1, .ptr 0 0), (4, .own 1), (13, .slc 2 0 4 4), (14, .lit .i64 4), (15, .lit .i64 1)], kk42, []⟩] [⟨.normal, ⟨[(1, .ptr 0 0), (4, .own 1), (13, .slc 2 0 4 4), (14, .lit .i64 4), (15, .lit .i64 2)], kk42, []⟩⟩, ⟨.ret, ⟨[(2, .s), (3, .b)], [], []⟩⟩]
theorem p_words_line_14_ok : PieceOk p_words_line_14 := mkP_ok _ _
theorem p_words_line_14_ct (κ : Nat) (m : Int) : CutOk Tryz.prog C (G m) Tryz.f17.ntmps 0 (bodyOf (pieceOf (.blk 0) (getBody Tryz.f17))) (p_words_line_14.cut nn2 (cur _ (words_line.v14 κ))) :=
 Piece.join p_words_line_14_ok C_ok mixed (gam25_ok κ m) nn2_ok xx15_ok (cut := noCut) (X := xx15) (cuts_by (l := []) (by kernel_rfl) (all_nil)) (fun s => by kernel_rfl)
def p_words_line_15 := mkP (T := T) [⟨[(1, .ptr 0 0), (4, .own 1), (13, .slc 2 0 4 4), (14, .lit .i64 4), (15, .lit .i64 1)], kk39, []⟩] [⟨.normal, ⟨[(1, .ptr 0 0), (4, .own 1), (13, .slc 2 0 4 4), (14, .lit .i64 4), (15, .lit .i64 2)], kk39, []⟩⟩]
theorem p_words_line_15_ok : PieceOk p_words_line_15 := mkP_ok _ _
theorem p_words_line_15_ct (κ : Nat) (m : Int) : CutOk Tryz.prog C (G m) Tryz.f17.ntmps 0 (bodyOf (pieceOf (.blk 0) (getBody Tryz.f17))) (p_words_line_15.cut nn2 (cur _ (words_line.v15 κ))) :=
 Piece.join p_words_line_15_ok C_ok mixed (gam25_ok κ m) nn2_ok xx15_ok (cut := noCut) (X := xx15) (cuts_by (l := []) (by kernel_rfl) (all_nil)) (fun s => by kernel_rfl)
def p_words_line_16 := mkP (T := T) [⟨[(1, .ptr 0 0), (4, .own 1), (13, .slc 2 0 4 4), (14, .lit .i64 4), (15, .lit .i64 1)], kk40, []⟩] [⟨.normal, ⟨[(1, .ptr 0 0), (4, .own 1), (13, .slc 2 0 4 4), (14, .lit .i64 4), (15, .lit .i64 2)], kk40, []⟩⟩]
theorem p_words_line_16_ok : PieceOk p_words_line_16 := mkP_ok _ _
theorem p_words_line_16_ct (κ : Nat) (m : Int) : CutOk Tryz.prog C (G m) Tryz.f17.ntmps 0 (bodyOf (pieceOf (.blk 0) (getBody Tryz.f17))) (p_words_line_16.cut nn2 (cur _ (words_line.v16 κ))) :=
 Piece.join p_words_line_16_ok C_ok mixed (gam25_ok κ m) nn2_ok xx15_ok (cut := noCut) (X := xx15) (cuts_by (l := []) (by kernel_rfl) (all_nil)) (fun s => by kernel_rfl)
def p_words_line_17 := mkP (T := T) [⟨[(1, .ptr 0 0), (4, .own 1), (13, .slc 2 0 5 5), (14, .lit .i64 5), (15, .lit .i64 1)], kk48, []⟩] [⟨.normal, ⟨[(1, .ptr 0 0), (4, .own 1), (13, .slc 2 0 5 5), (14, .lit .i64 5), (15, .lit .i64 2)], kk48, []⟩⟩]
theorem p_words_line_17_ok : PieceOk p_words_line_17 := mkP_ok _ _
theorem p_words_line_17_ct (κ : Nat) (m : Int) : CutOk Tryz.prog C (G m) Tryz.f17.ntmps 0 (bodyOf (pieceOf (.blk 0) (getBody Tryz.f17))) (p_words_line_17.cut nn2 (cur _ (words_line.v17 κ))) :=
 Piece.join p_words_line_17_ok C_ok mixed (gam25_ok κ m) nn2_ok xx15_ok (cut := noCut) (X := xx15) (cuts_by (l := []) (by kernel_rfl) (all_nil)) (fun s => by kernel_rfl)
def p_words_line_18 := mkP (T := T) [⟨[(1, .ptr 0 0), (4, .own 1), (13, .slc 2 0 3 3), (14, .lit .i64 3), (15, .lit .i64 1)], kk37, []⟩] [⟨.normal, ⟨[(1, .ptr 0 0), (4, .own 1), (13, .slc 2 0 3 3), (14, .lit .i64 3), (15, .lit .i64 2)], kk37, []⟩⟩]
theorem p_words_line_18_ok : PieceOk p_words_line_18 := mkP_ok _ _
theorem p_words_line_18_ct (κ : Nat) (m : Int) : CutOk Tryz.prog C (G m) Tryz.f17.ntmps 0 (bodyOf (pieceOf (.blk 0) (getBody Tryz.f17))) (p_words_line_18.cut nn2 (cur _ (words_line.v18 κ))) :=
 Piece.join p_words_line_18_ok C_ok mixed (gam25_ok κ m) nn2_ok xx15_ok (cut := noCut) (X := xx15) (cuts_by (l := []) (by kernel_rfl) (all_nil)) (fun s => by kernel_rfl)
def p_words_line_19 := mkP (T := T) [⟨[(1, .ptr 0 0), (4, .own 1), (13, .slc 2 0 3 3), (14, .lit .i64 3), (15, .lit .i64 1)], kk32, []⟩] [⟨.normal, ⟨[(1, .ptr 0 0), (4, .own 1), (13, .slc 2 0 3 3), (14, .lit .i64 3), (15, .lit .i64 2)], kk32, []⟩⟩]
theorem p_words_line_19_ok : PieceOk p_words_line_19 := mkP_ok _ _
theorem p_words_line_19_ct (κ : Nat) (m : Int) : CutOk Tryz.prog C (G m) Tryz.f17.ntmps 0 (bodyOf (pieceOf (.blk 0) (getBody Tryz.f17))) (p_words_line_19.cut nn2 (cur _ (words_line.v19 κ))) :=
 Piece.join p_words_line_19_ok C_ok mixed (gam25_ok κ m) nn2_ok xx15_ok (cut := noCut) (X := xx15) (cuts_by (l := []) (by kernel_rfl) (all_nil)) (fun s => by kernel_rfl)
def p_words_line_20 := mkP (T := T) [⟨[(1, .ptr 0 0), (4, .own 1), (13, .slc 2 0 3 3), (14, .lit .i64 3), (15, .lit .i64 1)], kk33, []⟩] [⟨.normal, ⟨[(1, .ptr 0 0), (4, .own 1), (13, .slc 2 0 3 3), (14, .lit .i64 3), (15, .lit .i64 2)], kk33, []⟩⟩]
theorem p_words_line_20_ok : PieceOk p_words_line_20 := mkP_ok _ _
theorem p_words_line_20_ct (κ : Nat) (m : Int) : CutOk Tryz.prog C (G m) Tryz.f17.ntmps 0 (bodyOf (pieceOf (.blk 0) (getBody Tryz.f17))) (p_words_line_20.cut nn2 (cur _ (words_line.v20 κ))) :=
 Piece.join p_words_line_20_ok C_ok mixed (gam25_ok κ m) nn2_ok xx15_ok (cut := noCut) (X := xx15) (cuts_by (l := []) (by kernel_rfl) (all_nil)) (fun s => by kernel_rfl)
def p_words_line_21 := mkP (T := T) [⟨[(1, .ptr 0 0), (4, .own 1), (13, .slc 2 0 4 4), (14, .lit .i64 4), (15, .lit .i64 1)], kk41, []⟩] [⟨.normal, ⟨[(1, .ptr 0 0), (4, .own 1), (13, .slc 2 0 4 4), (14, .lit .i64 4), (15, .lit .i64 2)], kk41, []⟩⟩]
theorem p_words_line_21_ok : PieceOk p_words_line_21 := mkP_ok _ _
theorem p_words_line_21_ct (κ : Nat) (m : Int) : CutOk Tryz.prog C (G m) Tryz.f17.ntmps 0 (bodyOf (pieceOf (.blk 0) (getBody Tryz.f17))) (p_words_line_21.cut nn2 (cur _ (words_line.v21 κ))) :=
 Piece.join p_words_line_21_ok C_ok mixed (gam25_ok κ m) nn2_ok xx15_ok (cut := noCut) (X := xx15) (cuts_by (l := []) (by kernel_rfl) (all_nil)) (fun s => by kernel_rfl)
def p_words_line_22 := mkP (T := T) [⟨[(1, .ptr 0 0), (4, .own 1), (13, .slc 2 0 2 2), (14, .lit .i64 2), (15, .lit .i64 1)], kk29, []⟩] [⟨.normal, ⟨[(1, .ptr 0 0), (4, .own 1), (13, .slc 2 0 2 2), (14, .lit .i64 2), (15, .lit .i64 2)], kk29, []⟩⟩]
theorem p_words_line_22_ok : PieceOk p_words_line_22 := mkP_ok _ _
theorem p_words_line_22_ct (κ : Nat) (m : Int) : CutOk Tryz.prog C (G m) Tryz.f17.ntmps 0 (bodyOf (pieceOf (.blk 0) (getBody Tryz.f17))) (p_words_line_22.cut nn2 (cur _ (words_line.v22 κ))) :=
 Piece.join p_words_line_22_ok C_ok mixed (gam25_ok κ m) nn2_ok xx15_ok (cut := noCut) (X := xx15) (cuts_by (l := []) (by kernel_rfl) (all_nil)) (fun s => by kernel_rfl)
def p_words_line_23 := mkP (T := T) [⟨[(1, .ptr 0 0), (4, .own 1), (13, .slc 2 0 2 2), (14, .lit .i64 2), (15, .lit .i64 2)], kk28, []⟩] [⟨(.exit 0), ⟨[(4, .own 0)], [.row 9 true], []⟩⟩]
theorem p_words_line_23_ok : PieceOk p_words_line_23 := mkP_ok _ _
theorem p_words_line_23_ct (κ : Nat) (m : Int) : CutOk Tryz.prog C (G m) Tryz.f17.ntmps 0 (bodyOf (pieceOf (.blk 0) (getBody Tryz.f17))) (p_words_line_23.cut nn2 (cur _ (words_line.v23 κ))) :=
 Piece.join p_words_line_23_ok C_ok mixed (gam25_ok κ m) nn2_ok xx15_ok (cut := noCut) (X := xx15) (cuts_by (l := []) (by kernel_rfl) (all_nil)) (fun s => by kernel_rfl)
def p_words_line_24 := mkP (T := T) [⟨[(1, .ptr 0 0), (4, .own 1), (13, .slc 2 0 2 2), (14, .lit .i64 2), (15, .lit .i64 2)], kk30, []⟩] [⟨(.exit 0), ⟨[(4, .own 0)], [.row 9 true], []⟩⟩]
theorem p_words_line_24_ok : PieceOk p_words_line_24 := mkP_ok _ _
theorem p_words_line_24_ct (κ : Nat) (m : Int) : CutOk Tryz.prog C (G m) Tryz.f17.ntmps 0 (bodyOf (pieceOf (.blk 0) (getBody Tryz.f17))) (p_words_line_24.cut nn2 (cur _ (words_line.v24 κ))) :=
 Piece.join p_words_line_24_ok C_ok mixed (gam25_ok κ m) nn2_ok xx15_ok (cut := noCut) (X := xx15) (cuts_by (l := []) (by kernel_rfl) (all_nil)) (fun s => by kernel_rfl)
def p_words_line_25 := mkP (T := T) [⟨[(1, .ptr 0 0), (4, .own 1), (13, .slc 2 0 4 4), (14, .lit .i64 4), (15, .lit .i64 2)], kk42, []⟩] [⟨.normal, ⟨[(1, .ptr 0 0), (4, .own 1), (13, .slc 2 0 4 4), (14, .lit .i64 4), (15, .lit .i64 3)], kk42, []⟩⟩, ⟨.ret, ⟨[(2, .s), (3, .b)], [], []⟩⟩]
theorem p_words_line_25_ok : PieceOk p_words_line_25 := mkP_ok _ _
theorem p_words_line_25_ct (κ : Nat) (m : Int) : CutOk Tryz.prog C (G m) Tryz.f17.ntmps 0 (bodyOf (pieceOf (.blk 0) (getBody Tryz.f17))) (p_words_line_25.cut nn2 (cur _ (words_line.v25 κ))) :=
 Piece.join p_words_line_25_ok C_ok mixed (gam27_ok κ m) nn2_ok xx15_ok (cut := noCut) (X := xx15) (cuts_by (l := []) (by kernel_rfl) (all_nil)) (fun s => by kernel_rfl)
def p_words_line_26 := mkP (T := T) [⟨[(1, .ptr 0 0), (4, .own 1), (13, .slc 2 0 4 4), (14, .lit .i64 4), (15, .lit .i64 2)], kk39, []⟩] [⟨.normal, ⟨[(1, .ptr 0 0), (4, .own 1), (13, .slc 2 0 4 4), (14, .lit .i64 4), (15, .lit .i64 3)], kk39, []⟩⟩]
theorem p_words_line_26_ok : PieceOk p_words_line_26 := mkP_ok _ _
theorem p_words_line_26_ct (κ : Nat) (m : Int) : CutOk Tryz.prog C (G m) Tryz.f17.ntmps 0 (bodyOf (pieceOf (.blk 0) (getBody Tryz.f17))) (p_words_line_26.cut nn2 (cur _ (words_line.v26 κ))) :=
 Piece.join p_words_line_26_ok C_ok mixed (gam27_ok κ m) nn2_ok xx15_ok (cut := noCut) (X := xx15) (cuts_by (l := []) (by kernel_rfl) (all_nil)) (fun s => by kernel_rfl)
def p_words_line_27 := mkP (T := T) [⟨[(1, .ptr 0 0), (4, .own 1), (13, .slc 2 0 4 4), (14, .lit .i64 4), (15, .lit .i64 2)], kk40, []⟩] [⟨.normal, ⟨[(1, .ptr 0 0), (4, .own 1), (13, .slc 2 0 4 4), (14, .lit .i64 4), (15, .lit .i64 3)], kk40, []⟩⟩]
theorem p_words_line_27_ok : PieceOk p_words_line_27 := mkP_ok _ _
theorem p_words_line_27_ct (κ : Nat) (m : Int) : CutOk Tryz.prog C (G m) Tryz.f17.ntmps 0 (bodyOf (pieceOf (.blk 0) (getBody Tryz.f17))) (p_words_line_27.cut nn2 (cur _ (words_line.v27 κ))) :=
 Piece.join p_words_line_27_ok C_ok mixed (gam27_ok κ m) nn2_ok xx15_ok (cut := noCut) (X := xx15) (cuts_by (l := []) (by kernel_rfl) (all_nil)) (fun s => by kernel_rfl)
def p_words_line_28 := mkP (T := T) [⟨[(1, .ptr 0 0), (4, .own 1), (13, .slc 2 0 5 5), (14, .lit .i64 5), (15, .lit .i64 2)], kk48, []⟩] [⟨.normal, ⟨[(1, .ptr 0 0), (4, .own 1), (13, .slc 2 0 5 5), (14, .lit .i64 5), (15, .lit .i64 3)], kk48, []⟩⟩, ⟨.ret, ⟨[(2, .s), (3, .b)], [], []⟩⟩]
theorem p_words_line_28_ok : PieceOk p_words_line_28 := mkP_ok _ _
theorem p_words_line_28_ct (κ : Nat) (m : Int) : CutOk Tryz.prog C (G m) Tryz.f17.ntmps 0 (bodyOf (pieceOf (.blk 0) (getBody Tryz.f17))) (p_words_line_28.cut nn2 (cur _ (words_line.v28 κ))) :=
 Piece.join p_words_line_28_ok C_ok mixed (gam29_ok κ m) nn2_ok xx15_ok (cut := noCut) (X := xx15) (cuts_by (l := []) (by kernel_rfl) (all_nil)) (fun s => by kernel_rfl)
def p_words_line_29 := mkP (T := T) [⟨[(1, .ptr 0 0), (4, .own 1), (13, .slc 2 0 3 3), (14, .lit .i64 3), (15, .lit .i64 2)], kk37, []⟩] [⟨.normal, ⟨[(1, .ptr 0 0), (4, .own 1), (13, .slc 2 0 3 3), (14, .lit .i64 3), (15, .lit .i64 3)], kk37, []⟩⟩, ⟨.ret, ⟨[(2, .s), (3, .b)], [], []⟩⟩]
theorem p_words_line_29_ok : PieceOk p_words_line_29 := mkP_ok _ _
theorem p_words_line_29_ct (κ : Nat) (m : Int) : CutOk Tryz.prog C (G m) Tryz.f17.ntmps 0 (bodyOf (pieceOf (.blk 0) (getBody Tryz.f17))) (p_words_line_29.cut nn2 (cur _ (words_line.v29 κ))) :=
 Piece.join p_words_line_29_ok C_ok mixed (gam29_ok κ m) nn2_ok xx15_ok (cut := noCut) (X := xx15) (cuts_by (l := []) (by kernel_rfl) (all_nil)) (fun s => by kernel_rfl)
def p_words_line_30 := mkP (T := T) [⟨[(1, .ptr 0 0), (4, .own 1), (13, .slc 2 0 3 3), (14, .lit .i64 3), (15, .lit .i64 2)], kk32, []⟩] [⟨.normal, ⟨[(1, .ptr 0 0), (4, .own 1), (13, .slc 2 0 3 3), (14, .lit .i64 3), (15, .lit .i64 3)], kk32, []⟩⟩, ⟨.ret, ⟨[(2, .s), (3, .b)], [], []⟩⟩]
theorem p_words_line_30_ok : PieceOk p_words_line_30 := mkP_ok _ _
theorem p_words_line_30_ct (κ : Nat) (m : Int) : CutOk Tryz.prog C (G m) Tryz.f17.ntmps 0 (bodyOf (pieceOf (.blk 0) (getBody Tryz.f17))) (p_words_line_30.cut nn2 (cur _ (words_line.v30 κ))) :=
 Piece.join p_words_line_30_ok C_ok mixed (gam30_ok κ m) nn2_ok xx15_ok (cut := noCut) (X := xx15) (cuts_by (l := []) (by kernel_rfl) (all_nil)) (fun s => by kernel_rfl)
def p_words_line_31 := mkP (T := T) [⟨[(1, .ptr 0 0), (4, .own 1), (13, .slc 2 0 3 3), (14, .lit .i64 3), (15, .lit .i64 2)], kk33, []⟩] [⟨.normal, ⟨[(1, .ptr 0 0), (4, .own 1), (13, .slc 2 0 3 3), (14, .lit .i64 3), (15, .lit .i64 3)], kk33, []⟩⟩, ⟨.ret, ⟨[(2, .s), (3, .b)], [], []⟩⟩]
theorem p_words_line_31_ok : PieceOk p_words_line_31 := mkP_ok _ _
theorem p_words_line_31_ct (κ : Nat) (m : Int) : CutOk Tryz.prog C (G m) Tryz.f17.ntmps 0 (bodyOf (pieceOf (.blk 0) (getBody Tryz.f17))) (p_words_line_31.cut nn2 (cur _ (words_line.v31 κ))) :=
 Piece.join p_words_line_31_ok C_ok mixed (gam31_ok κ m) nn2_ok xx15_ok (cut := noCut) (X := xx15) (cuts_by (l := []) (by kernel_rfl) (all_nil)) (fun s => by kernel_rfl)
def p_words_line_32 := mkP (T := T) [⟨[(1, .ptr 0 0), (4, .own 1), (13, .slc 2 0 4 4), (14, .lit .i64 4), (15, .lit .i64 2)], kk41, []⟩] [⟨.normal, ⟨[(1, .ptr 0 0), (4, .own 1), (13, .slc 2 0 4 4), (14, .lit .i64 4), (15, .lit .i64 3)], kk41, []⟩⟩, ⟨.ret, ⟨[(2, .s), (3, .b)], [], []⟩⟩]
theorem p_words_line_32_ok : PieceOk p_words_line_32 := mkP_ok _ _
theorem p_words_line_32_ct (κ : Nat) (m : Int) : CutOk Tryz.prog C (G m) Tryz.f17.ntmps 0 (bodyOf (pieceOf (.blk 0) (getBody Tryz.f17))) (p_words_line_32.cut nn2 (cur _ (words_line.v32 κ))) :=
 Piece.join p_words_line_32_ok C_ok mixed (gam31_ok κ m) nn2_ok xx15_ok (cut := noCut) (X := xx15) (cuts_by (l := []) (by kernel_rfl) (all_nil)) (fun s => by kernel_rfl)
def p_words_line_33 := mkP (T := T) [⟨[(1, .ptr 0 0), (4, .own 1), (13, .slc 2 0 2 2), (14, .lit .i64 2), (15, .lit .i64 2)], kk29, []⟩] [⟨(.exit 0), ⟨[(4, .own 0)], [.row 9 true], []⟩⟩]
theorem p_words_line_33_ok : PieceOk p_words_line_33 := mkP_ok _ _
theorem p_words_line_33_ct (κ : Nat) (m : Int) : CutOk Tryz.prog C (G m) Tryz.f17.ntmps 0 (bodyOf (pieceOf (.blk 0) (getBody Tryz.f17))) (p_words_line_33.cut nn2 (cur _ (words_line.v33 κ))) :=
 Piece.join p_words_line_33_ok C_ok mixed (gam31_ok κ m) nn2_ok xx15_ok (cut := noCut) (X := xx15) (cuts_by (l := []) (by kernel_rfl) (all_nil)) (fun s => by kernel_rfl)
def p_words_line_34 := mkP (T := T) [⟨[(1, .ptr 0 0), (4, .own 1), (13, .slc 2 0 4 4), (14, .lit .i64 4), (15, .lit .i64 3)], kk42, []⟩] [⟨.normal, ⟨[(1, .ptr 0 0), (4, .own 1), (13, .slc 2 0 4 4), (14, .lit .i64 4), (15, .lit .i64 4)], kk42, []⟩⟩, ⟨.ret, ⟨[(2, .s), (3, .b)], [], []⟩⟩]
theorem p_words_line_34_ok : PieceOk p_words_line_34 := mkP_ok _ _
theorem p_words_line_34_ct (κ : Nat) (m : Int) : CutOk Tryz.prog C (G m) Tryz.f17.ntmps 0 (bodyOf (pieceOf (.blk 0) (getBody Tryz.f17))) (p_words_line_34.cut nn2 (cur _ (words_line.v34 κ))) :=
 Piece.join p_words_line_34_ok C_ok mixed (gam33_ok κ m) nn2_ok xx15_ok (cut := noCut) (X := xx15) (cuts_by (l := []) (by kernel_rfl) (all_nil)) (fun s => by kernel_rfl)
def p_words_line_35 := mkP (T := T) [⟨[(1, .ptr 0 0), (4, .own 1), (13, .slc 2 0 4 4), (14, .lit .i64 4), (15, .lit .i64 3)], kk39, []⟩] [⟨.normal, ⟨[(1, .ptr 0 0), (4, .own 1), (13, .slc 2 0 4 4), (14, .lit .i64 4), (15, .lit .i64 4)], kk39, []⟩⟩, ⟨.ret, ⟨[(2, .s), (3, .b)], [], []⟩⟩]
theorem p_words_line_35_ok : PieceOk p_words_line_35 := mkP_ok _ _
theorem p_words_line_35_ct (κ : Nat) (m : Int) : CutOk Tryz.prog C (G m) Tryz.f17.ntmps 0 (bodyOf (pieceOf (.blk 0) (getBody Tryz.f17))) (p_words_line_35.cut nn2 (cur _ (words_line.v35 κ))) :=
 Piece.join p_words_line_35_ok C_ok mixed (gam38_ok κ m) nn2_ok xx15_ok (cut := noCut) (X := xx15) (cuts_by (l := []) (by kernel_rfl) (all_nil)) (fun s => by kernel_rfl)
def p_words_line_36 := mkP (T := T) [⟨[(1, .ptr 0 0), (4, .own 1), (13, .slc 2 0 4 4), (14, .lit .i64 4), (15, .lit .i64 3)], kk40, []⟩] [⟨.normal, ⟨[(1, .ptr 0 0), (4, .own 1), (13, .slc 2 0 4 4), (14, .lit .i64 4), (15, .lit .i64 4)], kk40, []⟩⟩]
theorem p_words_line_36_ok : PieceOk p_words_line_36 := mkP_ok _ _
theorem p_words_line_36_ct (κ : Nat) (m : Int) : CutOk Tryz.prog C (G m) Tryz.f17.ntmps 0 (bodyOf (pieceOf (.blk 0) (getBody Tryz.f17))) (p_words_line_36.cut nn2 (cur _ (words_line.v36 κ))) :=
 Piece.join p_words_line_36_ok C_ok mixed (gam39_ok κ m) nn2_ok xx15_ok (cut := noCut) (X := xx15) (cuts_by (l := []) (by kernel_rfl) (all_nil)) (fun s => by kernel_rfl)
def p_words_line_37 := mkP (T := T) [⟨[(1, .ptr 0 0), (4, .own 1), (13, .slc 2 0 5 5), (14, .lit .i64 5), (15, .lit .i64 3)], kk48, []⟩] [⟨.normal, ⟨[(1, .ptr 0 0), (4, .own 1), (13, .slc 2 0 5 5), (14, .lit .i64 5), (15, .lit .i64 4)], kk48, []⟩⟩, ⟨.ret, ⟨[(2, .s), (3, .b)], [], []⟩⟩]
theorem p_words_line_37_ok : PieceOk p_words_line_37 := mkP_ok _ _
theorem p_words_line_37_ct (κ : Nat) (m : Int) : CutOk Tryz.prog C (G m) Tryz.f17.ntmps 0 (bodyOf (pieceOf (.blk 0) (getBody Tryz.f17))) (p_words_line_37.cut nn2 (cur _ (words_line.v37 κ))) :=
 Piece.join p_words_line_37_ok C_ok mixed (gam41_ok κ m) nn2_ok xx15_ok (cut := noCut) (X := xx15) (cuts_by (l := []) (by kernel_rfl) (all_nil)) (fun s => by kernel_rfl)
def p_words_line_38 := mkP (T := T) [⟨[(1, .ptr 0 0), (4, .own 1), (13, .slc 2 0 3 3), (14, .lit .i64 3), (15, .lit .i64 3)], kk37, []⟩] [⟨(.exit 0), ⟨[(4, .own 0)], [.row 9 true], []⟩⟩]
theorem p_words_line_38_ok : PieceOk p_words_line_38 := mkP_ok _ _
theorem p_words_line_38_ct (κ : Nat) (m : Int) : CutOk Tryz.prog C (G m) Tryz.f17.ntmps 0 (bodyOf (pieceOf (.blk 0) (getBody Tryz.f17))) (p_words_line_38.cut nn2 (cur _ (words_line.v38 κ))) :=
 Piece.join p_words_line_38_ok C_ok mixed (gam41_ok κ m) nn2_ok xx15_ok (cut := noCut) (X := xx15) (cuts_by (l := []) (by kernel_rfl) (all_nil)) (fun s => by kernel_rfl)
def p_words_line_39 := mkP (T := T) [⟨[(1, .ptr 0 0), (4, .own 1), (13, .slc 2 0 3 3), (14, .lit .i64 3), (15, .lit .i64 3)], kk32, []⟩] [⟨(.exit 0), ⟨[(4, .own 0)], [.row 9 true], []⟩⟩]
theorem p_words_line_39_ok : PieceOk p_words_line_39 := mkP_ok _ _
theorem p_words_line_39_ct (κ : Nat) (m : Int) : CutOk Tryz.prog C (G m) Tryz.f17.ntmps 0 (bodyOf (pieceOf (.blk 0) (getBody Tryz.f17))) (p_words_line_39.cut nn2 (cur _ (words_line.v39 κ))) :=
 Piece.join p_words_line_39_ok C_ok mixed (gam41_ok κ m) nn2_ok xx15_ok (cut := noCut) (X := xx15) (cuts_by (l := []) (by kernel_rfl) (all_nil)) (fun s => by kernel_rfl)
def p_words_line_40 := mkP (T := T) [⟨[(1, .ptr 0 0), (4, .own 1), (13, .slc 2 0 3 3), (14, .lit .i64 3), (15, .lit .i64 3)], kk33, []⟩] [⟨(.exit 0), ⟨[(4, .own 0)], [.row 9 true], []⟩⟩]
theorem p_words_line_40_ok : PieceOk p_words_line_40 := mkP_ok _ _
theorem p_words_line_40_ct (κ : Nat) (m : Int) : CutOk Tryz.prog C (G m) Tryz.f17.ntmps 0 (bodyOf (pieceOf (.blk 0) (getBody Tryz.f17))) (p_words_line_40.cut nn2 (cur _ (words_line.v40 κ))) :=
 Piece.join p_words_line_40_ok C_ok mixed (gam41_ok κ m) nn2_ok xx15_ok (cut := noCut) (X := xx15) (cuts_by (l := []) (by kernel_rfl) (all_nil)) (fun s => by kernel_rfl)
def p_words_line_41 := mkP (T := T) [⟨[(1, .ptr 0 0), (4, .own 1), (13, .slc 2 0 4 4), (14, .lit .i64 4), (15, .lit .i64 3)], kk41, []⟩] [⟨.normal, ⟨[(1, .ptr 0 0), (4, .own 1), (13, .slc 2 0 4 4), (14, .lit .i64 4), (15, .lit .i64 4)], kk41, []⟩⟩, ⟨.ret, ⟨[(2, .s), (3, .b)], [], []⟩⟩]
theorem p_words_line_41_ok : PieceOk p_words_line_41 := mkP_ok _ _
theorem p_words_line_41_ct (κ : Nat) (m : Int) : CutOk Tryz.prog C (G m) Tryz.f17.ntmps 0 (bodyOf (pieceOf (.blk 0) (getBody Tryz.f17))) (p_words_line_41.cut nn2 (cur _ (words_line.v41 κ))) :=
 Piece.join p_words_line_41_ok C_ok mixed (gam43_ok κ m) nn2_ok xx15_ok (cut := noCut) (X := xx15) (cuts_by (l := []) (by kernel_rfl) (all_nil)) (fun s => by kernel_rfl)
def p_words_line_42 := mkP (T := T) [⟨[(1, .ptr 0 0), (4, .own 1), (13, .slc 2 0 4 4), (14, .lit .i64 4), (15, .lit .i64 4)], kk42, []⟩] [⟨(.exit 0), ⟨[(4, .own 0)], [.row 9 true], []⟩⟩]
theorem p_words_line_42_ok : PieceOk p_words_line_42 := mkP_ok _ _
theorem p_words_line_42_ct (κ : Nat) (m : Int) : CutOk Tryz.prog C (G m) Tryz.f17.ntmps 0 (bodyOf (pieceOf (.blk 0) (getBody Tryz.f17))) (p_words_line_42.cut nn2 (cur _ (words_line.v42 κ))) :=
 Piece.join p_words_line_42_ok C_ok mixed (gam43_ok κ m) nn2_ok xx15_ok (cut := noCut) (X := xx15) (cuts_by (l := []) (by kernel_rfl) (all_nil)) (fun s => by kernel_rfl)
def p_words_line_43 := mkP (T := T) [⟨[(1, .ptr 0 0), (4, .own 1), (13, .slc 2 0 4 4), (14, .lit .i64 4), (15, .lit .i64 4)], kk39, []⟩] [⟨(.exit 0), ⟨[(4, .own 0)], [.row 9 true], []⟩⟩]
theorem p_words_line_43_ok : PieceOk p_words_line_43 := mkP_ok _ _
theorem p_words_line_43_ct (κ : Nat) (m : Int) : CutOk Tryz.prog C (G m) Tryz.f17.ntmps 0 (bodyOf (pieceOf (.blk 0) (getBody Tryz.f17))) (p_words_line_43.cut nn2 (cur _ (words_line.v43 κ))) :=
 Piece.join p_words_line_43_ok C_ok mixed (gam43_ok κ m) nn2_ok xx15_ok (cut := noCut) (X := xx15) (cuts_by (l := []) (by kernel_rfl) (all_nil)) (fun s => by kernel_rfl)
def p_words_line_44 := mkP (T := T) [⟨[(1, .ptr 0 0), (4, .own 1), (13, .slc 2 0 4 4), (14, .lit .i64 4), (15, .lit .i64 4)], kk40, []⟩] [⟨(.exit 0), ⟨[(4, .own 0)], [.row 9 true], []⟩⟩]
theorem p_words_line_44_ok : PieceOk p_words_line_44 := mkP_ok _ _
theorem p_words_line_44_ct (κ : Nat) (m : Int) : CutOk Tryz.prog C (G m) Tryz.f17.ntmps 0 (bodyOf (pieceOf (.blk 0) (getBody Tryz.f17))) (p_words_line_44.cut nn2 (cur _ (words_line.v44 κ))) :=
 Piece.join p_words_line_44_ok C_ok mixed (gam43_ok κ m) nn2_ok xx15_ok (cut := noCut) (X := xx15) (cuts_by (l := []) (by kernel_rfl) (all_nil)) (fun s => by kernel_rfl)
def p_words_line_45 := mkP (T := T) [⟨[(1, .ptr 0 0), (4, .own 1), (13, .slc 2 0 5 5), (14, .lit .i64 5), (15, .lit .i64 4)], kk48, []⟩] [⟨.normal, ⟨[(1, .ptr 0 0), (4, .own 1), (13, .slc 2 0 5 5), (14, .lit .i64 5), (15, .lit .i64 5)], kk48, []⟩⟩, ⟨.ret, ⟨[(2, .s), (3, .b)], [], []⟩⟩]
theorem p_words_line_45_ok : PieceOk p_words_line_45 := mkP_ok _ _
theorem p_words_line_45_ct (κ : Nat) (m : Int) : CutOk Tryz.prog C (G m) Tryz.f17.ntmps 0 (bodyOf (pieceOf (.blk 0) (getBody Tryz.f17))) (p_words_line_45.cut nn2 (cur _ (words_line.v45 κ))) :=
 Piece.join p_words_line_45_ok C_ok mixed (gam43_ok κ m) nn2_ok xx15_ok (cut := noCut) (X := xx15) (cuts_by (l := []) (by kernel_rfl) (all_nil)) (fun s => by kernel_rfl)
def p_words_line_46 := mkP (T := T) [⟨[(1, .ptr 0 0), (4, .own 1), (13, .slc 2 0 4 4), (14, .lit .i64 4), (15, .lit .i64 4)], kk41, []⟩] [⟨(.exit 0), ⟨[(4, .own 0)], [.row 9 true], []⟩⟩]
theorem p_words_line_46_ok : PieceOk p_words_line_46 := mkP_ok _ _
theorem p_words_line_46_ct (κ : Nat) (m : Int) : CutOk Tryz.prog C (G m) Tryz.f17.ntmps 0 (bodyOf (pieceOf (.blk 0) (getBody Tryz.f17))) (p_words_line_46.cut nn2 (cur _ (words_line.v46 κ))) :=
 Piece.join p_words_line_46_ok C_ok mixed (gam43_ok κ m) nn2_ok xx15_ok (cut := noCut) (X := xx15) (cuts_by (l := []) (by kernel_rfl) (all_nil)) (fun s => by kernel_rfl)
def p_words_line_47 := mkP (T := T) [⟨[(1, .ptr 0 0), (4, .own 1), (13, .slc 2 0 5 5), (14, .lit .i64 5), (15, .lit .i64 5)], kk48, []⟩] [⟨(.exit 0), ⟨[(4, .own 0)], [.row 9 true], []⟩⟩]
theorem p_words_line_47_ok : PieceOk p_words_line_47 := mkP_ok _ _
theorem p_words_line_47_ct (κ : Nat) (m : Int) : CutOk Tryz.prog C (G m) Tryz.f17.ntmps 0 (bodyOf (pieceOf (.blk 0) (getBody Tryz.f17))) (p_words_line_47.cut nn2 (cur _ (words_line.v47 κ))) :=
 Piece.join p_words_line_47_ok C_ok mixed (gam43_ok κ m) nn2_ok xx15_ok (cut := noCut) (X := xx15) (cuts_by (l := []) (by kernel_rfl) (all_nil)) (fun s => by kernel_rfl)
def cc_words_line_48 (κ : Nat) : Cut T := loopV (p_words_line_0.cutOr nn2 (cur _ (words_line.v0 κ)) (p_words_line_1.cutOr nn2 (cur _ (words_line.v1 κ)) (p_words_line_2.cutOr nn2 (cur _ (words_line.v2 κ)) (p_words_line_3.cutOr nn2 (cur _ (words_line.v3 κ)) (p_words_line_4.cutOr nn2 (cur _ (words_line.v4 κ)) (p_words_line_5.cutOr nn2 (cur _ (words_line.v5 κ)) (p_words_line_6.cutOr nn2 (cur _ (words_line.v6 κ)) (p_words_line_7.cutOr nn2 (cur _ (words_line.v7 κ)) (p_words_line_8.cutOr nn2 (cur _ (words_line.v8 κ)) (p_words_line_9.cutOr nn2 (cur _ (words_line.v9 κ)) (p_words_line_10.cutOr nn2 (cur _ (words_line.v10 κ)) (p_words_line_11.cutOr nn2 (cur _ (words_line.v11 κ)) (p_words_line_12.cutOr nn2 (cur _ (words_line.v12 κ)) (p_words_line_13.cutOr nn2 (cur _ (words_line.v13 κ)) (p_words_line_14.cutOr nn2 (cur _ (words_line.v14 κ)) (p_words_line_15.cutOr nn2 (cur _ (words_line.v15 κ)) (p_words_line_16.cutOr nn2 (cur _ (words_line.v16 κ)) (p_words_line_17.cutOr nn2 (cur _ (words_line.v17 κ)) (p_words_line_18.cutOr nn2 (cur _ (words_line.v18 κ)) (p_words_line_19.cutOr nn2 (cur _ (words_line.v19 κ)) (p_words_line_20.cutOr nn2 (cur _ (words_line.v20 κ)) (p_words_line_21.cutOr nn2 (cur _ (words_line.v21 κ)) (p_words_line_22.cutOr nn2 (cur _ (words_line.v22 κ)) (p_words_line_23.cutOr nn2 (cur _ (words_line.v23 κ)) (p_words_line_24.cutOr nn2 (cur _ (words_line.v24 κ)) (p_words_line_25.cutOr nn2 (cur _ (words_line.v25 κ)) (p_words_line_26.cutOr nn2 (cur _ (words_line.v26 κ)) (p_words_line_27.cutOr nn2 (cur _ (words_line.v27 κ)) (p_words_line_28.cutOr nn2 (cur _ (words_line.v28 κ)) (p_words_line_29.cutOr nn2 (cur _ (words_line.v29 κ)) (p_words_line_30.cutOr nn2 (cur _ (words_line.v30 κ)) (p_words_line_31.cutOr nn2 (cur _ (words_line.v31 κ)) (p_words_line_32.cutOr nn2 (cur _ (words_line.v32 κ)) (p_words_line_33.cutOr nn2 (cur _ (words_line.v33 κ)) (p_words_line_34.cutOr nn2 (cur _ (words_line.v34 κ)) (p_words_line_35.cutOr nn2 (cur _ (words_line.v35 κ)) (p_words_line_36.cutOr nn2 (cur _ (words_line.v36 κ)) (p_words_line_37.cutOr nn2 (cur _ (words_line.v37 κ)) (p_words_line_38.cutOr nn2 (cur _ (words_line.v38 κ)) (p_words_line_39.cutOr nn2 (cur _ (words_line.v39 κ)) (p_words_line_40.cutOr nn2 (cur _ (words_line.v40 κ)) (p_words_line_41.cutOr nn2 (cur _ (words_line.v41 κ)) (p_words_line_42.cutOr nn2 (cur _ (words_line.v42 κ)) (p_words_line_43.cutOr nn2 (cur _ (words_line.v43 κ)) (p_words_line_44.cutOr nn2 (cur _ (words_line.v44 κ)) (p_words_line_45.cutOr nn2 (cur _ (words_line.v45 κ)) (p_words_line_46.cutOr nn2 (cur _ (words_line.v46 κ)) (p_words_line_47.cut nn2 (cur _ (words_line.v47 κ)))))))))))))))))))))))))))))))))))))))))))))))))) 0 6
theorem cc_words_line_48_ok (κ : Nat) (m : Int) : CutOk Tryz.prog C (G m) Tryz.f17.ntmps 0 (pieceOf (.blk 0) (getBody Tryz.f17)) (cc_words_line_48 κ) := loopV_ok (body := bodyOf (pieceOf (.blk 0) (getBody Tryz.f17))) (Piece.or_ok (p_words_line_0_ct κ m) (Piece.or_ok (p_words_line_1_ct κ m) (Piece.or_ok (p_words_line_2_ct κ m) (Piece.or_ok (p_words_line_3_ct κ m) (Piece.or_ok (p_words_line_4_ct κ m) (Piece.or_ok (p_words_line_5_ct κ m) (Piece.or_ok (p_words_line_6_ct κ m) (Piece.or_ok (p_words_line_7_ct κ m) (Piece.or_ok (p_words_line_8_ct κ m) (Piece.or_ok (p_words_line_9_ct κ m) (Piece.or_ok (p_words_line_10_ct κ m) (Piece.or_ok (p_words_line_11_ct κ m) (Piece.or_ok (p_words_line_12_ct κ m) (Piece.or_ok (p_words_line_13_ct κ m) (Piece.or_ok (p_words_line_14_ct κ m) (Piece.or_ok (p_words_line_15_ct κ m) (Piece.or_ok (p_words_line_16_ct κ m) (Piece.or_ok (p_words_line_17_ct κ m) (Piece.or_ok (p_words_line_18_ct κ m) (Piece.or_ok (p_words_line_19_ct κ m) (Piece.or_ok (p_words_line_20_ct κ m) (Piece.or_ok (p_words_line_21_ct κ m) (Piece.or_ok (p_words_line_22_ct κ m) (Piece.or_ok (p_words_line_23_ct κ m) (Piece.or_ok (p_words_line_24_ct κ m) (Piece.or_ok (p_words_line_25_ct κ m) (Piece.or_ok (p_words_line_26_ct κ m) (Piece.or_ok (p_words_line_27_ct κ m) (Piece.or_ok (p_words_line_28_ct κ m) (Piece.or_ok (p_words_line_29_ct κ m) (Piece.or_ok (p_words_line_30_ct κ m) (Piece.or_ok (p_words_line_31_ct κ m) (Piece.or_ok (p_words_line_32_ct κ m) (Piece.or_ok (p_words_line_33_ct κ m) (Piece.or_ok (p_words_line_34_ct κ m) (Piece.or_ok (p_words_line_35_ct κ m) (Piece.or_ok (p_words_line_36_ct κ m) (Piece.or_ok (p_words_line_37_ct κ m) (Piece.or_ok (p_words_line_38_ct κ m) (Piece.or_ok (p_words_line_39_ct κ m) (Piece.or_ok (p_words_line_40_ct κ m) (Piece.or_ok (p_words_line_41_ct κ m) (Piece.or_ok (p_words_line_42_ct κ m) (Piece.or_ok (p_words_line_43_ct κ m) (Piece.or_ok (p_words_line_44_ct κ m) (Piece.or_ok (p_words_line_45_ct κ m) (Piece.or_ok (p_words_line_46_ct κ m) (p_words_line_47_ct κ m)))))))))))))))))))))))))))))))))))))))))))))))) 6
def ct_words_line_48 (κ : Nat) : Key → Option (Cut T) := addCut noCut (.blk 0) (cc_words_line_48 κ)
def sp_words_line := mkS (T := T) kk23 [] [⟨false, .tup [.s, .b], []⟩]
theorem sp_words_line_ok : SpecOk sp_words_line := mkS_ok _ _ _
theorem ok_words_line (κ : Nat) (m : Int) : EOk Tryz.prog C (G m) 17 (sp_words_line.entry (cur _ (words_line κ))) :=
 Spec.ok sp_words_line_ok C_ok mixed (gam44_ok κ m) (cut := (ct_words_line_48 κ)) (NR := (gcN 0 [0])) (NP := (gcN 0 [0])) (nB := 0) Tryz.func17 (c := (getBody Tryz.f17)) (by kernel_rfl) (by kernel_rfl) (fun i => by kernel_rfl) gcN_ok gcN_ok (cuts_by (l := [(pieceOf (.blk 0) (getBody Tryz.f17), cc_words_line_48 κ)]) (by kernel_rfl) (all_cons (cc_words_line_48_ok κ m) (all_nil))) (fun i => by kernel_rfl)
noncomputable def gam45 (κ : Nat) : Gam T := (gam44 κ).addS 17 sp_words_line (cur _ (words_line κ))
theorem gam45_ok (κ : Nat) (m : Int) : GOk Tryz.prog C (G m) (gam45 κ) := (gam44_ok κ m).addS (ok_words_line κ m)
def sp_internal_stringslite_Cut := mkS (T := T) [.s, .s] [] [⟨false, .tup [.s, .s, .b], []⟩]
theorem sp_internal_stringslite_Cut_ok : SpecOk sp_internal_stringslite_Cut := mkS_ok _ _ _
theorem ok_internal_stringslite_Cut (κ : Nat) (m : Int) : EOk Tryz.prog C (G m) 53 (sp_internal_stringslite_Cut.entry (cur _ (internal_stringslite_Cut κ))) :=
 Spec.ok sp_internal_stringslite_Cut_ok C_ok mixed (gam45_ok κ m) (cut := noCut) (NR := (gcN 0 [0])) (NP := (gcN 0 [0])) (nB := 0) Tryz.func53 (c := (getBody Tryz.f53)) (by kernel_rfl) (by kernel_rfl) (fun i => by kernel_rfl) gcN_ok gcN_ok (cuts_by (l := []) (by kernel_rfl) (all_nil)) (fun i => by kernel_rfl)
noncomputable def gam46 (κ : Nat) : Gam T := (gam45 κ).addS 53 sp_internal_stringslite_Cut (cur _ (internal_stringslite_Cut κ))
theorem gam46_ok (κ : Nat) (m : Int) : GOk Tryz.prog C (G m) (gam46 κ) := (gam45_ok κ m).addS (ok_internal_stringslite_Cut κ m)
def sp_strings_Cut := mkS (T := T) [.s, .s] [] [⟨false, .tup [.s, .s, .b], []⟩]
theorem sp_strings_Cut_ok : SpecOk sp_strings_Cut := mkS_ok _ _ _
theorem ok_strings_Cut (κ : Nat) (m : Int) : EOk Tryz.prog C (G m) 35 (sp_strings_Cut.entry (cur _ (strings_Cut κ))) :=
 Spec.ok sp_strings_Cut_ok C_ok mixed (gam46_ok κ m) (cut := noCut) (NR := (gcN 0 [0])) (NP := (gcN 0 [0])) (nB := 0) Tryz.func35 (c := (getBody Tryz.f35)) (by kernel_rfl) (by kernel_rfl) (fun i => by kernel_rfl) gcN_ok gcN_ok (cuts_by (l := []) (by kernel_rfl) (all_nil)) (fun i => by kernel_rfl)
noncomputable def gam47 (κ : Nat) : Gam T := (gam46 κ).addS 35 sp_strings_Cut (cur _ (strings_Cut κ))
theorem gam47_ok (κ : Nat) (m : Int) : GOk Tryz.prog C (G m) (gam47 κ) := (gam46_ok κ m).addS (ok_strings_Cut κ m)
def sp_words_read := mkS (T := T) [.ptr 0 0, .ifc 74 (.s), .s] kk26 [⟨false, .b, kk26⟩]
theorem sp_words_read_ok : SpecOk sp_words_read := mkS_ok _ _ _
theorem ok_words_read (κ : Nat) (m : Int) : EOk Tryz.prog C (G m) 36 (sp_words_read.entry (cur _ (words_read κ))) :=
 Spec.ok sp_words_read_ok C_ok mixed (gam47_ok κ m) (cut := noCut) (NR := (gcN 1 [0])) (NP := (gcN 1 [0])) (nB := 1) Tryz.func36 (c := (getBody Tryz.f36)) (by kernel_rfl) (by kernel_rfl) (fun i => by kernel_rfl) gcN_ok gcN_ok (cuts_by (l := []) (by kernel_rfl) (all_nil)) (fun i => by kernel_rfl)
noncomputable def gam48 (κ : Nat) : Gam T := (gam47 κ).addS 36 sp_words_read (cur _ (words_read κ))
theorem gam48_ok (κ : Nat) (m : Int) : GOk Tryz.prog C (G m) (gam48 κ) := (gam47_ok κ m).addS (ok_words_read κ m)
def sp_words_read_2 := mkS (T := T) [.ptr 0 0, .ifc 78 (.agg []), .s] kk26 [⟨false, .b, kk26⟩]
theorem sp_words_read_2_ok : SpecOk sp_words_read_2 := mkS_ok _ _ _
theorem ok_words_read_2 (κ : Nat) (m : Int) : EOk Tryz.prog C (G m) 36 (sp_words_read_2.entry (cur _ (words_read_2 κ))) :=
 Spec.ok sp_words_read_2_ok C_ok mixed (gam48_ok κ m) (cut := noCut) (NR := (gcN 1 [0])) (NP := (gcN 1 [0])) (nB := 1) Tryz.func36 (c := (getBody Tryz.f36)) (by kernel_rfl) (by kernel_rfl) (fun i => by kernel_rfl) gcN_ok gcN_ok (cuts_by (l := []) (by kernel_rfl) (all_nil)) (fun i => by kernel_rfl)
noncomputable def gam49 (κ : Nat) : Gam T := (gam48 κ).addS 36 sp_words_read_2 (cur _ (words_read_2 κ))
theorem gam49_ok (κ : Nat) (m : Int) : GOk Tryz.prog C (G m) (gam49 κ) := (gam48_ok κ m).addS (ok_words_read_2 κ m)
def sp_words_read_3 := mkS (T := T) [.ptr 0 0, .ifc 89 (.agg []), .s] kk26 [⟨false, .b, kk26⟩]
theorem sp_words_read_3_ok : SpecOk sp_words_read_3 := mkS_ok _ _ _
theorem ok_words_read_3 (κ : Nat) (m : Int) : EOk Tryz.prog C (G m) 36 (sp_words_read_3.entry (cur _ (words_read_3 κ))) :=
 Spec.ok sp_words_read_3_ok C_ok mixed (gam49_ok κ m) (cut := noCut) (NR := (gcN 1 [0])) (NP := (gcN 1 [0])) (nB := 1) Tryz.func36 (c := (getBody Tryz.f36)) (by kernel_rfl) (by kernel_rfl) (fun i => by kernel_rfl) gcN_ok gcN_ok (cuts_by (l := []) (by kernel_rfl) (all_nil)) (fun i => by kernel_rfl)
noncomputable def gam50 (κ : Nat) : Gam T := (gam49 κ).addS 36 sp_words_read_3 (cur _ (words_read_3 κ))
theorem gam50_ok (κ : Nat) (m : Int) : GOk Tryz.prog C (G m) (gam50 κ) := (gam49_ok κ m).addS (ok_words_read_3 κ m)
def sp_words_read_4 := mkS (T := T) [.ptr 0 0, .ifc 82 (.fn 40 [] []), .s] kk26 [⟨false, .b, kk26⟩]
theorem sp_words_read_4_ok : SpecOk sp_words_read_4 := mkS_ok _ _ _
theorem ok_words_read_4 (κ : Nat) (m : Int) : EOk Tryz.prog C (G m) 36 (sp_words_read_4.entry (cur _ (words_read_4 κ))) :=
 Spec.ok sp_words_read_4_ok C_ok mixed (gam50_ok κ m) (cut := noCut) (NR := (gcN 1 [0])) (NP := (gcN 1 [0])) (nB := 1) Tryz.func36 (c := (getBody Tryz.f36)) (by kernel_rfl) (by kernel_rfl) (fun i => by kernel_rfl) gcN_ok gcN_ok (cuts_by (l := []) (by kernel_rfl) (all_nil)) (fun i => by kernel_rfl)
noncomputable def gam51 (κ : Nat) : Gam T := (gam50 κ).addS 36 sp_words_read_4 (cur _ (words_read_4 κ))
theorem gam51_ok (κ : Nat) (m : Int) : GOk Tryz.prog C (G m) (gam51 κ) := (gam50_ok κ m).addS (ok_words_read_4 κ m)
def sp_words_read_5 := mkS (T := T) [.ptr 0 0, .ifc 82 (.fn 43 [] []), .s] kk26 [⟨false, .b, kk26⟩]
theorem sp_words_read_5_ok : SpecOk sp_words_read_5 := mkS_ok _ _ _
theorem ok_words_read_5 (κ : Nat) (m : Int) : EOk Tryz.prog C (G m) 36 (sp_words_read_5.entry (cur _ (words_read_5 κ))) :=
 Spec.ok sp_words_read_5_ok C_ok mixed (gam51_ok κ m) (cut := noCut) (NR := (gcN 1 [0])) (NP := (gcN 1 [0])) (nB := 1) Tryz.func36 (c := (getBody Tryz.f36)) (by kernel_rfl) (by kernel_rfl) (fun i => by kernel_rfl) gcN_ok gcN_ok (cuts_by (l := []) (by kernel_rfl) (all_nil)) (fun i => by kernel_rfl)
noncomputable def gam52 (κ : Nat) : Gam T := (gam51 κ).addS 36 sp_words_read_5 (cur _ (words_read_5 κ))
theorem gam52_ok (κ : Nat) (m : Int) : GOk Tryz.prog C (G m) (gam52 κ) := (gam51_ok κ m).addS (ok_words_read_5 κ m)
def sp_words_read_6 := mkS (T := T) [.ptr 0 0, .ifc 86 (.agg [.s, .s, .fn 41 [] []]), .s] kk26 [⟨false, .b, kk26⟩]
theorem sp_words_read_6_ok : SpecOk sp_words_read_6 := mkS_ok _ _ _
theorem ok_words_read_6 (κ : Nat) (m : Int) : EOk Tryz.prog C (G m) 36 (sp_words_read_6.entry (cur _ (words_read_6 κ))) :=
 Spec.ok sp_words_read_6_ok C_ok mixed (gam52_ok κ m) (cut := noCut) (NR := (gcN 1 [0])) (NP := (gcN 1 [0])) (nB := 1) Tryz.func36 (c := (getBody Tryz.f36)) (by kernel_rfl) (by kernel_rfl) (fun i => by kernel_rfl) gcN_ok gcN_ok (cuts_by (l := []) (by kernel_rfl) (all_nil)) (fun i => by kernel_rfl)
noncomputable def gam53 (κ : Nat) : Gam T := (gam52 κ).addS 36 sp_words_read_6 (cur _ (words_read_6 κ))
theorem gam53_ok (κ : Nat) (m : Int) : GOk Tryz.prog C (G m) (gam53 κ) := (gam52_ok κ m).addS (ok_words_read_6 κ m)
def sp_words_read_7 := mkS (T := T) [.ptr 0 0, .ifc 68 (.agg []), .s] kk26 [⟨false, .b, kk26⟩]
theorem sp_words_read_7_ok : SpecOk sp_words_read_7 := mkS_ok _ _ _
theorem ok_words_read_7 (κ : Nat) (m : Int) : EOk Tryz.prog C (G m) 36 (sp_words_read_7.entry (cur _ (words_read_7 κ))) :=
 Spec.ok sp_words_read_7_ok C_ok mixed (gam53_ok κ m) (cut := noCut) (NR := (gcN 1 [0])) (NP := (gcN 1 [0])) (nB := 1) Tryz.func36 (c := (getBody Tryz.f36)) (by kernel_rfl) (by kernel_rfl) (fun i => by kernel_rfl) gcN_ok gcN_ok (cuts_by (l := []) (by kernel_rfl) (all_nil)) (fun i => by kernel_rfl)
noncomputable def gam54 (κ : Nat) : Gam T := (gam53 κ).addS 36 sp_words_read_7 (cur _ (words_read_7 κ))
theorem gam54_ok (κ : Nat) (m : Int) : GOk Tryz.prog C (G m) (gam54 κ) := (gam53_ok κ m).addS (ok_words_read_7 κ m)
def sp_words_read_8 := mkS (T := T) [.ptr 0 0, .ifc 79 (.agg []), .s] kk26 [⟨false, .b, [.cells 26 none [.i .i64, .i .i64, .own 1, .s, .i .u64, .b, .b, .s, .i .u64, .i .u64, .sl 5], .row 55 true]⟩]
theorem sp_words_read_8_ok : SpecOk sp_words_read_8 := mkS_ok _ _ _
theorem ok_words_read_8 (κ : Nat) (m : Int) : EOk Tryz.prog C (G m) 36 (sp_words_read_8.entry (cur _ (words_read_8 κ))) :=
 Spec.ok sp_words_read_8_ok C_ok mixed (gam54_ok κ m) (cut := noCut) (NR := (gcN 1 [0])) (NP := (gcN 1 [0])) (nB := 1) Tryz.func36 (c := (getBody Tryz.f36)) (by kernel_rfl) (by kernel_rfl) (fun i => by kernel_rfl) gcN_ok gcN_ok (cuts_by (l := []) (by kernel_rfl) (all_nil)) (fun i => by kernel_rfl)
noncomputable def gam55 (κ : Nat) : Gam T := (gam54 κ).addS 36 sp_words_read_8 (cur _ (words_read_8 κ))
theorem gam55_ok (κ : Nat) (m : Int) : GOk Tryz.prog C (G m) (gam55 κ) := (gam54_ok κ m).addS (ok_words_read_8 κ m)
def sp_words_read_9 := mkS (T := T) [.ptr 0 0, .ifc 82 (.fn 44 [] []), .s] kk26 [⟨false, .b, kk26⟩]
theorem sp_words_read_9_ok : SpecOk sp_words_read_9 := mkS_ok _ _ _
theorem ok_words_read_9 (κ : Nat) (m : Int) : EOk Tryz.prog C (G m) 36 (sp_words_read_9.entry (cur _ (words_read_9 κ))) :=
 Spec.ok sp_words_read_9_ok C_ok mixed (gam55_ok κ m) (cut := noCut) (NR := (gcN 1 [0])) (NP := (gcN 1 [0])) (nB := 1) Tryz.func36 (c := (getBody Tryz.f36)) (by kernel_rfl) (by kernel_rfl) (fun i => by kernel_rfl) gcN_ok gcN_ok (cuts_by (l := []) (by kernel_rfl) (all_nil)) (fun i => by kernel_rfl)
noncomputable def gam56 (κ : Nat) : Gam T := (gam55 κ).addS 36 sp_words_read_9 (cur _ (words_read_9 κ))
theorem gam56_ok (κ : Nat) (m : Int) : GOk Tryz.prog C (G m) (gam56 κ) := (gam55_ok κ m).addS (ok_words_read_9 κ m)
def p_words_unhex_5 := mkP (T := T) [⟨[(0, .s), (4, .own 0), (5, .i .i64), (6, .i .i64), (7, .i .i64)], [.row 5 true], []⟩] [⟨.normal, ⟨[(0, .s), (4, .own 0), (5, .i .i64), (6, .i .i64), (7, .i .i64), (32, .b)], [.row 5 true], []⟩⟩]
theorem p_words_unhex_5_ok : PieceOk p_words_unhex_5 := mkP_ok _ _
theorem p_words_unhex_5_ct (κ : Nat) (m : Int) : CutOk Tryz.prog C (G m) Tryz.f56.ntmps 0 (pieceOf (.reg 8) (getBody Tryz.f56)) (p_words_unhex_5.cut (gcN 0 [0, 4, 5, 6, 7]) (cur _ (words_unhex.v5 κ))) :=
 Piece.join p_words_unhex_5_ok C_ok mixed (gam56_ok κ m) gcN_ok xx16_ok (cut := noCut) (X := xx16) (cuts_by (l := []) (by kernel_rfl) (all_nil)) (fun s => by kernel_rfl)
def cc_words_unhex_6 (κ : Nat) : Cut T := p_words_unhex_5.cut (gcN 0 [0, 4, 5, 6, 7]) (cur _ (words_unhex.v5 κ))
theorem cc_words_unhex_6_ok (κ : Nat) (m : Int) : CutOk Tryz.prog C (G m) Tryz.f56.ntmps 0 (pieceOf (.reg 8) (getBody Tryz.f56)) (cc_words_unhex_6 κ) := p_words_unhex_5_ct κ m
def ct_words_unhex_6 (κ : Nat) : Key → Option (Cut T) := addCut noCut (.reg 8) (cc_words_unhex_6 κ)
def p_words_unhex_4 := mkP (T := T) [⟨[(0, .s), (4, .own 0), (5, .i .i64)], [.row 5 true], []⟩] [⟨.normal, ⟨[(4, .own 0)], [.row 5 true], []⟩⟩, ⟨.ret, ⟨[(2, .cap0), (3, .b)], [], []⟩⟩]
theorem p_words_unhex_4_ok : PieceOk p_words_unhex_4 := mkP_ok _ _
theorem p_words_unhex_4_ct (κ : Nat) (m : Int) : CutOk Tryz.prog C (G m) Tryz.f56.ntmps 0 (pieceOf (.blk 0) (getBody Tryz.f56)) (p_words_unhex_4.cut nn3 (words_unhex.l4 κ κ)) :=
 Piece.loop p_words_unhex_4_ok C_ok mixed (gam56_ok κ m) nn3_ok xx17_ok (cut := (ct_words_unhex_6 κ)) (X := xx17) (id := 0) (body := bodyOf (pieceOf (.blk 0) (getBody Tryz.f56))) (cuts_by (l := [(pieceOf (.reg 8) (getBody Tryz.f56), cc_words_unhex_6 κ)]) (by kernel_rfl) (all_cons (cc_words_unhex_6_ok κ m) (all_nil))) (f := words_unhex.l4 κ) (fun s => by kernel_rfl) (fun k s => by kernel_rfl) κ
def cc_words_unhex_7 (κ : Nat) : Cut T := p_words_unhex_4.cut nn3 (words_unhex.l4 κ κ)
theorem cc_words_unhex_7_ok (κ : Nat) (m : Int) : CutOk Tryz.prog C (G m) Tryz.f56.ntmps 0 (pieceOf (.blk 0) (getBody Tryz.f56)) (cc_words_unhex_7 κ) := p_words_unhex_4_ct κ m
def ct_words_unhex_7 (κ : Nat) : Key → Option (Cut T) := addCut noCut (.blk 0) (cc_words_unhex_7 κ)
def sp_words_unhex := mkS (T := T) [.s] [] [⟨false, .tup [.own 0, .b], [.row 5 true]⟩]
theorem sp_words_unhex_ok : SpecOk sp_words_unhex := mkS_ok _ _ _
theorem ok_words_unhex (κ : Nat) (m : Int) : EOk Tryz.prog C (G m) 56 (sp_words_unhex.entry (fun a0 => words_unhex κ a0)) :=
 Spec.ok sp_words_unhex_ok C_ok mixed (gam56_ok κ m) (cut := (ct_words_unhex_7 κ)) (NR := (andN (promS 0 [0] 5) (gcN 0 [0]))) (NP := (gcN 0 [0])) (nB := 0) Tryz.func56 (c := (getBody Tryz.f56)) (by kernel_rfl) (by kernel_rfl) (fun i => by kernel_rfl) (andN_ok promS_ok gcN_ok) gcN_ok (cuts_by (l := [(pieceOf (.blk 0) (getBody Tryz.f56), cc_words_unhex_7 κ)]) (by kernel_rfl) (all_cons (cc_words_unhex_7_ok κ m) (all_nil))) (fun i => by kernel_rfl)
noncomputable def gam57 (κ : Nat) : Gam T := (gam56 κ).addS 56 sp_words_unhex (fun a0 => words_unhex κ a0)
theorem gam57_ok (κ : Nat) (m : Int) : GOk Tryz.prog C (G m) (gam57 κ) := (gam56_ok κ m).addS (ok_words_unhex κ m)
def sp_words_read_10 := mkS (T := T) [.ptr 0 0, .ifc 88 (.agg []), .s] kk26 [⟨false, .b, [.cells 26 none [.i .i64, .i .i64, .sl 55, .s, .i .u64, .b, .b, .s, .i .u64, .i .u64, .own 1], .row 5 true]⟩]
theorem sp_words_read_10_ok : SpecOk sp_words_read_10 := mkS_ok _ _ _
theorem ok_words_read_10 (κ : Nat) (m : Int) : EOk Tryz.prog C (G m) 36 (sp_words_read_10.entry (cur _ (words_read_10 κ))) :=
 Spec.ok sp_words_read_10_ok C_ok mixed (gam57_ok κ m) (cut := noCut) (NR := (gcN 1 [0])) (NP := (gcN 1 [0])) (nB := 1) Tryz.func36 (c := (getBody Tryz.f36)) (by kernel_rfl) (by kernel_rfl) (fun i => by kernel_rfl) gcN_ok gcN_ok (cuts_by (l := []) (by kernel_rfl) (all_nil)) (fun i => by kernel_rfl)
noncomputable def gam58 (κ : Nat) : Gam T := (gam57 κ).addS 36 sp_words_read_10 (cur _ (words_read_10 κ))
theorem gam58_ok (κ : Nat) (m : Int) : GOk Tryz.prog C (G m) (gam58 κ) := (gam57_ok κ m).addS (ok_words_read_10 κ m)
def sp_words_read_11 := mkS (T := T) [.ptr 0 0, .ifc 87 (.agg []), .s] kk26 [⟨false, .b, [.cells 26 none [.i .i64, .i .i64, .sl 55, .s, .i .u64, .b, .b, .s, .i .u64, .i .u64, .own 1], .row 5 true]⟩]
theorem sp_words_read_11_ok : SpecOk sp_words_read_11 := mkS_ok _ _ _
theorem ok_words_read_11 (κ : Nat) (m : Int) : EOk Tryz.prog C (G m) 36 (sp_words_read_11.entry (cur _ (words_read_11 κ))) :=
 Spec.ok sp_words_read_11_ok C_ok mixed (gam58_ok κ m) (cut := noCut) (NR := (gcN 1 [0])) (NP := (gcN 1 [0])) (nB := 1) Tryz.func36 (c := (getBody Tryz.f36)) (by kernel_rfl) (by kernel_rfl) (fun i => by kernel_rfl) gcN_ok gcN_ok (cuts_by (l := []) (by kernel_rfl) (all_nil)) (fun i => by kernel_rfl)
noncomputable def gam59 (κ : Nat) : Gam T := (gam58 κ).addS 36 sp_words_read_11 (cur _ (words_read_11 κ))
theorem gam59_ok (κ : Nat) (m : Int) : GOk Tryz.prog C (G m) (gam59 κ) := (gam58_ok κ m).addS (ok_words_read_11 κ m)
def sp_words_read_12 := mkS (T := T) [.ptr 0 0, .ifc 86 (.agg [.s, .s, .fn 42 [] []]), .s] kk26 [⟨false, .b, kk26⟩]
theorem sp_words_read_12_ok : SpecOk sp_words_read_12 := mkS_ok _ _ _
theorem ok_words_read_12 (κ : Nat) (m : Int) : EOk Tryz.prog C (G m) 36 (sp_words_read_12.entry (cur _ (words_read_12 κ))) :=
 Spec.ok sp_words_read_12_ok C_ok mixed (gam59_ok κ m) (cut := noCut) (NR := (gcN 1 [0])) (NP := (gcN 1 [0])) (nB := 1) Tryz.func36 (c := (getBody Tryz.f36)) (by kernel_rfl) (by kernel_rfl) (fun i => by kernel_rfl) gcN_ok gcN_ok (cuts_by (l := []) (by kernel_rfl) (all_nil)) (fun i => by kernel_rfl)
noncomputable def gam60 (κ : Nat) : Gam T := (gam59 κ).addS 36 sp_words_read_12 (cur _ (words_read_12 κ))
theorem gam60_ok (κ : Nat) (m : Int) : GOk Tryz.prog C (G m) (gam60 κ) := (gam59_ok κ m).addS (ok_words_read_12 κ m)
def sp_words_read_13 := mkS (T := T) [.ptr 0 0, .ifc 80 (.agg []), .s] kk26 [⟨false, .b, kk26⟩]
theorem sp_words_read_13_ok : SpecOk sp_words_read_13 := mkS_ok _ _ _
theorem ok_words_read_13 (κ : Nat) (m : Int) : EOk Tryz.prog C (G m) 36 (sp_words_read_13.entry (cur _ (words_read_13 κ))) :=
 Spec.ok sp_words_read_13_ok C_ok mixed (gam60_ok κ m) (cut := noCut) (NR := (gcN 1 [0])) (NP := (gcN 1 [0])) (nB := 1) Tryz.func36 (c := (getBody Tryz.f36)) (by kernel_rfl) (by kernel_rfl) (fun i => by kernel_rfl) gcN_ok gcN_ok (cuts_by (l := []) (by kernel_rfl) (all_nil)) (fun i => by kernel_rfl)
noncomputable def gam61 (κ : Nat) : Gam T := (gam60 κ).addS 36 sp_words_read_13 (cur _ (words_read_13 κ))
theorem gam61_ok (κ : Nat) (m : Int) : GOk Tryz.prog C (G m) (gam61 κ) := (gam60_ok κ m).addS (ok_words_read_13 κ m)
def p_words_parse_0 := mkP (T := T) [⟨[(0, .i .i64), (1, .s), (4, .ptr 0 0), (6, .ptr 1 0), (7, .cap0), (21, .cap0), (22, .lit .i64 0), (23, .lit .i64 0)], kk38, []⟩] [⟨(.exit 0), ⟨[(4, .ptr 0 0), (6, .ptr 1 0)], kk38, []⟩⟩]
theorem p_words_parse_0_ok : PieceOk p_words_parse_0 := mkP_ok _ _
theorem p_words_parse_0_ct (κ : Nat) (m : Int) : CutOk Tryz.prog C (G m) Tryz.f18.ntmps 0 (bodyOf (pieceOf (.blk 0) (getBody Tryz.f18))) (p_words_parse_0.cut nn4 (cur _ (words_parse.v0 κ))) :=
 Piece.join p_words_parse_0_ok C_ok mixed (gam45_ok κ m) nn4_ok xx18_ok (cut := noCut) (X := xx18) (cuts_by (l := []) (by kernel_rfl) (all_nil)) (fun s => by kernel_rfl)
def p_words_parse_1 := mkP (T := T) [⟨[(0, .i .i64), (1, .s), (4, .ptr 0 0), (6, .ptr 1 0), (7, .slc 2 0 2 2), (21, .slc 2 0 2 2), (22, .lit .i64 2), (23, .lit .i64 0)], kk43, []⟩] [⟨.normal, ⟨[(0, .i .i64), (1, .s), (4, .ptr 0 0), (6, .ptr 1 0), (7, .slc 2 0 2 2), (21, .slc 2 0 2 2), (22, .lit .i64 2), (23, .lit .i64 1)], kk43, []⟩⟩, ⟨.ret, ⟨[(4, .ptr 0 0), (5, .b)], kk25, []⟩⟩, ⟨(.exit 0), ⟨[(4, .ptr 0 0), (6, .ptr 1 0)], kk38, []⟩⟩]
theorem p_words_parse_1_ok : PieceOk p_words_parse_1 := mkP_ok _ _
theorem p_words_parse_1_ct (κ : Nat) (m : Int) : CutOk Tryz.prog C (G m) Tryz.f18.ntmps 0 (bodyOf (pieceOf (.blk 0) (getBody Tryz.f18))) (p_words_parse_1.cut nn4 (cur _ (words_parse.v1 κ))) :=
 Piece.join p_words_parse_1_ok C_ok mixed (gam48_ok κ m) nn4_ok xx18_ok (cut := noCut) (X := xx18) (cuts_by (l := []) (by kernel_rfl) (all_nil)) (fun s => by kernel_rfl)
def p_words_parse_2 := mkP (T := T) [⟨[(0, .i .i64), (1, .s), (4, .ptr 0 0), (6, .ptr 1 0), (7, .slc 2 0 2 2), (21, .slc 2 0 2 2), (22, .lit .i64 2), (23, .lit .i64 0)], kk45, []⟩] [⟨.normal, ⟨[(0, .i .i64), (1, .s), (4, .ptr 0 0), (6, .ptr 1 0), (7, .slc 2 0 2 2), (21, .slc 2 0 2 2), (22, .lit .i64 2), (23, .lit .i64 1)], kk45, []⟩⟩, ⟨.ret, ⟨[(4, .ptr 0 0), (5, .b)], kk25, []⟩⟩, ⟨(.exit 0), ⟨[(4, .ptr 0 0), (6, .ptr 1 0)], kk38, []⟩⟩]
theorem p_words_parse_2_ok : PieceOk p_words_parse_2 := mkP_ok _ _
theorem p_words_parse_2_ct (κ : Nat) (m : Int) : CutOk Tryz.prog C (G m) Tryz.f18.ntmps 0 (bodyOf (pieceOf (.blk 0) (getBody Tryz.f18))) (p_words_parse_2.cut nn4 (cur _ (words_parse.v2 κ))) :=
 Piece.join p_words_parse_2_ok C_ok mixed (gam48_ok κ m) nn4_ok xx18_ok (cut := noCut) (X := xx18) (cuts_by (l := []) (by kernel_rfl) (all_nil)) (fun s => by kernel_rfl)
def p_words_parse_3 := mkP (T := T) [⟨[(0, .i .i64), (1, .s), (4, .ptr 0 0), (6, .ptr 1 0), (7, .slc 2 0 4 4), (21, .slc 2 0 4 4), (22, .lit .i64 4), (23, .lit .i64 0)], kk55, []⟩] [⟨.normal, ⟨[(0, .i .i64), (1, .s), (4, .ptr 0 0), (6, .ptr 1 0), (7, .slc 2 0 4 4), (21, .slc 2 0 4 4), (22, .lit .i64 4), (23, .lit .i64 1)], kk55, []⟩⟩, ⟨.ret, ⟨[(4, .ptr 0 0), (5, .b)], kk25, []⟩⟩]
theorem p_words_parse_3_ok : PieceOk p_words_parse_3 := mkP_ok _ _
theorem p_words_parse_3_ct (κ : Nat) (m : Int) : CutOk Tryz.prog C (G m) Tryz.f18.ntmps 0 (bodyOf (pieceOf (.blk 0) (getBody Tryz.f18))) (p_words_parse_3.cut nn4 (cur _ (words_parse.v3 κ))) :=
 Piece.join p_words_parse_3_ok C_ok mixed (gam48_ok κ m) nn4_ok xx18_ok (cut := noCut) (X := xx18) (cuts_by (l := []) (by kernel_rfl) (all_nil)) (fun s => by kernel_rfl)
def p_words_parse_4 := mkP (T := T) [⟨[(0, .i .i64), (1, .s), (4, .ptr 0 0), (6, .ptr 1 0), (7, .slc 2 0 4 4), (21, .slc 2 0 4 4), (22, .lit .i64 4), (23, .lit .i64 0)], kk52, []⟩] [⟨.normal, ⟨[(0, .i .i64), (1, .s), (4, .ptr 0 0), (6, .ptr 1 0), (7, .slc 2 0 4 4), (21, .slc 2 0 4 4), (22, .lit .i64 4), (23, .lit .i64 1)], kk52, []⟩⟩, ⟨.ret, ⟨[(4, .ptr 0 0), (5, .b)], kk25, []⟩⟩]
theorem p_words_parse_4_ok : PieceOk p_words_parse_4 := mkP_ok _ _
theorem p_words_parse_4_ct (κ : Nat) (m : Int) : CutOk Tryz.prog C (G m) Tryz.f18.ntmps 0 (bodyOf (pieceOf (.blk 0) (getBody Tryz.f18))) (p_words_parse_4.cut nn4 (cur _ (words_parse.v4 κ))) :=
 Piece.join p_words_parse_4_ok C_ok mixed (gam49_ok κ m) nn4_ok xx18_ok (cut := noCut) (X := xx18) (cuts_by (l := []) (by kernel_rfl) (all_nil)) (fun s => by kernel_rfl)
def p_words_parse_5 := mkP (T := T) [⟨[(0, .i .i64), (1, .s), (4, .ptr 0 0), (6, .ptr 1 0), (7, .slc 2 0 4 4), (21, .slc 2 0 4 4), (22, .lit .i64 4), (23, .lit .i64 0)], kk53, []⟩] [⟨.normal, ⟨[(0, .i .i64), (1, .s), (4, .ptr 0 0), (6, .ptr 1 0), (7, .slc 2 0 4 4), (21, .slc 2 0 4 4), (22, .lit .i64 4), (23, .lit .i64 1)], kk53, []⟩⟩, ⟨.ret, ⟨[(4, .ptr 0 0), (5, .b)], kk25, []⟩⟩]
theorem p_words_parse_5_ok : PieceOk p_words_parse_5 := mkP_ok _ _
theorem p_words_parse_5_ct (κ : Nat) (m : Int) : CutOk Tryz.prog C (G m) Tryz.f18.ntmps 0 (bodyOf (pieceOf (.blk 0) (getBody Tryz.f18))) (p_words_parse_5.cut nn4 (cur _ (words_parse.v5 κ))) :=
 Piece.join p_words_parse_5_ok C_ok mixed (gam49_ok κ m) nn4_ok xx18_ok (cut := noCut) (X := xx18) (cuts_by (l := []) (by kernel_rfl) (all_nil)) (fun s => by kernel_rfl)
def p_words_parse_6 := mkP (T := T) [⟨[(0, .i .i64), (1, .s), (4, .ptr 0 0), (6, .ptr 1 0), (7, .slc 2 0 5 5), (21, .slc 2 0 5 5), (22, .lit .i64 5), (23, .lit .i64 0)], kk56, []⟩] [⟨.normal, ⟨[(0, .i .i64), (1, .s), (4, .ptr 0 0), (6, .ptr 1 0), (7, .slc 2 0 5 5), (21, .slc 2 0 5 5), (22, .lit .i64 5), (23, .lit .i64 1)], kk56, []⟩⟩, ⟨.ret, ⟨[(4, .ptr 0 0), (5, .b)], kk25, []⟩⟩]
theorem p_words_parse_6_ok : PieceOk p_words_parse_6 := mkP_ok _ _
theorem p_words_parse_6_ct (κ : Nat) (m : Int) : CutOk Tryz.prog C (G m) Tryz.f18.ntmps 0 (bodyOf (pieceOf (.blk 0) (getBody Tryz.f18))) (p_words_parse_6.cut nn4 (cur _ (words_parse.v6 κ))) :=
 Piece.join p_words_parse_6_ok C_ok mixed (gam49_ok κ m) nn4_ok xx18_ok (cut := noCut) (X := xx18) (cuts_by (l := []) (by kernel_rfl) (all_nil)) (fun s => by kernel_rfl)
def p_words_parse_7 := mkP (T := T) [⟨[(0, .i .i64), (1, .s), (4, .ptr 0 0), (6, .ptr 1 0), (7, .slc 2 0 3 3), (21, .slc 2 0 3 3), (22, .lit .i64 3), (23, .lit .i64 0)], kk49, []⟩] [⟨.normal, ⟨[(0, .i .i64), (1, .s), (4, .ptr 0 0), (6, .ptr 1 0), (7, .slc 2 0 3 3), (21, .slc 2 0 3 3), (22, .lit .i64 3), (23, .lit .i64 1)], kk49, []⟩⟩, ⟨.ret, ⟨[(4, .ptr 0 0), (5, .b)], kk25, []⟩⟩]
theorem p_words_parse_7_ok : PieceOk p_words_parse_7 := mkP_ok _ _
theorem p_words_parse_7_ct (κ : Nat) (m : Int) : CutOk Tryz.prog C (G m) Tryz.f18.ntmps 0 (bodyOf (pieceOf (.blk 0) (getBody Tryz.f18))) (p_words_parse_7.cut nn4 (cur _ (words_parse.v7 κ))) :=
 Piece.join p_words_parse_7_ok C_ok mixed (gam49_ok κ m) nn4_ok xx18_ok (cut := noCut) (X := xx18) (cuts_by (l := []) (by kernel_rfl) (all_nil)) (fun s => by kernel_rfl)
def p_words_parse_8 := mkP (T := T) [⟨[(0, .i .i64), (1, .s), (4, .ptr 0 0), (6, .ptr 1 0), (7, .slc 2 0 3 3), (21, .slc 2 0 3 3), (22, .lit .i64 3), (23, .lit .i64 0)], kk46, []⟩] [⟨.normal, ⟨[(0, .i .i64), (1, .s), (4, .ptr 0 0), (6, .ptr 1 0), (7, .slc 2 0 3 3), (21, .slc 2 0 3 3), (22, .lit .i64 3), (23, .lit .i64 1)], kk46, []⟩⟩, ⟨.ret, ⟨[(4, .ptr 0 0), (5, .b)], kk25, []⟩⟩]
theorem p_words_parse_8_ok : PieceOk p_words_parse_8 := mkP_ok _ _
theorem p_words_parse_8_ct (κ : Nat) (m : Int) : CutOk Tryz.prog C (G m) Tryz.f18.ntmps 0 (bodyOf (pieceOf (.blk 0) (getBody Tryz.f18))) (p_words_parse_8.cut nn4 (cur _ (words_parse.v8 κ))) :=
 Piece.join p_words_parse_8_ok C_ok mixed (gam49_ok κ m) nn4_ok xx18_ok (cut := noCut) (X := xx18) (cuts_by (l := []) (by kernel_rfl) (all_nil)) (fun s => by kernel_rfl)
def p_words_parse_9 := mkP (T := T) [⟨[(0, .i .i64), (1, .s), (4, .ptr 0 0), (6, .ptr 1 0), (7, .slc 2 0 3 3), (21, .slc 2 0 3 3), (22, .lit .i64 3), (23, .lit .i64 0)], kk47, []⟩] [⟨.normal, ⟨[(0, .i .i64), (1, .s), (4, .ptr 0 0), (6, .ptr 1 0), (7, .slc 2 0 3 3), (21, .slc 2 0 3 3), (22, .lit .i64 3), (23, .lit .i64 1)], kk47, []⟩⟩, ⟨.ret, ⟨[(4, .ptr 0 0), (5, .b)], kk25, []⟩⟩]
theorem p_words_parse_9_ok : PieceOk p_words_parse_9 := mkP_ok _ _
theorem p_words_parse_9_ct (κ : Nat) (m : Int) : CutOk Tryz.prog C (G m) Tryz.f18.ntmps 0 (bodyOf (pieceOf (.blk 0) (getBody Tryz.f18))) (p_words_parse_9.cut nn4 (cur _ (words_parse.v9 κ))) :=
 Piece.join p_words_parse_9_ok C_ok mixed (gam49_ok κ m) nn4_ok xx18_ok (cut := noCut) (X := xx18) (cuts_by (l := []) (by kernel_rfl) (all_nil)) (fun s => by kernel_rfl)
def p_words_parse_10 := mkP (T := T) [⟨[(0, .i .i64), (1, .s), (4, .ptr 0 0), (6, .ptr 1 0), (7, .slc 2 0 4 4), (21, .slc 2 0 4 4), (22, .lit .i64 4), (23, .lit .i64 0)], kk54, []⟩] [⟨.normal, ⟨[(0, .i .i64), (1, .s), (4, .ptr 0 0), (6, .ptr 1 0), (7, .slc 2 0 4 4), (21, .slc 2 0 4 4), (22, .lit .i64 4), (23, .lit .i64 1)], kk54, []⟩⟩, ⟨.ret, ⟨[(4, .ptr 0 0), (5, .b)], kk25, []⟩⟩]
theorem p_words_parse_10_ok : PieceOk p_words_parse_10 := mkP_ok _ _
theorem p_words_parse_10_ct (κ : Nat) (m : Int) : CutOk Tryz.prog C (G m) Tryz.f18.ntmps 0 (bodyOf (pieceOf (.blk 0) (getBody Tryz.f18))) (p_words_parse_10.cut nn4 (cur _ (words_parse.v10 κ))) :=
 Piece.join p_words_parse_10_ok C_ok mixed (gam49_ok κ m) nn4_ok xx18_ok (cut := noCut) (X := xx18) (cuts_by (l := []) (by kernel_rfl) (all_nil)) (fun s => by kernel_rfl)
def p_words_parse_11 := mkP (T := T) [⟨[(0, .i .i64), (1, .s), (4, .ptr 0 0), (6, .ptr 1 0), (7, .slc 2 0 2 2), (21, .slc 2 0 2 2), (22, .lit .i64 2), (23, .lit .i64 0)], kk44, []⟩] [⟨.normal, ⟨[(0, .i .i64), (1, .s), (4, .ptr 0 0), (6, .ptr 1 0), (7, .slc 2 0 2 2), (21, .slc 2 0 2 2), (22, .lit .i64 2), (23, .lit .i64 1)], kk44, []⟩⟩, ⟨.ret, ⟨[(4, .ptr 0 0), (5, .b)], kk25, []⟩⟩]
theorem p_words_parse_11_ok : PieceOk p_words_parse_11 := mkP_ok _ _
theorem p_words_parse_11_ct (κ : Nat) (m : Int) : CutOk Tryz.prog C (G m) Tryz.f18.ntmps 0 (bodyOf (pieceOf (.blk 0) (getBody Tryz.f18))) (p_words_parse_11.cut nn4 (cur _ (words_parse.v11 κ))) :=
 Piece.join p_words_parse_11_ok C_ok mixed (gam49_ok κ m) nn4_ok xx18_ok (cut := noCut) (X := xx18) (cuts_by (l := []) (by kernel_rfl) (all_nil)) (fun s => by kernel_rfl)
def p_words_parse_12 := mkP (T := T) [⟨[(0, .i .i64), (1, .s), (4, .ptr 0 0), (6, .ptr 1 0), (7, .slc 2 0 2 2), (21, .slc 2 0 2 2), (22, .lit .i64 2), (23, .lit .i64 1)], kk43, []⟩] [⟨.normal, ⟨[(0, .i .i64), (1, .s), (4, .ptr 0 0), (6, .ptr 1 0), (7, .slc 2 0 2 2), (21, .slc 2 0 2 2), (22, .lit .i64 2), (23, .lit .i64 2)], kk43, []⟩⟩]
theorem p_words_parse_12_ok : PieceOk p_words_parse_12 := mkP_ok _ _
theorem p_words_parse_12_ct (κ : Nat) (m : Int) : CutOk Tryz.prog C (G m) Tryz.f18.ntmps 0 (bodyOf (pieceOf (.blk 0) (getBody Tryz.f18))) (p_words_parse_12.cut nn4 (cur _ (words_parse.v12 κ))) :=
 Piece.join p_words_parse_12_ok C_ok mixed (gam50_ok κ m) nn4_ok xx18_ok (cut := noCut) (X := xx18) (cuts_by (l := []) (by kernel_rfl) (all_nil)) (fun s => by kernel_rfl)
def p_words_parse_13 := mkP (T := T) [⟨[(0, .i .i64), (1, .s), (4, .ptr 0 0), (6, .ptr 1 0), (7, .slc 2 0 2 2), (21, .slc 2 0 2 2), (22, .lit .i64 2), (23, .lit .i64 1)], kk45, []⟩] [⟨.normal, ⟨[(0, .i .i64), (1, .s), (4, .ptr 0 0), (6, .ptr 1 0), (7, .slc 2 0 2 2), (21, .slc 2 0 2 2), (22, .lit .i64 2), (23, .lit .i64 2)], kk45, []⟩⟩, ⟨.ret, ⟨[(4, .ptr 0 0), (5, .b)], kk25, []⟩⟩]
theorem p_words_parse_13_ok : PieceOk p_words_parse_13 := mkP_ok _ _
theorem p_words_parse_13_ct (κ : Nat) (m : Int) : CutOk Tryz.prog C (G m) Tryz.f18.ntmps 0 (bodyOf (pieceOf (.blk 0) (getBody Tryz.f18))) (p_words_parse_13.cut nn4 (cur _ (words_parse.v13 κ))) :=
 Piece.join p_words_parse_13_ok C_ok mixed (gam51_ok κ m) nn4_ok xx18_ok (cut := noCut) (X := xx18) (cuts_by (l := []) (by kernel_rfl) (all_nil)) (fun s => by kernel_rfl)
def p_words_parse_14 := mkP (T := T) [⟨[(0, .i .i64), (1, .s), (4, .ptr 0 0), (6, .ptr 1 0), (7, .slc 2 0 4 4), (21, .slc 2 0 4 4), (22, .lit .i64 4), (23, .lit .i64 1)], kk55, []⟩] [⟨.normal, ⟨[(0, .i .i64), (1, .s), (4, .ptr 0 0), (6, .ptr 1 0), (7, .slc 2 0 4 4), (21, .slc 2 0 4 4), (22, .lit .i64 4), (23, .lit .i64 2)], kk55, []⟩⟩, ⟨.ret, ⟨[(4, .ptr 0 0), (5, .b)], kk25, []⟩⟩]
theorem p_words_parse_14_ok : PieceOk p_words_parse_14 := mkP_ok _ _
theorem p_words_parse_14_ct (κ : Nat) (m : Int) : CutOk Tryz.prog C (G m) Tryz.f18.ntmps 0 (bodyOf (pieceOf (.blk 0) (getBody Tryz.f18))) (p_words_parse_14.cut nn4 (cur _ (words_parse.v14 κ))) :=
 Piece.join p_words_parse_14_ok C_ok mixed (gam51_ok κ m) nn4_ok xx18_ok (cut := noCut) (X := xx18) (cuts_by (l := []) (by kernel_rfl) (all_nil)) (fun s => by kernel_rfl)
def p_words_parse_15 := mkP (T := T) [⟨[(0, .i .i64), (1, .s), (4, .ptr 0 0), (6, .ptr 1 0), (7, .slc 2 0 4 4), (21, .slc 2 0 4 4), (22, .lit .i64 4), (23, .lit .i64 1)], kk52, []⟩] [⟨.normal, ⟨[(0, .i .i64), (1, .s), (4, .ptr 0 0), (6, .ptr 1 0), (7, .slc 2 0 4 4), (21, .slc 2 0 4 4), (22, .lit .i64 4), (23, .lit .i64 2)], kk52, []⟩⟩, ⟨.ret, ⟨[(4, .ptr 0 0), (5, .b)], kk25, []⟩⟩]
theorem p_words_parse_15_ok : PieceOk p_words_parse_15 := mkP_ok _ _
theorem p_words_parse_15_ct (κ : Nat) (m : Int) : CutOk Tryz.prog C (G m) Tryz.f18.ntmps 0 (bodyOf (pieceOf (.blk 0) (getBody Tryz.f18))) (p_words_parse_15.cut nn4 (cur _ (words_parse.v15 κ))) :=
 Piece.join p_words_parse_15_ok C_ok mixed (gam51_ok κ m) nn4_ok xx18_ok (cut := noCut) (X := xx18) (cuts_by (l := []) (by kernel_rfl) (all_nil)) (fun s => by kernel_rfl)
def p_words_parse_16 := mkP (T := T) [⟨[(0, .i .i64), (1, .s), (4, .ptr 0 0), (6, .ptr 1 0), (7, .slc 2 0 4 4), (21, .slc 2 0 4 4), (22, .lit .i64 4), (23, .lit .i64 1)], kk53, []⟩] [⟨.normal, ⟨[(0, .i .i64), (1, .s), (4, .ptr 0 0), (6, .ptr 1 0), (7, .slc 2 0 4 4), (21, .slc 2 0 4 4), (22, .lit .i64 4), (23, .lit .i64 2)], kk53, []⟩⟩, ⟨.ret, ⟨[(4, .ptr 0 0), (5, .b)], kk25, []⟩⟩]
theorem p_words_parse_16_ok : PieceOk p_words_parse_16 := mkP_ok _ _
theorem p_words_parse_16_ct (κ : Nat) (m : Int) : CutOk Tryz.prog C (G m) Tryz.f18.ntmps 0 (bodyOf (pieceOf (.blk 0) (getBody Tryz.f18))) (p_words_parse_16.cut nn4 (cur _ (words_parse.v16 κ))) :=
 Piece.join p_words_parse_16_ok C_ok mixed (gam51_ok κ m) nn4_ok xx18_ok (cut := noCut) (X := xx18) (cuts_by (l := []) (by kernel_rfl) (all_nil)) (fun s => by kernel_rfl)
def p_words_parse_17 := mkP (T := T) [⟨[(0, .i .i64), (1, .s), (4, .ptr 0 0), (6, .ptr 1 0), (7, .slc 2 0 5 5), (21, .slc 2 0 5 5), (22, .lit .i64 5), (23, .lit .i64 1)], kk56, []⟩] [⟨.normal, ⟨[(0, .i .i64), (1, .s), (4, .ptr 0 0), (6, .ptr 1 0), (7, .slc 2 0 5 5), (21, .slc 2 0 5 5), (22, .lit .i64 5), (23, .lit .i64 2)], kk56, []⟩⟩, ⟨.ret, ⟨[(4, .ptr 0 0), (5, .b)], kk25, []⟩⟩]
theorem p_words_parse_17_ok : PieceOk p_words_parse_17 := mkP_ok _ _
theorem p_words_parse_17_ct (κ : Nat) (m : Int) : CutOk Tryz.prog C (G m) Tryz.f18.ntmps 0 (bodyOf (pieceOf (.blk 0) (getBody Tryz.f18))) (p_words_parse_17.cut nn4 (cur _ (words_parse.v17 κ))) :=
 Piece.join p_words_parse_17_ok C_ok mixed (gam51_ok κ m) nn4_ok xx18_ok (cut := noCut) (X := xx18) (cuts_by (l := []) (by kernel_rfl) (all_nil)) (fun s => by kernel_rfl)
def p_words_parse_18 := mkP (T := T) [⟨[(0, .i .i64), (1, .s), (4, .ptr 0 0), (6, .ptr 1 0), (7, .slc 2 0 3 3), (21, .slc 2 0 3 3), (22, .lit .i64 3), (23, .lit .i64 1)], kk49, []⟩] [⟨.normal, ⟨[(0, .i .i64), (1, .s), (4, .ptr 0 0), (6, .ptr 1 0), (7, .slc 2 0 3 3), (21, .slc 2 0 3 3), (22, .lit .i64 3), (23, .lit .i64 2)], kk49, []⟩⟩, ⟨.ret, ⟨[(4, .ptr 0 0), (5, .b)], kk25, []⟩⟩, ⟨(.exit 0), ⟨[(4, .ptr 0 0), (6, .ptr 1 0)], kk38, []⟩⟩]
theorem p_words_parse_18_ok : PieceOk p_words_parse_18 := mkP_ok _ _
theorem p_words_parse_18_ct (κ : Nat) (m : Int) : CutOk Tryz.prog C (G m) Tryz.f18.ntmps 0 (bodyOf (pieceOf (.blk 0) (getBody Tryz.f18))) (p_words_parse_18.cut nn4 (cur _ (words_parse.v18 κ))) :=
 Piece.join p_words_parse_18_ok C_ok mixed (gam51_ok κ m) nn4_ok xx18_ok (cut := noCut) (X := xx18) (cuts_by (l := []) (by kernel_rfl) (all_nil)) (fun s => by kernel_rfl)
def p_words_parse_19 := mkP (T := T) [⟨[(0, .i .i64), (1, .s), (4, .ptr 0 0), (6, .ptr 1 0), (7, .slc 2 0 3 3), (21, .slc 2 0 3 3), (22, .lit .i64 3), (23, .lit .i64 1)], kk46, []⟩] [⟨.normal, ⟨[(0, .i .i64), (1, .s), (4, .ptr 0 0), (6, .ptr 1 0), (7, .slc 2 0 3 3), (21, .slc 2 0 3 3), (22, .lit .i64 3), (23, .lit .i64 2)], kk46, []⟩⟩, ⟨.ret, ⟨[(4, .ptr 0 0), (5, .b)], kk25, []⟩⟩, ⟨(.exit 0), ⟨[(4, .ptr 0 0), (6, .ptr 1 0)], kk38, []⟩⟩]
theorem p_words_parse_19_ok : PieceOk p_words_parse_19 := mkP_ok _ _
theorem p_words_parse_19_ct (κ : Nat) (m : Int) : CutOk Tryz.prog C (G m) Tryz.f18.ntmps 0 (bodyOf (pieceOf (.blk 0) (getBody Tryz.f18))) (p_words_parse_19.cut nn4 (cur _ (words_parse.v19 κ))) :=
 Piece.join p_words_parse_19_ok C_ok mixed (gam51_ok κ m) nn4_ok xx18_ok (cut := noCut) (X := xx18) (cuts_by (l := []) (by kernel_rfl) (all_nil)) (fun s => by kernel_rfl)
def p_words_parse_20 := mkP (T := T) [⟨[(0, .i .i64), (1, .s), (4, .ptr 0 0), (6, .ptr 1 0), (7, .slc 2 0 3 3), (21, .slc 2 0 3 3), (22, .lit .i64 3), (23, .lit .i64 1)], kk47, []⟩] [⟨.normal, ⟨[(0, .i .i64), (1, .s), (4, .ptr 0 0), (6, .ptr 1 0), (7, .slc 2 0 3 3), (21, .slc 2 0 3 3), (22, .lit .i64 3), (23, .lit .i64 2)], kk47, []⟩⟩, ⟨.ret, ⟨[(4, .ptr 0 0), (5, .b)], kk25, []⟩⟩, ⟨(.exit 0), ⟨[(4, .ptr 0 0), (6, .ptr 1 0)], kk38, []⟩⟩]
theorem p_words_parse_20_ok : PieceOk p_words_parse_20 := mkP_ok _ _
theorem p_words_parse_20_ct (κ : Nat) (m : Int) : CutOk Tryz.prog C (G m) Tryz.f18.ntmps 0 (bodyOf (pieceOf (.blk 0) (getBody Tryz.f18))) (p_words_parse_20.cut nn4 (cur _ (words_parse.v20 κ))) :=
 Piece.join p_words_parse_20_ok C_ok mixed (gam51_ok κ m) nn4_ok xx18_ok (cut := noCut) (X := xx18) (cuts_by (l := []) (by kernel_rfl) (all_nil)) (fun s => by kernel_rfl)
def p_words_parse_21 := mkP (T := T) [⟨[(0, .i .i64), (1, .s), (4, .ptr 0 0), (6, .ptr 1 0), (7, .slc 2 0 4 4), (21, .slc 2 0 4 4), (22, .lit .i64 4), (23, .lit .i64 1)], kk54, []⟩] [⟨.normal, ⟨[(0, .i .i64), (1, .s), (4, .ptr 0 0), (6, .ptr 1 0), (7, .slc 2 0 4 4), (21, .slc 2 0 4 4), (22, .lit .i64 4), (23, .lit .i64 2)], kk54, []⟩⟩, ⟨.ret, ⟨[(4, .ptr 0 0), (5, .b)], kk25, []⟩⟩]
theorem p_words_parse_21_ok : PieceOk p_words_parse_21 := mkP_ok _ _
theorem p_words_parse_21_ct (κ : Nat) (m : Int) : CutOk Tryz.prog C (G m) Tryz.f18.ntmps 0 (bodyOf (pieceOf (.blk 0) (getBody Tryz.f18))) (p_words_parse_21.cut nn4 (cur _ (words_parse.v21 κ))) :=
 Piece.join p_words_parse_21_ok C_ok mixed (gam51_ok κ m) nn4_ok xx18_ok (cut := noCut) (X := xx18) (cuts_by (l := []) (by kernel_rfl) (all_nil)) (fun s => by kernel_rfl)
def p_words_parse_22 := mkP (T := T) [⟨[(0, .i .i64), (1, .s), (4, .ptr 0 0), (6, .ptr 1 0), (7, .slc 2 0 2 2), (21, .slc 2 0 2 2), (22, .lit .i64 2), (23, .lit .i64 1)], kk44, []⟩] [⟨.normal, ⟨[(0, .i .i64), (1, .s), (4, .ptr 0 0), (6, .ptr 1 0), (7, .slc 2 0 2 2), (21, .slc 2 0 2 2), (22, .lit .i64 2), (23, .lit .i64 2)], kk44, []⟩⟩, ⟨.ret, ⟨[(4, .ptr 0 0), (5, .b)], kk25, []⟩⟩]
theorem p_words_parse_22_ok : PieceOk p_words_parse_22 := mkP_ok _ _
theorem p_words_parse_22_ct (κ : Nat) (m : Int) : CutOk Tryz.prog C (G m) Tryz.f18.ntmps 0 (bodyOf (pieceOf (.blk 0) (getBody Tryz.f18))) (p_words_parse_22.cut nn4 (cur _ (words_parse.v22 κ))) :=
 Piece.join p_words_parse_22_ok C_ok mixed (gam51_ok κ m) nn4_ok xx18_ok (cut := noCut) (X := xx18) (cuts_by (l := []) (by kernel_rfl) (all_nil)) (fun s => by kernel_rfl)
def p_words_parse_23 := mkP (T := T) [⟨[(0, .i .i64), (1, .s), (4, .ptr 0 0), (6, .ptr 1 0), (7, .slc 2 0 2 2), (21, .slc 2 0 2 2), (22, .lit .i64 2), (23, .lit .i64 2)], kk43, []⟩] [⟨(.exit 0), ⟨[(4, .ptr 0 0), (6, .ptr 1 0)], kk38, []⟩⟩]
theorem p_words_parse_23_ok : PieceOk p_words_parse_23 := mkP_ok _ _
theorem p_words_parse_23_ct (κ : Nat) (m : Int) : CutOk Tryz.prog C (G m) Tryz.f18.ntmps 0 (bodyOf (pieceOf (.blk 0) (getBody Tryz.f18))) (p_words_parse_23.cut nn4 (cur _ (words_parse.v23 κ))) :=
 Piece.join p_words_parse_23_ok C_ok mixed (gam51_ok κ m) nn4_ok xx18_ok (cut := noCut) (X := xx18) (cuts_by (l := []) (by kernel_rfl) (all_nil)) (fun s => by kernel_rfl)
def p_words_parse_24 := mkP (T := T) [⟨[(0, .i .i64), (1, .s), (4, .ptr 0 0), (6, .ptr 1 0), (7, .slc 2 0 2 2), (21, .slc 2 0 2 2), (22, .lit .i64 2), (23, .lit .i64 2)], kk45, []⟩] [⟨(.exit 0), ⟨[(4, .ptr 0 0), (6, .ptr 1 0)], kk38, []⟩⟩]
theorem p_words_parse_24_ok : PieceOk p_words_parse_24 := mkP_ok _ _
theorem p_words_parse_24_ct (κ : Nat) (m : Int) : CutOk Tryz.prog C (G m) Tryz.f18.ntmps 0 (bodyOf (pieceOf (.blk 0) (getBody Tryz.f18))) (p_words_parse_24.cut nn4 (cur _ (words_parse.v24 κ))) :=
 Piece.join p_words_parse_24_ok C_ok mixed (gam51_ok κ m) nn4_ok xx18_ok (cut := noCut) (X := xx18) (cuts_by (l := []) (by kernel_rfl) (all_nil)) (fun s => by kernel_rfl)
def p_words_parse_25 := mkP (T := T) [⟨[(0, .i .i64), (1, .s), (4, .ptr 0 0), (6, .ptr 1 0), (7, .slc 2 0 4 4), (21, .slc 2 0 4 4), (22, .lit .i64 4), (23, .lit .i64 2)], kk55, []⟩] [⟨.normal, ⟨[(0, .i .i64), (1, .s), (4, .ptr 0 0), (6, .ptr 1 0), (7, .slc 2 0 4 4), (21, .slc 2 0 4 4), (22, .lit .i64 4), (23, .lit .i64 3)], kk55, []⟩⟩, ⟨.ret, ⟨[(4, .ptr 0 0), (5, .b)], kk25, []⟩⟩]
theorem p_words_parse_25_ok : PieceOk p_words_parse_25 := mkP_ok _ _
theorem p_words_parse_25_ct (κ : Nat) (m : Int) : CutOk Tryz.prog C (G m) Tryz.f18.ntmps 0 (bodyOf (pieceOf (.blk 0) (getBody Tryz.f18))) (p_words_parse_25.cut nn4 (cur _ (words_parse.v25 κ))) :=
 Piece.join p_words_parse_25_ok C_ok mixed (gam52_ok κ m) nn4_ok xx18_ok (cut := noCut) (X := xx18) (cuts_by (l := []) (by kernel_rfl) (all_nil)) (fun s => by kernel_rfl)
def p_words_parse_26 := mkP (T := T) [⟨[(0, .i .i64), (1, .s), (4, .ptr 0 0), (6, .ptr 1 0), (7, .slc 2 0 4 4), (21, .slc 2 0 4 4), (22, .lit .i64 4), (23, .lit .i64 2)], kk52, []⟩] [⟨.normal, ⟨[(0, .i .i64), (1, .s), (4, .ptr 0 0), (6, .ptr 1 0), (7, .slc 2 0 4 4), (21, .slc 2 0 4 4), (22, .lit .i64 4), (23, .lit .i64 3)], kk52, []⟩⟩, ⟨.ret, ⟨[(4, .ptr 0 0), (5, .b)], kk25, []⟩⟩, ⟨(.exit 0), ⟨[(4, .ptr 0 0), (6, .ptr 1 0)], kk38, []⟩⟩]
theorem p_words_parse_26_ok : PieceOk p_words_parse_26 := mkP_ok _ _
theorem p_words_parse_26_ct (κ : Nat) (m : Int) : CutOk Tryz.prog C (G m) Tryz.f18.ntmps 0 (bodyOf (pieceOf (.blk 0) (getBody Tryz.f18))) (p_words_parse_26.cut nn4 (cur _ (words_parse.v26 κ))) :=
 Piece.join p_words_parse_26_ok C_ok mixed (gam52_ok κ m) nn4_ok xx18_ok (cut := noCut) (X := xx18) (cuts_by (l := []) (by kernel_rfl) (all_nil)) (fun s => by kernel_rfl)
def p_words_parse_27 := mkP (T := T) [⟨[(0, .i .i64), (1, .s), (4, .ptr 0 0), (6, .ptr 1 0), (7, .slc 2 0 4 4), (21, .slc 2 0 4 4), (22, .lit .i64 4), (23, .lit .i64 2)], kk53, []⟩] [⟨.normal, ⟨[(0, .i .i64), (1, .s), (4, .ptr 0 0), (6, .ptr 1 0), (7, .slc 2 0 4 4), (21, .slc 2 0 4 4), (22, .lit .i64 4), (23, .lit .i64 3)], kk53, []⟩⟩, ⟨.ret, ⟨[(4, .ptr 0 0), (5, .b)], kk25, []⟩⟩, ⟨(.exit 0), ⟨[(4, .ptr 0 0), (6, .ptr 1 0)], kk38, []⟩⟩]
theorem p_words_parse_27_ok : PieceOk p_words_parse_27 := mkP_ok _ _
theorem p_words_parse_27_ct (κ : Nat) (m : Int) : CutOk Tryz.prog C (G m) Tryz.f18.ntmps 0 (bodyOf (pieceOf (.blk 0) (getBody Tryz.f18))) (p_words_parse_27.cut nn4 (cur _ (words_parse.v27 κ))) :=
 Piece.join p_words_parse_27_ok C_ok mixed (gam52_ok κ m) nn4_ok xx18_ok (cut := noCut) (X := xx18) (cuts_by (l := []) (by kernel_rfl) (all_nil)) (fun s => by kernel_rfl)
def p_words_parse_28 := mkP (T := T) [⟨[(0, .i .i64), (1, .s), (4, .ptr 0 0), (6, .ptr 1 0), (7, .slc 2 0 5 5), (21, .slc 2 0 5 5), (22, .lit .i64 5), (23, .lit .i64 2)], kk56, []⟩] [⟨.normal, ⟨[(0, .i .i64), (1, .s), (4, .ptr 0 0), (6, .ptr 1 0), (7, .slc 2 0 5 5), (21, .slc 2 0 5 5), (22, .lit .i64 5), (23, .lit .i64 3)], kk56, []⟩⟩, ⟨.ret, ⟨[(4, .ptr 0 0), (5, .b)], kk25, []⟩⟩]
theorem p_words_parse_28_ok : PieceOk p_words_parse_28 := mkP_ok _ _
theorem p_words_parse_28_ct (κ : Nat) (m : Int) : CutOk Tryz.prog C (G m) Tryz.f18.ntmps 0 (bodyOf (pieceOf (.blk 0) (getBody Tryz.f18))) (p_words_parse_28.cut nn4 (cur _ (words_parse.v28 κ))) :=
 Piece.join p_words_parse_28_ok C_ok mixed (gam53_ok κ m) nn4_ok xx18_ok (cut := noCut) (X := xx18) (cuts_by (l := []) (by kernel_rfl) (all_nil)) (fun s => by kernel_rfl)
def p_words_parse_29 := mkP (T := T) [⟨[(0, .i .i64), (1, .s), (4, .ptr 0 0), (6, .ptr 1 0), (7, .slc 2 0 3 3), (21, .slc 2 0 3 3), (22, .lit .i64 3), (23, .lit .i64 2)], kk49, []⟩] [⟨.normal, ⟨[(0, .i .i64), (1, .s), (4, .ptr 0 0), (6, .ptr 1 0), (7, .slc 2 0 3 3), (21, .slc 2 0 3 3), (22, .lit .i64 3), (23, .lit .i64 3)], kk49, []⟩⟩, ⟨.ret, ⟨[(4, .ptr 0 0), (5, .b)], kk25, []⟩⟩]
theorem p_words_parse_29_ok : PieceOk p_words_parse_29 := mkP_ok _ _
theorem p_words_parse_29_ct (κ : Nat) (m : Int) : CutOk Tryz.prog C (G m) Tryz.f18.ntmps 0 (bodyOf (pieceOf (.blk 0) (getBody Tryz.f18))) (p_words_parse_29.cut nn4 (cur _ (words_parse.v29 κ))) :=
 Piece.join p_words_parse_29_ok C_ok mixed (gam53_ok κ m) nn4_ok xx18_ok (cut := noCut) (X := xx18) (cuts_by (l := []) (by kernel_rfl) (all_nil)) (fun s => by kernel_rfl)
def p_words_parse_30 := mkP (T := T) [⟨[(0, .i .i64), (1, .s), (4, .ptr 0 0), (6, .ptr 1 0), (7, .slc 2 0 3 3), (21, .slc 2 0 3 3), (22, .lit .i64 3), (23, .lit .i64 2)], kk46, []⟩] [⟨.normal, ⟨[(0, .i .i64), (1, .s), (4, .ptr 0 0), (6, .ptr 1 0), (7, .slc 2 0 3 3), (21, .slc 2 0 3 3), (22, .lit .i64 3), (23, .lit .i64 3)], kk46, []⟩⟩, ⟨.ret, ⟨[(4, .ptr 0 0), (5, .b)], kk25, []⟩⟩]
theorem p_words_parse_30_ok : PieceOk p_words_parse_30 := mkP_ok _ _
theorem p_words_parse_30_ct (κ : Nat) (m : Int) : CutOk Tryz.prog C (G m) Tryz.f18.ntmps 0 (bodyOf (pieceOf (.blk 0) (getBody Tryz.f18))) (p_words_parse_30.cut nn4 (cur _ (words_parse.v30 κ))) :=
 Piece.join p_words_parse_30_ok C_ok mixed (gam54_ok κ m) nn4_ok xx18_ok (cut := noCut) (X := xx18) (cuts_by (l := []) (by kernel_rfl) (all_nil)) (fun s => by kernel_rfl)
def p_words_parse_31 := mkP (T := T) [⟨[(0, .i .i64), (1, .s), (4, .ptr 0 0), (6, .ptr 1 0), (7, .slc 2 0 3 3), (21, .slc 2 0 3 3), (22, .lit .i64 3), (23, .lit .i64 2)], kk47, []⟩] [⟨.normal, ⟨[(0, .i .i64), (1, .s), (4, .ptr 0 0), (6, .ptr 1 0), (7, .slc 2 0 3 3), (21, .slc 2 0 3 3), (22, .lit .i64 3), (23, .lit .i64 3)], kk47, []⟩⟩, ⟨.ret, ⟨[(4, .ptr 0 0), (5, .b)], kk25, []⟩⟩]
theorem p_words_parse_31_ok : PieceOk p_words_parse_31 := mkP_ok _ _
theorem p_words_parse_31_ct (κ : Nat) (m : Int) : CutOk Tryz.prog C (G m) Tryz.f18.ntmps 0 (bodyOf (pieceOf (.blk 0) (getBody Tryz.f18))) (p_words_parse_31.cut nn4 (cur _ (words_parse.v31 κ))) :=
 Piece.join p_words_parse_31_ok C_ok mixed (gam55_ok κ m) nn4_ok xx18_ok (cut := noCut) (X := xx18) (cuts_by (l := []) (by kernel_rfl) (all_nil)) (fun s => by kernel_rfl)
def p_words_parse_32 := mkP (T := T) [⟨[(0, .i .i64), (1, .s), (4, .ptr 0 0), (6, .ptr 1 0), (7, .slc 2 0 4 4), (21, .slc 2 0 4 4), (22, .lit .i64 4), (23, .lit .i64 2)], kk54, []⟩] [⟨.normal, ⟨[(0, .i .i64), (1, .s), (4, .ptr 0 0), (6, .ptr 1 0), (7, .slc 2 0 4 4), (21, .slc 2 0 4 4), (22, .lit .i64 4), (23, .lit .i64 3)], kk54, []⟩⟩, ⟨.ret, ⟨[(4, .ptr 0 0), (5, .b)], kk25, []⟩⟩]
theorem p_words_parse_32_ok : PieceOk p_words_parse_32 := mkP_ok _ _
theorem p_words_parse_32_ct (κ : Nat) (m : Int) : CutOk Tryz.prog C (G m) Tryz.f18.ntmps 0 (bodyOf (pieceOf (.blk 0) (getBody Tryz.f18))) (p_words_parse_32.cut nn4 (cur _ (words_parse.v32 κ))) :=
 Piece.join p_words_parse_32_ok C_ok mixed (gam55_ok κ m) nn4_ok xx18_ok (cut := noCut) (X := xx18) (cuts_by (l := []) (by kernel_rfl) (all_nil)) (fun s => by kernel_rfl)
def p_words_parse_33 := mkP (T := T) [⟨[(0, .i .i64), (1, .s), (4, .ptr 0 0), (6, .ptr 1 0), (7, .slc 2 0 2 2), (21, .slc 2 0 2 2), (22, .lit .i64 2), (23, .lit .i64 2)], kk44, []⟩] [⟨(.exit 0), ⟨[(4, .ptr 0 0), (6, .ptr 1 0)], kk38, []⟩⟩]
theorem p_words_parse_33_ok : PieceOk p_words_parse_33 := mkP_ok _ _
theorem p_words_parse_33_ct (κ : Nat) (m : Int) : CutOk Tryz.prog C (G m) Tryz.f18.ntmps 0 (bodyOf (pieceOf (.blk 0) (getBody Tryz.f18))) (p_words_parse_33.cut nn4 (cur _ (words_parse.v33 κ))) :=
 Piece.join p_words_parse_33_ok C_ok mixed (gam55_ok κ m) nn4_ok xx18_ok (cut := noCut) (X := xx18) (cuts_by (l := []) (by kernel_rfl) (all_nil)) (fun s => by kernel_rfl)
def p_words_parse_34 := mkP (T := T) [⟨[(0, .i .i64), (1, .s), (4, .ptr 0 0), (6, .ptr 1 0), (7, .slc 2 0 4 4), (21, .slc 2 0 4 4), (22, .lit .i64 4), (23, .lit .i64 3)], kk55, []⟩] [⟨.normal, ⟨[(0, .i .i64), (1, .s), (4, .ptr 0 0), (6, .ptr 1 0), (7, .slc 2 0 4 4), (21, .slc 2 0 4 4), (22, .lit .i64 4), (23, .lit .i64 4)], kk55, []⟩⟩, ⟨.ret, ⟨[(4, .ptr 0 0), (5, .b)], kk25, []⟩⟩]
theorem p_words_parse_34_ok : PieceOk p_words_parse_34 := mkP_ok _ _
theorem p_words_parse_34_ct (κ : Nat) (m : Int) : CutOk Tryz.prog C (G m) Tryz.f18.ntmps 0 (bodyOf (pieceOf (.blk 0) (getBody Tryz.f18))) (p_words_parse_34.cut nn4 (cur _ (words_parse.v34 κ))) :=
 Piece.join p_words_parse_34_ok C_ok mixed (gam56_ok κ m) nn4_ok xx18_ok (cut := noCut) (X := xx18) (cuts_by (l := []) (by kernel_rfl) (all_nil)) (fun s => by kernel_rfl)
def p_words_parse_35 := mkP (T := T) [⟨[(0, .i .i64), (1, .s), (4, .ptr 0 0), (6, .ptr 1 0), (7, .slc 2 0 4 4), (21, .slc 2 0 4 4), (22, .lit .i64 4), (23, .lit .i64 3)], kk52, []⟩] [⟨.normal, ⟨[(0, .i .i64), (1, .s), (4, .ptr 0 0), (6, .ptr 1 0), (7, .slc 2 0 4 4), (21, .slc 2 0 4 4), (22, .lit .i64 4), (23, .lit .i64 4)], kk52, []⟩⟩, ⟨.ret, ⟨[(4, .ptr 0 0), (5, .b)], kk25, []⟩⟩]
theorem p_words_parse_35_ok : PieceOk p_words_parse_35 := mkP_ok _ _
theorem p_words_parse_35_ct (κ : Nat) (m : Int) : CutOk Tryz.prog C (G m) Tryz.f18.ntmps 0 (bodyOf (pieceOf (.blk 0) (getBody Tryz.f18))) (p_words_parse_35.cut nn4 (cur _ (words_parse.v35 κ))) :=
 Piece.join p_words_parse_35_ok C_ok mixed (gam58_ok κ m) nn4_ok xx18_ok (cut := noCut) (X := xx18) (cuts_by (l := []) (by kernel_rfl) (all_nil)) (fun s => by kernel_rfl)
def p_words_parse_36 := mkP (T := T) [⟨[(0, .i .i64), (1, .s), (4, .ptr 0 0), (6, .ptr 1 0), (7, .slc 2 0 4 4), (21, .slc 2 0 4 4), (22, .lit .i64 4), (23, .lit .i64 3)], kk53, []⟩] [⟨.normal, ⟨[(0, .i .i64), (1, .s), (4, .ptr 0 0), (6, .ptr 1 0), (7, .slc 2 0 4 4), (21, .slc 2 0 4 4), (22, .lit .i64 4), (23, .lit .i64 4)], kk53, []⟩⟩, ⟨.ret, ⟨[(4, .ptr 0 0), (5, .b)], kk25, []⟩⟩]
theorem p_words_parse_36_ok : PieceOk p_words_parse_36 := mkP_ok _ _
theorem p_words_parse_36_ct (κ : Nat) (m : Int) : CutOk Tryz.prog C (G m) Tryz.f18.ntmps 0 (bodyOf (pieceOf (.blk 0) (getBody Tryz.f18))) (p_words_parse_36.cut nn4 (cur _ (words_parse.v36 κ))) :=
 Piece.join p_words_parse_36_ok C_ok mixed (gam59_ok κ m) nn4_ok xx18_ok (cut := noCut) (X := xx18) (cuts_by (l := []) (by kernel_rfl) (all_nil)) (fun s => by kernel_rfl)
def p_words_parse_37 := mkP (T := T) [⟨[(0, .i .i64), (1, .s), (4, .ptr 0 0), (6, .ptr 1 0), (7, .slc 2 0 5 5), (21, .slc 2 0 5 5), (22, .lit .i64 5), (23, .lit .i64 3)], kk56, []⟩] [⟨.normal, ⟨[(0, .i .i64), (1, .s), (4, .ptr 0 0), (6, .ptr 1 0), (7, .slc 2 0 5 5), (21, .slc 2 0 5 5), (22, .lit .i64 5), (23, .lit .i64 4)], kk56, []⟩⟩, ⟨.ret, ⟨[(4, .ptr 0 0), (5, .b)], kk25, []⟩⟩]
theorem p_words_parse_37_ok : PieceOk p_words_parse_37 := mkP_ok _ _
theorem p_words_parse_37_ct (κ : Nat) (m : Int) : CutOk Tryz.prog C (G m) Tryz.f18.ntmps 0 (bodyOf (pieceOf (.blk 0) (getBody Tryz.f18))) (p_words_parse_37.cut nn4 (cur _ (words_parse.v37 κ))) :=
 Piece.join p_words_parse_37_ok C_ok mixed (gam60_ok κ m) nn4_ok xx18_ok (cut := noCut) (X := xx18) (cuts_by (l := []) (by kernel_rfl) (all_nil)) (fun s => by kernel_rfl)
def p_words_parse_38 := mkP (T := T) [⟨[(0, .i .i64), (1, .s), (4, .ptr 0 0), (6, .ptr 1 0), (7, .slc 2 0 3 3), (21, .slc 2 0 3 3), (22, .lit .i64 3), (23, .lit .i64 3)], kk49, []⟩] [⟨(.exit 0), ⟨[(4, .ptr 0 0), (6, .ptr 1 0)], kk38, []⟩⟩]
theorem p_words_parse_38_ok : PieceOk p_words_parse_38 := mkP_ok _ _
theorem p_words_parse_38_ct (κ : Nat) (m : Int) : CutOk Tryz.prog C (G m) Tryz.f18.ntmps 0 (bodyOf (pieceOf (.blk 0) (getBody Tryz.f18))) (p_words_parse_38.cut nn4 (cur _ (words_parse.v38 κ))) :=
 Piece.join p_words_parse_38_ok C_ok mixed (gam60_ok κ m) nn4_ok xx18_ok (cut := noCut) (X := xx18) (cuts_by (l := []) (by kernel_rfl) (all_nil)) (fun s => by kernel_rfl)
def p_words_parse_39 := mkP (T := T) [⟨[(0, .i .i64), (1, .s), (4, .ptr 0 0), (6, .ptr 1 0), (7, .slc 2 0 3 3), (21, .slc 2 0 3 3), (22, .lit .i64 3), (23, .lit .i64 3)], kk46, []⟩] [⟨(.exit 0), ⟨[(4, .ptr 0 0), (6, .ptr 1 0)], kk38, []⟩⟩]
theorem p_words_parse_39_ok : PieceOk p_words_parse_39 := mkP_ok _ _
theorem p_words_parse_39_ct (κ : Nat) (m : Int) : CutOk Tryz.prog C (G m) Tryz.f18.ntmps 0 (bodyOf (pieceOf (.blk 0) (getBody Tryz.f18))) (p_words_parse_39.cut nn4 (cur _ (words_parse.v39 κ))) :=
 Piece.join p_words_parse_39_ok C_ok mixed (gam60_ok κ m) nn4_ok xx18_ok (cut := noCut) (X := xx18) (cuts_by (l := []) (by kernel_rfl) (all_nil)) (fun s => by kernel_rfl)
def p_words_parse_40 := mkP (T := T) [⟨[(0, .i .i64), (1, .s), (4, .ptr 0 0), (6, .ptr 1 0), (7, .slc 2 0 3 3), (21, .slc 2 0 3 3), (22, .lit .i64 3), (23, .lit .i64 3)], kk47, []⟩] [⟨(.exit 0), ⟨[(4, .ptr 0 0), (6, .ptr 1 0)], kk38, []⟩⟩]
theorem p_words_parse_40_ok : PieceOk p_words_parse_40 := mkP_ok _ _
theorem p_words_parse_40_ct (κ : Nat) (m : Int) : CutOk Tryz.prog C (G m) Tryz.f18.ntmps 0 (bodyOf (pieceOf (.blk 0) (getBody Tryz.f18))) (p_words_parse_40.cut nn4 (cur _ (words_parse.v40 κ))) :=
 Piece.join p_words_parse_40_ok C_ok mixed (gam60_ok κ m) nn4_ok xx18_ok (cut := noCut) (X := xx18) (cuts_by (l := []) (by kernel_rfl) (all_nil)) (fun s => by kernel_rfl)
def p_words_parse_41 := mkP (T := T) [⟨[(0, .i .i64), (1, .s), (4, .ptr 0 0), (6, .ptr 1 0), (7, .slc 2 0 4 4), (21, .slc 2 0 4 4), (22, .lit .i64 4), (23, .lit .i64 3)], kk54, []⟩] [⟨.normal, ⟨[(0, .i .i64), (1, .s), (4, .ptr 0 0), (6, .ptr 1 0), (7, .slc 2 0 4 4), (21, .slc 2 0 4 4), (22, .lit .i64 4), (23, .lit .i64 4)], kk54, []⟩⟩]
theorem p_words_parse_41_ok : PieceOk p_words_parse_41 := mkP_ok _ _
theorem p_words_parse_41_ct (κ : Nat) (m : Int) : CutOk Tryz.prog C (G m) Tryz.f18.ntmps 0 (bodyOf (pieceOf (.blk 0) (getBody Tryz.f18))) (p_words_parse_41.cut nn4 (cur _ (words_parse.v41 κ))) :=
 Piece.join p_words_parse_41_ok C_ok mixed (gam61_ok κ m) nn4_ok xx18_ok (cut := noCut) (X := xx18) (cuts_by (l := []) (by kernel_rfl) (all_nil)) (fun s => by kernel_rfl)
def p_words_parse_42 := mkP (T := T) [⟨[(0, .i .i64), (1, .s), (4, .ptr 0 0), (6, .ptr 1 0), (7, .slc 2 0 4 4), (21, .slc 2 0 4 4), (22, .lit .i64 4), (23, .lit .i64 4)], kk55, []⟩] [⟨(.exit 0), ⟨[(4, .ptr 0 0), (6, .ptr 1 0)], kk38, []⟩⟩]
theorem p_words_parse_42_ok : PieceOk p_words_parse_42 := mkP_ok _ _
theorem p_words_parse_42_ct (κ : Nat) (m : Int) : CutOk Tryz.prog C (G m) Tryz.f18.ntmps 0 (bodyOf (pieceOf (.blk 0) (getBody Tryz.f18))) (p_words_parse_42.cut nn4 (cur _ (words_parse.v42 κ))) :=
 Piece.join p_words_parse_42_ok C_ok mixed (gam61_ok κ m) nn4_ok xx18_ok (cut := noCut) (X := xx18) (cuts_by (l := []) (by kernel_rfl) (all_nil)) (fun s => by kernel_rfl)
def p_words_parse_43 := mkP (T := T) [⟨[(0, .i .i64), (1, .s), (4, .ptr 0 0), (6, .ptr 1 0), (7, .slc 2 0 4 4), (21, .slc 2 0 4 4), (22, .lit .i64 4), (23, .lit .i64 4)], kk52, []⟩] [⟨(.exit 0), ⟨[(4, .ptr 0 0), (6, .ptr 1 0)], kk38, []⟩⟩]
theorem p_words_parse_43_ok : PieceOk p_words_parse_43 := mkP_ok _ _
theorem p_words_parse_43_ct (κ : Nat) (m : Int) : CutOk Tryz.prog C (G m) Tryz.f18.ntmps 0 (bodyOf (pieceOf (.blk 0) (getBody Tryz.f18))) (p_words_parse_43.cut nn4 (cur _ (words_parse.v43 κ))) :=
 Piece.join p_words_parse_43_ok C_ok mixed (gam61_ok κ m) nn4_ok xx18_ok (cut := noCut) (X := xx18) (cuts_by (l := []) (by kernel_rfl) (all_nil)) (fun s => by kernel_rfl)
def p_words_parse_44 := mkP (T := T) [⟨[(0, .i .i64), (1, .s), (4, .ptr 0 0), (6, .ptr 1 0), (7, .slc 2 0 4 4), (21, .slc 2 0 4 4), (22, .lit .i64 4), (23, .lit .i64 4)], kk53, []⟩] [⟨(.exit 0), ⟨[(4, .ptr 0 0), (6, .ptr 1 0)], kk38, []⟩⟩]
theorem p_words_parse_44_ok : PieceOk p_words_parse_44 := mkP_ok _ _
theorem p_words_parse_44_ct (κ : Nat) (m : Int) : CutOk Tryz.prog C (G m) Tryz.f18.ntmps 0 (bodyOf (pieceOf (.blk 0) (getBody Tryz.f18))) (p_words_parse_44.cut nn4 (cur _ (words_parse.v44 κ))) :=
 Piece.join p_words_parse_44_ok C_ok mixed (gam61_ok κ m) nn4_ok xx18_ok (cut := noCut) (X := xx18) (cuts_by (l := []) (by kernel_rfl) (all_nil)) (fun s => by kernel_rfl)
def p_words_parse_45 := mkP (T := T) [⟨[(0, .i .i64), (1, .s), (4, .ptr 0 0), (6, .ptr 1 0), (7, .slc 2 0 5 5), (21, .slc 2 0 5 5), (22, .lit .i64 5), (23, .lit .i64 4)], kk56, []⟩] [⟨.normal, ⟨[(0, .i .i64), (1, .s), (4, .ptr 0 0), (6, .ptr 1 0), (7, .slc 2 0 5 5), (21, .slc 2 0 5 5), (22, .lit .i64 5), (23, .lit .i64 5)], kk56, []⟩⟩, ⟨.ret, ⟨[(4, .ptr 0 0), (5, .b)], kk25, []⟩⟩]
theorem p_words_parse_45_ok : PieceOk p_words_parse_45 := mkP_ok _ _
theorem p_words_parse_45_ct (κ : Nat) (m : Int) : CutOk Tryz.prog C (G m) Tryz.f18.ntmps 0 (bodyOf (pieceOf (.blk 0) (getBody Tryz.f18))) (p_words_parse_45.cut nn4 (cur _ (words_parse.v45 κ))) :=
 Piece.join p_words_parse_45_ok C_ok mixed (gam61_ok κ m) nn4_ok xx18_ok (cut := noCut) (X := xx18) (cuts_by (l := []) (by kernel_rfl) (all_nil)) (fun s => by kernel_rfl)
def p_words_parse_46 := mkP (T := T) [⟨[(0, .i .i64), (1, .s), (4, .ptr 0 0), (6, .ptr 1 0), (7, .slc 2 0 4 4), (21, .slc 2 0 4 4), (22, .lit .i64 4), (23, .lit .i64 4)], kk54, []⟩] [⟨(.exit 0), ⟨[(4, .ptr 0 0), (6, .ptr 1 0)], kk38, []⟩⟩]
theorem p_words_parse_46_ok : PieceOk p_words_parse_46 := mkP_ok _ _
theorem p_words_parse_46_ct (κ : Nat) (m : Int) : CutOk Tryz.prog C (G m) Tryz.f18.ntmps 0 (bodyOf (pieceOf (.blk 0) (getBody Tryz.f18))) (p_words_parse_46.cut nn4 (cur _ (words_parse.v46 κ))) :=
 Piece.join p_words_parse_46_ok C_ok mixed (gam61_ok κ m) nn4_ok xx18_ok (cut := noCut) (X := xx18) (cuts_by (l := []) (by kernel_rfl) (all_nil)) (fun s => by kernel_rfl)
def p_words_parse_47 := mkP (T := T) [⟨[(0, .i .i64), (1, .s), (4, .ptr 0 0), (6, .ptr 1 0), (7, .slc 2 0 5 5), (21, .slc 2 0 5 5), (22, .lit .i64 5), (23, .lit .i64 5)], kk56, []⟩] [⟨(.exit 0), ⟨[(4, .ptr 0 0), (6, .ptr 1 0)], kk38, []⟩⟩]
theorem p_words_parse_47_ok : PieceOk p_words_parse_47 := mkP_ok _ _
theorem p_words_parse_47_ct (κ : Nat) (m : Int) : CutOk Tryz.prog C (G m) Tryz.f18.ntmps 0 (bodyOf (pieceOf (.blk 0) (getBody Tryz.f18))) (p_words_parse_47.cut nn4 (cur _ (words_parse.v47 κ))) :=
 Piece.join p_words_parse_47_ok C_ok mixed (gam61_ok κ m) nn4_ok xx18_ok (cut := noCut) (X := xx18) (cuts_by (l := []) (by kernel_rfl) (all_nil)) (fun s => by kernel_rfl)
def cc_words_parse_48 (κ : Nat) : Cut T := loopV (p_words_parse_0.cutOr nn4 (cur _ (words_parse.v0 κ)) (p_words_parse_1.cutOr nn4 (cur _ (words_parse.v1 κ)) (p_words_parse_2.cutOr nn4 (cur _ (words_parse.v2 κ)) (p_words_parse_3.cutOr nn4 (cur _ (words_parse.v3 κ)) (p_words_parse_4.cutOr nn4 (cur _ (words_parse.v4 κ)) (p_words_parse_5.cutOr nn4 (cur _ (words_parse.v5 κ)) (p_words_parse_6.cutOr nn4 (cur _ (words_parse.v6 κ)) (p_words_parse_7.cutOr nn4 (cur _ (words_parse.v7 κ)) (p_words_parse_8.cutOr nn4 (cur _ (words_parse.v8 κ)) (p_words_parse_9.cutOr nn4 (cur _ (words_parse.v9 κ)) (p_words_parse_10.cutOr nn4 (cur _ (words_parse.v10 κ)) (p_words_parse_11.cutOr nn4 (cur _ (words_parse.v11 κ)) (p_words_parse_12.cutOr nn4 (cur _ (words_parse.v12 κ)) (p_words_parse_13.cutOr nn4 (cur _ (words_parse.v13 κ)) (p_words_parse_14.cutOr nn4 (cur _ (words_parse.v14 κ)) (p_words_parse_15.cutOr nn4 (cur _ (words_parse.v15 κ)) (p_words_parse_16.cutOr nn4 (cur _ (words_parse.v16 κ)) (p_words_parse_17.cutOr nn4 (cur _ (words_parse.v17 κ)) (p_words_parse_18.cutOr nn4 (cur _ (words_parse.v18 κ)) (p_words_parse_19.cutOr nn4 (cur _ (words_parse.v19 κ)) (p_words_parse_20.cutOr nn4 (cur _ (words_parse.v20 κ)) (p_words_parse_21.cutOr nn4 (cur _ (words_parse.v21 κ)) (p_words_parse_22.cutOr nn4 (cur _ (words_parse.v22 κ)) (p_words_parse_23.cutOr nn4 (cur _ (words_parse.v23 κ)) (p_words_parse_24.cutOr nn4 (cur _ (words_parse.v24 κ)) (p_words_parse_25.cutOr nn4 (cur _ (words_parse.v25 κ)) (p_words_parse_26.cutOr nn4 (cur _ (words_parse.v26 κ)) (p_words_parse_27.cutOr nn4 (cur _ (words_parse.v27 κ)) (p_words_parse_28.cutOr nn4 (cur _ (words_parse.v28 κ)) (p_words_parse_29.cutOr nn4 (cur _ (words_parse.v29 κ)) (p_words_parse_30.cutOr nn4 (cur _ (words_parse.v30 κ)) (p_words_parse_31.cutOr nn4 (cur _ (words_parse.v31 κ)) (p_words_parse_32.cutOr nn4 (cur _ (words_parse.v32 κ)) (p_words_parse_33.cutOr nn4 (cur _ (words_parse.v33 κ)) (p_words_parse_34.cutOr nn4 (cur _ (words_parse.v34 κ)) (p_words_parse_35.cutOr nn4 (cur _ (words_parse.v35 κ)) (p_words_parse_36.cutOr nn4 (cur _ (words_parse.v36 κ)) (p_words_parse_37.cutOr nn4 (cur _ (words_parse.v37 κ)) (p_words_parse_38.cutOr nn4 (cur _ (words_parse.v38 κ)) (p_words_parse_39.cutOr nn4 (cur _ (words_parse.v39 κ)) (p_words_parse_40.cutOr nn4 (cur _ (words_parse.v40 κ)) (p_words_parse_41.cutOr nn4 (cur _ (words_parse.v41 κ)) (p_words_parse_42.cutOr nn4 (cur _ (words_parse.v42 κ)) (p_words_parse_43.cutOr nn4 (cur _ (words_parse.v43 κ)) (p_words_parse_44.cutOr nn4 (cur _ (words_parse.v44 κ)) (p_words_parse_45.cutOr nn4 (cur _ (words_parse.v45 κ)) (p_words_parse_46.cutOr nn4 (cur _ (words_parse.v46 κ)) (p_words_parse_47.cut nn4 (cur _ (words_parse.v47 κ)))))))))))))))))))))))))))))))))))))))))))))))))) 0 6
theorem cc_words_parse_48_ok (κ : Nat) (m : Int) : CutOk Tryz.prog C (G m) Tryz.f18.ntmps 0 (pieceOf (.blk 0) (getBody Tryz.f18)) (cc_words_parse_48 κ) := loopV_ok (body := bodyOf (pieceOf (.blk 0) (getBody Tryz.f18))) (Piece.or_ok (p_words_parse_0_ct κ m) (Piece.or_ok (p_words_parse_1_ct κ m) (Piece.or_ok (p_words_parse_2_ct κ m) (Piece.or_ok (p_words_parse_3_ct κ m) (Piece.or_ok (p_words_parse_4_ct κ m) (Piece.or_ok (p_words_parse_5_ct κ m) (Piece.or_ok (p_words_parse_6_ct κ m) (Piece.or_ok (p_words_parse_7_ct κ m) (Piece.or_ok (p_words_parse_8_ct κ m) (Piece.or_ok (p_words_parse_9_ct κ m) (Piece.or_ok (p_words_parse_10_ct κ m) (Piece.or_ok (p_words_parse_11_ct κ m) (Piece.or_ok (p_words_parse_12_ct κ m) (Piece.or_ok (p_words_parse_13_ct κ m) (Piece.or_ok (p_words_parse_14_ct κ m) (Piece.or_ok (p_words_parse_15_ct κ m) (Piece.or_ok (p_words_parse_16_ct κ m) (Piece.or_ok (p_words_parse_17_ct κ m) (Piece.or_ok (p_words_parse_18_ct κ m) (Piece.or_ok (p_words_parse_19_ct κ m) (Piece.or_ok (p_words_parse_20_ct κ m) (Piece.or_ok (p_words_parse_21_ct κ m) (Piece.or_ok (p_words_parse_22_ct κ m) (Piece.or_ok (p_words_parse_23_ct κ m) (Piece.or_ok (p_words_parse_24_ct κ m) (Piece.or_ok (p_words_parse_25_ct κ m) (Piece.or_ok (p_words_parse_26_ct κ m) (Piece.or_ok (p_words_parse_27_ct κ m) (Piece.or_ok (p_words_parse_28_ct κ m) (Piece.or_ok (p_words_parse_29_ct κ m) (Piece.or_ok (p_words_parse_30_ct κ m) (Piece.or_ok (p_words_parse_31_ct κ m) (Piece.or_ok (p_words_parse_32_ct κ m) (Piece.or_ok (p_words_parse_33_ct κ m) (Piece.or_ok (p_words_parse_34_ct κ m) (Piece.or_ok (p_words_parse_35_ct κ m) (Piece.or_ok (p_words_parse_36_ct κ m) (Piece.or_ok (p_words_parse_37_ct κ m) (Piece.or_ok (p_words_parse_38_ct κ m) (Piece.or_ok (p_words_parse_39_ct κ m) (Piece.or_ok (p_words_parse_40_ct κ m) (Piece.or_ok (p_words_parse_41_ct κ m) (Piece.or_ok (p_words_parse_42_ct κ m) (Piece.or_ok (p_words_parse_43_ct κ m) (Piece.or_ok (p_words_parse_44_ct κ m) (Piece.or_ok (p_words_parse_45_ct κ m) (Piece.or_ok (p_words_parse_46_ct κ m) (p_words_parse_47_ct κ m)))))))))))))))))))))))))))))))))))))))))))))))) 6
def ct_words_parse_48 (κ : Nat) : Key → Option (Cut T) := addCut noCut (.blk 0) (cc_words_parse_48 κ)
def p_words_parse_49 := mkP (T := T) [⟨[(4, .ptr 0 0), (6, .ptr 1 0), (15, .s), (16, .b)], kk38, []⟩] [⟨.normal, ⟨[(4, .ptr 0 0), (5, .b)], kk26, []⟩⟩]
theorem p_words_parse_49_ok : PieceOk p_words_parse_49 := mkP_ok _ _
theorem p_words_parse_49_ct (κ : Nat) (m : Int) : CutOk Tryz.prog C (G m) Tryz.f18.ntmps 0 (pieceOf (.reg 18) (getBody Tryz.f18)) (p_words_parse_49.cut (gcN 0 [4, 6, 15, 16]) (cur _ (words_parse.v49 κ))) :=
 Piece.join p_words_parse_49_ok C_ok mixed (gam61_ok κ m) gcN_ok xx19_ok (cut := (ct_words_parse_48 κ)) (X := xx19) (cuts_by (l := []) (by kernel_rfl) (all_nil)) (fun s => by kernel_rfl)
def cc_words_parse_50 (κ : Nat) : Cut T := p_words_parse_49.cut (gcN 0 [4, 6, 15, 16]) (cur _ (words_parse.v49 κ))
theorem cc_words_parse_50_ok (κ : Nat) (m : Int) : CutOk Tryz.prog C (G m) Tryz.f18.ntmps 0 (pieceOf (.reg 18) (getBody Tryz.f18)) (cc_words_parse_50 κ) := p_words_parse_49_ct κ m
def ct_words_parse_50 (κ : Nat) : Key → Option (Cut T) := addCut (ct_words_parse_48 κ) (.reg 18) (cc_words_parse_50 κ)
def sp_words_parse := mkS (T := T) [.i .i64, .s] [] [⟨false, .tup [.agg kk20, .b], []⟩]
theorem sp_words_parse_ok : SpecOk sp_words_parse := mkS_ok _ _ _
theorem ok_words_parse (κ : Nat) (m : Int) : EOk Tryz.prog C (G m) 18 (sp_words_parse.entry (cur _ (words_parse κ))) :=
 Spec.ok sp_words_parse_ok C_ok mixed (gam61_ok κ m) (cut := (ct_words_parse_50 κ)) (NR := (andN (slS 0 [0, 2] 55) (andN (slS 0 [0, 10] 5) (gcN 0 [0])))) (NP := (gcN 0 [0])) (nB := 0) Tryz.func18 (c := (getBody Tryz.f18)) (by kernel_rfl) (by kernel_rfl) (fun i => by kernel_rfl) (andN_ok (slS_ok C_ok) (andN_ok (slS_ok C_ok) gcN_ok)) gcN_ok (cuts_by (l := [(pieceOf (.blk 0) (getBody Tryz.f18), cc_words_parse_48 κ), (pieceOf (.reg 18) (getBody Tryz.f18), cc_words_parse_50 κ)]) (by kernel_rfl) (all_cons (cc_words_parse_48_ok κ m) (all_cons (cc_words_parse_50_ok κ m) (all_nil)))) (fun i => by kernel_rfl)
noncomputable def gam62 (κ : Nat) : Gam T := (gam61 κ).addS 18 sp_words_parse (cur _ (words_parse κ))
theorem gam62_ok (κ : Nat) (m : Int) : GOk Tryz.prog C (G m) (gam62 κ) := (gam61_ok κ m).addS (ok_words_parse κ m)
def p_slices_Equal_0 := mkP (T := T) [⟨[(0, .sl 55), (1, .sl 55), (12, .i .i64), (13, .i .i64)], [], []⟩] [⟨.normal, ⟨[], [], []⟩⟩, ⟨.ret, ⟨[(4, .b)], [], []⟩⟩]
theorem p_slices_Equal_0_ok : PieceOk p_slices_Equal_0 := mkP_ok _ _
theorem p_slices_Equal_0_ct (κ : Nat) (m : Int) : CutOk Tryz.prog C (G m) Tryz.f26.ntmps 0 (pieceOf (.blk 0) (getBody Tryz.f26)) (p_slices_Equal_0.cut (gcN 0 [0, 1, 12, 13]) (slices_Equal.l0 κ κ)) :=
 Piece.loop p_slices_Equal_0_ok C_ok mixed (gam62_ok κ m) gcN_ok xx20_ok (cut := noCut) (X := xx20) (id := 0) (body := bodyOf (pieceOf (.blk 0) (getBody Tryz.f26))) (cuts_by (l := []) (by kernel_rfl) (all_nil)) (f := slices_Equal.l0 κ) (fun s => by kernel_rfl) (fun k s => by kernel_rfl) κ
def cc_slices_Equal_1 (κ : Nat) : Cut T := p_slices_Equal_0.cut (gcN 0 [0, 1, 12, 13]) (slices_Equal.l0 κ κ)
theorem cc_slices_Equal_1_ok (κ : Nat) (m : Int) : CutOk Tryz.prog C (G m) Tryz.f26.ntmps 0 (pieceOf (.blk 0) (getBody Tryz.f26)) (cc_slices_Equal_1 κ) := p_slices_Equal_0_ct κ m
def ct_slices_Equal_1 (κ : Nat) : Key → Option (Cut T) := addCut noCut (.blk 0) (cc_slices_Equal_1 κ)
def sp_slices_Equal := mkS (T := T) [.sl 55, .sl 55] [] [⟨false, .b, []⟩]
theorem sp_slices_Equal_ok : SpecOk sp_slices_Equal := mkS_ok _ _ _
theorem ok_slices_Equal (κ : Nat) (m : Int) : EOk Tryz.prog C (G m) 26 (sp_slices_Equal.entry (cur _ (slices_Equal κ))) :=
 Spec.ok sp_slices_Equal_ok C_ok mixed (gam62_ok κ m) (cut := (ct_slices_Equal_1 κ)) (NR := (gcN 0 [0])) (NP := (gcN 0 [0])) (nB := 0) Tryz.func26 (c := (getBody Tryz.f26)) (by kernel_rfl) (by kernel_rfl) (fun i => by kernel_rfl) gcN_ok gcN_ok (cuts_by (l := [(pieceOf (.blk 0) (getBody Tryz.f26), cc_slices_Equal_1 κ)]) (by kernel_rfl) (all_cons (cc_slices_Equal_1_ok κ m) (all_nil))) (fun i => by kernel_rfl)
noncomputable def gam63 (κ : Nat) : Gam T := (gam62 κ).addS 26 sp_slices_Equal (cur _ (slices_Equal κ))
theorem gam63_ok (κ : Nat) (m : Int) : GOk Tryz.prog C (G m) (gam63 κ) := (gam62_ok κ m).addS (ok_slices_Equal κ m)
def sp_bytes_Equal := mkS (T := T) [.sl 5, .sl 5] [] [⟨false, .b, []⟩]
theorem sp_bytes_Equal_ok : SpecOk sp_bytes_Equal := mkS_ok _ _ _
theorem ok_bytes_Equal (κ : Nat) (m : Int) : EOk Tryz.prog C (G m) 27 (sp_bytes_Equal.entry (cur _ (bytes_Equal κ))) :=
 Spec.ok sp_bytes_Equal_ok C_ok mixed (gam63_ok κ m) (cut := noCut) (NR := (gcN 0 [0])) (NP := (gcN 0 [0])) (nB := 0) Tryz.func27 (c := (getBody Tryz.f27)) (by kernel_rfl) (by kernel_rfl) (fun i => by kernel_rfl) gcN_ok gcN_ok (cuts_by (l := []) (by kernel_rfl) (all_nil)) (fun i => by kernel_rfl)
noncomputable def gam64 (κ : Nat) : Gam T := (gam63 κ).addS 27 sp_bytes_Equal (cur _ (bytes_Equal κ))
theorem gam64_ok (κ : Nat) (m : Int) : GOk Tryz.prog C (G m) (gam64 κ) := (gam63_ok κ m).addS (ok_bytes_Equal κ m)
def p_words_Same_0 := mkP (T := T) [⟨[(2, .ptr 0 0), (3, .ptr 1 0)], kk38, []⟩] [⟨.normal, ⟨[(4, .b)], [], []⟩⟩]
theorem p_words_Same_0_ok : PieceOk p_words_Same_0 := mkP_ok _ _
theorem p_words_Same_0_ct (κ : Nat) (m : Int) : CutOk Tryz.prog C (G m) Tryz.f13.ntmps 0 (pieceOf (.reg 1) (getBody Tryz.f13)) (p_words_Same_0.cut (gcN 0 [2, 3]) (cur _ (words_Same.v0 κ))) :=
 Piece.join p_words_Same_0_ok C_ok mixed (gam64_ok κ m) gcN_ok xx7_ok (cut := noCut) (X := xx7) (cuts_by (l := []) (by kernel_rfl) (all_nil)) (fun s => by kernel_rfl)
def cc_words_Same_1 (κ : Nat) : Cut T := p_words_Same_0.cut (gcN 0 [2, 3]) (cur _ (words_Same.v0 κ))
theorem cc_words_Same_1_ok (κ : Nat) (m : Int) : CutOk Tryz.prog C (G m) Tryz.f13.ntmps 0 (pieceOf (.reg 1) (getBody Tryz.f13)) (cc_words_Same_1 κ) := p_words_Same_0_ct κ m
def ct_words_Same_1 (κ : Nat) : Key → Option (Cut T) := addCut noCut (.reg 1) (cc_words_Same_1 κ)
def sp_words_Same := mkS (T := T) kk31 [] [⟨false, .b, []⟩]
theorem sp_words_Same_ok : SpecOk sp_words_Same := mkS_ok _ _ _
theorem ok_words_Same (κ : Nat) (m : Int) : EOk Tryz.prog C (G m) 13 (sp_words_Same.entry (cur _ (words_Same κ))) :=
 Spec.ok sp_words_Same_ok C_ok mixed (gam64_ok κ m) (cut := (ct_words_Same_1 κ)) (NR := (gcN 0 [0])) (NP := (gcN 0 [0])) (nB := 0) Tryz.func13 (c := (getBody Tryz.f13)) (by kernel_rfl) (by kernel_rfl) (fun i => by kernel_rfl) gcN_ok gcN_ok (cuts_by (l := [(pieceOf (.reg 1) (getBody Tryz.f13), cc_words_Same_1 κ)]) (by kernel_rfl) (all_cons (cc_words_Same_1_ok κ m) (all_nil))) (fun i => by kernel_rfl)
noncomputable def gam65 (κ : Nat) : Gam T := (gam64 κ).addS 13 sp_words_Same (cur _ (words_Same κ))
theorem gam65_ok (κ : Nat) (m : Int) : GOk Tryz.prog C (G m) (gam65 κ) := (gam64_ok κ m).addS (ok_words_Same κ m)
def p_words_Right_0 := mkP (T := T) [⟨[(1, .ptr 0 0), (5, .ptr 1 0), (6, .b)], kk38, []⟩] [⟨.normal, ⟨[(2, .b)], [], []⟩⟩]
theorem p_words_Right_0_ok : PieceOk p_words_Right_0 := mkP_ok _ _
theorem p_words_Right_0_ct (κ : Nat) (m : Int) : CutOk Tryz.prog C (G m) Tryz.f9.ntmps 0 (pieceOf (.reg 5) (getBody Tryz.f9)) (p_words_Right_0.cut (gcN 0 [1, 5, 6]) (cur _ (words_Right.v0 κ))) :=
 Piece.join p_words_Right_0_ok C_ok mixed (gam65_ok κ m) gcN_ok xx0_ok (cut := noCut) (X := xx0) (cuts_by (l := []) (by kernel_rfl) (all_nil)) (fun s => by kernel_rfl)
def cc_words_Right_1 (κ : Nat) : Cut T := p_words_Right_0.cut (gcN 0 [1, 5, 6]) (cur _ (words_Right.v0 κ))
theorem cc_words_Right_1_ok (κ : Nat) (m : Int) : CutOk Tryz.prog C (G m) Tryz.f9.ntmps 0 (pieceOf (.reg 5) (getBody Tryz.f9)) (cc_words_Right_1 κ) := p_words_Right_0_ct κ m
def ct_words_Right_1 (κ : Nat) : Key → Option (Cut T) := addCut noCut (.reg 5) (cc_words_Right_1 κ)
def sp_words_Right := mkS (T := T) kk23 [] [⟨false, .b, []⟩]
theorem sp_words_Right_ok : SpecOk sp_words_Right := mkS_ok _ _ _
theorem ok_words_Right (κ : Nat) (m : Int) : EOk Tryz.prog C (G m) 9 (sp_words_Right.entry (cur _ (words_Right κ))) :=
 Spec.ok sp_words_Right_ok C_ok mixed (gam65_ok κ m) (cut := (ct_words_Right_1 κ)) (NR := (gcN 0 [0])) (NP := (gcN 0 [0])) (nB := 0) Tryz.func9 (c := (getBody Tryz.f9)) (by kernel_rfl) (by kernel_rfl) (fun i => by kernel_rfl) gcN_ok gcN_ok (cuts_by (l := [(pieceOf (.reg 5) (getBody Tryz.f9), cc_words_Right_1 κ)]) (by kernel_rfl) (all_cons (cc_words_Right_1_ok κ m) (all_nil))) (fun i => by kernel_rfl)
noncomputable def gam66 (κ : Nat) : Gam T := (gam65 κ).addS 9 sp_words_Right (cur _ (words_Right κ))
theorem gam66_ok (κ : Nat) (m : Int) : GOk Tryz.prog C (G m) (gam66 κ) := (gam65_ok κ m).addS (ok_words_Right κ m)
def sp_words_Line := mkS (T := T) kk23 [] [⟨false, .s, []⟩]
theorem sp_words_Line_ok : SpecOk sp_words_Line := mkS_ok _ _ _
theorem ok_words_Line (κ : Nat) (m : Int) : EOk Tryz.prog C (G m) 8 (sp_words_Line.entry (cur _ (words_Line κ))) :=
 Spec.ok sp_words_Line_ok C_ok mixed (gam66_ok κ m) (cut := noCut) (NR := (gcN 0 [0])) (NP := (gcN 0 [0])) (nB := 0) Tryz.func8 (c := (getBody Tryz.f8)) (by kernel_rfl) (by kernel_rfl) (fun i => by kernel_rfl) gcN_ok gcN_ok (cuts_by (l := []) (by kernel_rfl) (all_nil)) (fun i => by kernel_rfl)
noncomputable def gam67 (κ : Nat) : Gam T := (gam66 κ).addS 8 sp_words_Line (cur _ (words_Line κ))
theorem gam67_ok (κ : Nat) (m : Int) : GOk Tryz.prog C (G m) (gam67 κ) := (gam66_ok κ m).addS (ok_words_Line κ m)
def p_words_Parse_3 := mkP (T := T) [⟨[(0, .s), (2, .ptr 0 0), (4, .i .i64), (5, .ptr 1 0), (6, .b)], [.cells 26 none kk19, .cells 26 none kk20], []⟩] [⟨.normal, ⟨[(0, .s), (2, .ptr 0 0), (4, .i .i64), (5, .ptr 1 0), (23, .b)], [.cells 26 none kk19, .cells 26 none kk20], []⟩⟩]
theorem p_words_Parse_3_ok : PieceOk p_words_Parse_3 := mkP_ok _ _
theorem p_words_Parse_3_ct (κ : Nat) (m : Int) : CutOk Tryz.prog C (G m) Tryz.f15.ntmps 0 (pieceOf (.reg 5) (getBody Tryz.f15)) (p_words_Parse_3.cut (gcN 0 [0, 2, 4, 5, 6]) (cur _ (words_Parse.v3 κ))) :=
 Piece.join p_words_Parse_3_ok C_ok mixed (gam67_ok κ m) gcN_ok xx21_ok (cut := noCut) (X := xx21) (cuts_by (l := []) (by kernel_rfl) (all_nil)) (fun s => by kernel_rfl)
def cc_words_Parse_4 (κ : Nat) : Cut T := p_words_Parse_3.cut (gcN 0 [0, 2, 4, 5, 6]) (cur _ (words_Parse.v3 κ))
theorem cc_words_Parse_4_ok (κ : Nat) (m : Int) : CutOk Tryz.prog C (G m) Tryz.f15.ntmps 0 (pieceOf (.reg 5) (getBody Tryz.f15)) (cc_words_Parse_4 κ) := p_words_Parse_3_ct κ m
def ct_words_Parse_4 (κ : Nat) : Key → Option (Cut T) := addCut noCut (.reg 5) (cc_words_Parse_4 κ)
def p_words_Parse_2 := mkP (T := T) [⟨[(0, .s), (2, .ptr 0 0), (4, .i .i64)], kk25, []⟩] [⟨.normal, ⟨[(2, .ptr 0 0)], kk25, []⟩⟩, ⟨.ret, ⟨[(2, .ptr 0 0), (3, .i .i64)], kk26, []⟩⟩]
theorem p_words_Parse_2_ok : PieceOk p_words_Parse_2 := mkP_ok _ _
theorem p_words_Parse_2_ct (κ : Nat) (m : Int) : CutOk Tryz.prog C (G m) Tryz.f15.ntmps 0 (pieceOf (.blk 0) (getBody Tryz.f15)) (p_words_Parse_2.cut (gcN 0 [0, 2, 4]) (words_Parse.l2 κ κ)) :=
 Piece.loop p_words_Parse_2_ok C_ok mixed (gam67_ok κ m) gcN_ok xx22_ok (cut := (ct_words_Parse_4 κ)) (X := xx22) (id := 0) (body := bodyOf (pieceOf (.blk 0) (getBody Tryz.f15))) (cuts_by (l := [(pieceOf (.reg 5) (getBody Tryz.f15), cc_words_Parse_4 κ)]) (by kernel_rfl) (all_cons (cc_words_Parse_4_ok κ m) (all_nil))) (f := words_Parse.l2 κ) (fun s => by kernel_rfl) (fun k s => by kernel_rfl) κ
def cc_words_Parse_5 (κ : Nat) : Cut T := p_words_Parse_2.cut (gcN 0 [0, 2, 4]) (words_Parse.l2 κ κ)
theorem cc_words_Parse_5_ok (κ : Nat) (m : Int) : CutOk Tryz.prog C (G m) Tryz.f15.ntmps 0 (pieceOf (.blk 0) (getBody Tryz.f15)) (cc_words_Parse_5 κ) := p_words_Parse_2_ct κ m
def ct_words_Parse_5 (κ : Nat) : Key → Option (Cut T) := addCut noCut (.blk 0) (cc_words_Parse_5 κ)
def sp_words_Parse := mkS (T := T) [.s] [] [⟨false, .tup [.agg kk20, .i .i64], []⟩]
theorem sp_words_Parse_ok : SpecOk sp_words_Parse := mkS_ok _ _ _
theorem ok_words_Parse (κ : Nat) (m : Int) : EOk Tryz.prog C (G m) 15 (sp_words_Parse.entry (fun a0 => words_Parse κ a0)) :=
 Spec.ok sp_words_Parse_ok C_ok mixed (gam67_ok κ m) (cut := (ct_words_Parse_5 κ)) (NR := (andN (slS 0 [0, 2] 55) (andN (slS 0 [0, 10] 5) (gcN 0 [0])))) (NP := (gcN 0 [0])) (nB := 0) Tryz.func15 (c := (getBody Tryz.f15)) (by kernel_rfl) (by kernel_rfl) (fun i => by kernel_rfl) (andN_ok (slS_ok C_ok) (andN_ok (slS_ok C_ok) gcN_ok)) gcN_ok (cuts_by (l := [(pieceOf (.blk 0) (getBody Tryz.f15), cc_words_Parse_5 κ)]) (by kernel_rfl) (all_cons (cc_words_Parse_5_ok κ m) (all_nil))) (fun i => by kernel_rfl)
noncomputable def gam68 (κ : Nat) : Gam T := (gam67 κ).addS 15 sp_words_Parse (fun a0 => words_Parse κ a0)
theorem gam68_ok (κ : Nat) (m : Int) : GOk Tryz.prog C (G m) (gam68 κ) := (gam67_ok κ m).addS (ok_words_Parse κ m)
def p_l33_awake_0 := mkP (T := T) [⟨[(1, .ptr 0 0), (2, .i .i64), (4, .i .i64), (5, .ptr 1 0), (6, .i .i64)], kk38, []⟩] [⟨.normal, ⟨[(0, .b)], [], []⟩⟩]
theorem p_l33_awake_0_ok : PieceOk p_l33_awake_0 := mkP_ok _ _
theorem p_l33_awake_0_ct (κ : Nat) (m : Int) : CutOk Tryz.prog C (G m) Tryz.f7.ntmps 0 (pieceOf (.reg 4) (getBody Tryz.f7)) (p_l33_awake_0.cut (gcN 0 [1, 2, 4, 5, 6]) (cur _ (l33_awake.v0 κ))) :=
 Piece.join p_l33_awake_0_ok C_ok mixed (gam68_ok κ m) gcN_ok xx23_ok (cut := noCut) (X := xx23) (cuts_by (l := []) (by kernel_rfl) (all_nil)) (fun s => by kernel_rfl)
def cc_l33_awake_1 (κ : Nat) : Cut T := p_l33_awake_0.cut (gcN 0 [1, 2, 4, 5, 6]) (cur _ (l33_awake.v0 κ))
theorem cc_l33_awake_1_ok (κ : Nat) (m : Int) : CutOk Tryz.prog C (G m) Tryz.f7.ntmps 0 (pieceOf (.reg 4) (getBody Tryz.f7)) (cc_l33_awake_1 κ) := p_l33_awake_0_ct κ m
def ct_l33_awake_1 (κ : Nat) : Key → Option (Cut T) := addCut noCut (.reg 4) (cc_l33_awake_1 κ)
def sp_l33_awake := mkS (T := T) [] [] [⟨false, .b, []⟩]
theorem sp_l33_awake_ok : SpecOk sp_l33_awake := mkS_ok _ _ _
theorem ok_l33_awake (κ : Nat) (m : Int) : EOk Tryz.prog C (G m) 7 (sp_l33_awake.entry (fun _ => l33_awake κ )) :=
 Spec.ok sp_l33_awake_ok C_ok mixed (gam68_ok κ m) (cut := (ct_l33_awake_1 κ)) (NR := (gcN 0 [0])) (NP := (gcN 0 [0])) (nB := 0) Tryz.func7 (c := (getBody Tryz.f7)) (by kernel_rfl) (by kernel_rfl) (fun i => by kernel_rfl) gcN_ok gcN_ok (cuts_by (l := [(pieceOf (.reg 4) (getBody Tryz.f7), cc_l33_awake_1 κ)]) (by kernel_rfl) (all_cons (cc_l33_awake_1_ok κ m) (all_nil))) (fun i => by kernel_rfl)
noncomputable def gam69 (κ : Nat) : Gam T := (gam68 κ).addS 7 sp_l33_awake (fun _ => l33_awake κ )
theorem gam69_ok (κ : Nat) (m : Int) : GOk Tryz.prog C (G m) (gam69 κ) := (gam68_ok κ m).addS (ok_l33_awake κ m)
def p_l33_WordsWho_0 := mkP (T := T) [⟨[(6, .ptr 0 0)], kk26, []⟩] [⟨.normal, ⟨[(4, .b)], [], []⟩⟩]
theorem p_l33_WordsWho_0_ok : PieceOk p_l33_WordsWho_0 := mkP_ok _ _
theorem p_l33_WordsWho_0_ct (κ : Nat) (m : Int) : CutOk Tryz.prog C (G m) Tryz.f6.ntmps 0 (pieceOf (.reg 8) (getBody Tryz.f6)) (p_l33_WordsWho_0.cut (gcN 0 [6]) (cur _ (l33_WordsWho.v0 κ))) :=
 Piece.join p_l33_WordsWho_0_ok C_ok mixed (gam69_ok κ m) gcN_ok xx7_ok (cut := noCut) (X := xx7) (cuts_by (l := []) (by kernel_rfl) (all_nil)) (fun s => by kernel_rfl)
def cc_l33_WordsWho_1 (κ : Nat) : Cut T := p_l33_WordsWho_0.cut (gcN 0 [6]) (cur _ (l33_WordsWho.v0 κ))
theorem cc_l33_WordsWho_1_ok (κ : Nat) (m : Int) : CutOk Tryz.prog C (G m) Tryz.f6.ntmps 0 (pieceOf (.reg 8) (getBody Tryz.f6)) (cc_l33_WordsWho_1 κ) := p_l33_WordsWho_0_ct κ m
def ct_l33_WordsWho_1 (κ : Nat) : Key → Option (Cut T) := addCut noCut (.reg 8) (cc_l33_WordsWho_1 κ)
def p_l33_WordsWho_2 := mkP (T := T) [⟨[(0, .s), (1, .i .u8), (6, .ptr 0 0)], kk26, []⟩] [⟨.normal, ⟨[(0, .s), (1, .i .u8), (6, .ptr 0 0), (66, .b)], kk26, []⟩⟩]
theorem p_l33_WordsWho_2_ok : PieceOk p_l33_WordsWho_2 := mkP_ok _ _
theorem p_l33_WordsWho_2_ct (κ : Nat) (m : Int) : CutOk Tryz.prog C (G m) Tryz.f6.ntmps 0 (pieceOf (.reg 11) (getBody Tryz.f6)) (p_l33_WordsWho_2.cut (gcN 0 [0, 1, 6]) (cur _ (l33_WordsWho.v2 κ))) :=
 Piece.join p_l33_WordsWho_2_ok C_ok mixed (gam69_ok κ m) gcN_ok xx24_ok (cut := (ct_l33_WordsWho_1 κ)) (X := xx24) (cuts_by (l := []) (by kernel_rfl) (all_nil)) (fun s => by kernel_rfl)
def cc_l33_WordsWho_3 (κ : Nat) : Cut T := p_l33_WordsWho_2.cut (gcN 0 [0, 1, 6]) (cur _ (l33_WordsWho.v2 κ))
theorem cc_l33_WordsWho_3_ok (κ : Nat) (m : Int) : CutOk Tryz.prog C (G m) Tryz.f6.ntmps 0 (pieceOf (.reg 11) (getBody Tryz.f6)) (cc_l33_WordsWho_3 κ) := p_l33_WordsWho_2_ct κ m
def ct_l33_WordsWho_3 (κ : Nat) : Key → Option (Cut T) := addCut (ct_l33_WordsWho_1 κ) (.reg 11) (cc_l33_WordsWho_3 κ)
def p_l33_WordsWho_4 := mkP (T := T) [⟨[(6, .ptr 0 0), (9, .s), (10, .ptr 1 0), (11, .i .i64)], kk38, []⟩] [⟨.normal, ⟨[(4, .b)], [], []⟩⟩]
theorem p_l33_WordsWho_4_ok : PieceOk p_l33_WordsWho_4 := mkP_ok _ _
theorem p_l33_WordsWho_4_ct (κ : Nat) (m : Int) : CutOk Tryz.prog C (G m) Tryz.f6.ntmps 0 (pieceOf (.reg 17) (getBody Tryz.f6)) (p_l33_WordsWho_4.cut (gcN 0 [6, 9, 10, 11]) (cur _ (l33_WordsWho.v4 κ))) :=
 Piece.join p_l33_WordsWho_4_ok C_ok mixed (gam69_ok κ m) gcN_ok xx7_ok (cut := (ct_l33_WordsWho_3 κ)) (X := xx7) (cuts_by (l := []) (by kernel_rfl) (all_nil)) (fun s => by kernel_rfl)
def cc_l33_WordsWho_5 (κ : Nat) : Cut T := p_l33_WordsWho_4.cut (gcN 0 [6, 9, 10, 11]) (cur _ (l33_WordsWho.v4 κ))
theorem cc_l33_WordsWho_5_ok (κ : Nat) (m : Int) : CutOk Tryz.prog C (G m) Tryz.f6.ntmps 0 (pieceOf (.reg 17) (getBody Tryz.f6)) (cc_l33_WordsWho_5 κ) := p_l33_WordsWho_4_ct κ m
def ct_l33_WordsWho_5 (κ : Nat) : Key → Option (Cut T) := addCut (ct_l33_WordsWho_3 κ) (.reg 17) (cc_l33_WordsWho_5 κ)
def sp_l33_WordsWho := mkS (T := T) [.s, .i .u8] [] [⟨false, .b, []⟩]
theorem sp_l33_WordsWho_ok : SpecOk sp_l33_WordsWho := mkS_ok _ _ _
theorem ok_l33_WordsWho (κ : Nat) (m : Int) : EOk Tryz.prog C (G m) 6 (sp_l33_WordsWho.entry (cur _ (l33_WordsWho κ))) :=
 Spec.ok sp_l33_WordsWho_ok C_ok mixed (gam69_ok κ m) (cut := (ct_l33_WordsWho_5 κ)) (NR := (gcN 0 [0])) (NP := (gcN 0 [0])) (nB := 0) Tryz.func6 (c := (getBody Tryz.f6)) (by kernel_rfl) (by kernel_rfl) (fun i => by kernel_rfl) gcN_ok gcN_ok (cuts_by (l := [(pieceOf (.reg 8) (getBody Tryz.f6), cc_l33_WordsWho_1 κ), (pieceOf (.reg 11) (getBody Tryz.f6), cc_l33_WordsWho_3 κ), (pieceOf (.reg 17) (getBody Tryz.f6), cc_l33_WordsWho_5 κ)]) (by kernel_rfl) (all_cons (cc_l33_WordsWho_1_ok κ m) (all_cons (cc_l33_WordsWho_3_ok κ m) (all_cons (cc_l33_WordsWho_5_ok κ m) (all_nil))))) (fun i => by kernel_rfl)
noncomputable def gam70 (κ : Nat) : Gam T := (gam69 κ).addS 6 sp_l33_WordsWho (cur _ (l33_WordsWho κ))
theorem gam70_ok (κ : Nat) (m : Int) : GOk Tryz.prog C (G m) (gam70 κ) := (gam69_ok κ m).addS (ok_l33_WordsWho κ m)
end Go.Proofs.YtdoifigogbdodaaGreatDoor.Ev.Seat
