-- laid by a program of this session (pp.sh) out of the translation
import Derived.Test.YtbbkchclefkikaaDoorProg
import Derived.Test.YtbbkchclefkikaaDoorShelf
import Derived.Test.YtbbkchclefkikaaDoorShelfB
import Derived.Test.YtbbkchclefkikaaDoorSpecRoot
import Derived.Below
import Derived.Deep.Draws
import Derived.Deep.AppendLies
import Derived.Maps.AppendAt
import Derived.OwnWalk
import Derived.Laws.BytesArg
import Derived.Laws.MakeOwn
import Derived.Laws.OwnMore
import Derived.Deep.OwnRows
import Derived.Tactics
import Derived.Lib.ConvBytes
import Derived.Laws.Slices
import Derived.WalkKit
import Derived.KernelRfl
import Derived.RowKit3
import Derived.Deep.LoopGhost
import Derived.Deep.QuietTactic
import Derived.BigQuiet
import Derived.WideLaws
import Derived.Deep.DeepCutAuto
import Derived.Deep.CutBlock
import Derived.Deep.RegionHeld3
import Derived.Laws.Rows
import Derived.Lib.AppendStr
import Derived.ArgAppend
import Derived.Laws.IdiomCopy
import Derived.OrdersHeld
import Derived.Laws.BitsLemmas
import Derived.RowKit
import Derived.Test.YtbbkchclefkikaaDoorWWords
import Derived.Test.YtbbkchclefkikaaDoorWLast
import Derived.Test.YtbbkchclefkikaaDoorWTab
import Derived.Test.YtbbkchclefkikaaDoorWFour
import Derived.Test.YtbbkchclefkikaaDoorWQPut
import Derived.Test.YtbbkchclefkikaaDoorWApart
import Derived.Test.YtbbkchclefkikaaDoorWArr
import Derived.Test.YtbbkchclefkikaaDoorWZeros
import Derived.Test.YtbbkchclefkikaaDoorWFoot
import Derived.Test.YtbbkchclefkikaaDoorWKept
import Derived.Test.YtbbkchclefkikaaDoorWShare
import Derived.Test.YtbbkchclefkikaaDoorWN
import Derived.Test.YtbbkchclefkikaaDoorWFootNe
import Derived.Test.YtbbkchclefkikaaDoorWAt
import Derived.Test.YtbbkchclefkikaaDoorWEqStruct
import Derived.Test.YtbbkchclefkikaaDoorWRepsOne
import Derived.Test.YtbbkchclefkikaaDoorWInv
import Derived.Test.YtbbkchclefkikaaDoorWInvWords
import Derived.Test.YtbbkchclefkikaaDoorWGuard
import Derived.Test.YtbbkchclefkikaaDoorWNEv
import Derived.Test.YtbbkchclefkikaaDoorWMore
namespace Go.Proofs.YtbbkchclefkikaaDoor.QPath
open Go.RowKit Go.Proofs.YtbbkchclefkikaaDoorW.PrintWords Go.Proofs.YtbbkchclefkikaaDoorW.PrintLast Go.Proofs.YtbbkchclefkikaaDoorW.PrintMore
attribute [local go_sem] max2_int min2_int max_two min_two max_three min_three max_four min_four   -- for this text's walks alone
set_option linter.unusedVariables false
set_option linter.unusedSimpArgs false

theorem isEmpty_ne (l : List UInt8) : l.isEmpty = !(l != []) := by cases l <;> rfl
theorem notEmpty_ne (l : List UInt8) : (!l.isEmpty) = (l != []) := by cases l <;> rfl


def errW : Option Int → Value
  | none => .nilIface
  | some c => .iface 0 (.int .i64 c)
theorem errW_none : errW none = .nilIface := rfl
theorem errW_some (c : Int) : errW (some c) = .iface 0 (.int .i64 c) := rfl

theorem info9 : (Tryd.prog.info? 9).map (fun i => (i.zero, i.size, i.bytes)) = some (some (.string ⟨#[]⟩), 1, 16) := by kernel_rfl
theorem info39 : (Tryd.prog.info? 39).map (fun i => (i.zero, i.size, i.bytes)) = some (some (.agg #[(.string ⟨#[]⟩), (.int .i64 0), (.int .i64 0), (.int .u64 0), (.int .u64 0), (.slice none 0 0), (.bool false), (.int .i64 0), (.slice none 0 0)]), 9, 112) := by kernel_rfl
theorem info46 : (Tryd.prog.info? 46).map (fun i => (i.zero, i.size, i.bytes)) = some (some (.agg #[(.string ⟨#[]⟩), (.string ⟨#[]⟩)]), 2, 32) := by kernel_rfl
-- the values' own types
/-! #### struct type 46 -/
structure S46 where
  f0 : ByteArray
  f1 : ByteArray
def z46 : S46 := ⟨(⟨#[]⟩ : ByteArray), (⟨#[]⟩ : ByteArray)⟩
def k46 : Kd S46 := Kd.iso (Kd.pair Kd.string Kd.string) (fun x : S46 => (x.f0, x.f1))
theorem k46_open {w : World} {x : S46} {cs : List Value} (h : k46.K w x cs) : cs = [.string x.f0, .string x.f1] := by
  obtain ⟨_, _, rfl, rfl, rfl⟩ := h
  exact rfl
theorem k46_openM {w : World} {base : Nat} {ok : Nat → Prop} {x : S46} {cs : List Value} (h : k46.M w base ok x cs) : cs = [.string x.f0, .string x.f1] := by
  obtain ⟨_, _, rfl, rfl, rfl⟩ := h
  exact rfl
theorem k46_mk (w : World) (x : S46)  : k46.K w x [.string x.f0, .string x.f1] := ⟨[.string x.f0], [.string x.f1], rfl, rfl, rfl⟩
theorem k46_mkM (w : World) (base : Nat) (ok : Nat → Prop) (x : S46)  : k46.M w base ok x [.string x.f0, .string x.f1] := ⟨[.string x.f0], [.string x.f1], rfl, rfl, rfl⟩
theorem k46_mkF (W : World) (ok : Nat → Prop) (x : S46) : Kd.FK k46 W ok x [.string x.f0, .string x.f1] := fun W2 _ => k46_mk W2 x
def rd_T46 (xs : List S46) (i : Int) : S46 := xs.getD i.toNat z46
theorem at_T46 {w : World} {A : Option Addr} {n : Nat} {xs : List S46} (h : Kd.C k46 w A n xs) (i : Int) (h0 : 0 ≤ i) (h1 : i < n) : ∃ ad , A = some ad ∧ w.cell? (ad.add (i.toNat * 2)) = some (.string (rd_T46 xs i).f0) ∧ w.cell? ⟨(ad.add (i.toNat * 2)).block, (ad.add (i.toNat * 2)).off + 1, none⟩ = some (.string (rd_T46 xs i).f1) := by
  obtain ⟨ad, c, e, _, hK, hc0⟩ := Kd.C_get h z46 i h0 h1
  have hc : ∀ j u, c[j]? = some u → w.cell? (ad.add (i.toNat * 2 + j)) = some u := hc0
  obtain rfl := k46_open hK
  exact ⟨ad, e, hc 0 _ rfl, by rw [← add_field _ _ 1 (by omega)]; exact hc 1 _ rfl⟩

def rd_L4 (xs : List (List S46)) (i : Int) : (List S46) := xs.getD i.toNat ([] : List S46)
theorem at_L4 {w : World} {A : Option Addr} {n : Nat} {xs : List (List S46)} (h : Kd.C (Kd.slice 46 k46) w A n xs) (i : Int) (h0 : 0 ≤ i) (h1 : i < n) : ∃ ad A0 c0, A = some ad ∧ w.cell? (ad.add i.toNat) = some (.slice A0 (rd_L4 xs i).length c0) ∧ (rd_L4 xs i).length ≤ c0 ∧ k46.C w A0 (rd_L4 xs i).length (rd_L4 xs i) := by
  obtain ⟨ad, c, e, _, hK, hc0⟩ := Kd.C_get h ([] : List S46) i h0 h1
  have hc : ∀ j u, c[j]? = some u → w.cell? (ad.add (i.toNat * 1 + j)) = some u := hc0
  obtain ⟨A0, c0, rfl, l0, g0⟩ := hK
  exact ⟨ad, A0, c0, e, by have hq := hc 0 _ rfl; rwa [Nat.mul_one, Nat.add_zero] at hq, l0, g0⟩

def rd_L6 (xs : List (List ByteArray)) (i : Int) : (List ByteArray) := xs.getD i.toNat ([] : List ByteArray)
theorem at_L6 {w : World} {A : Option Addr} {n : Nat} {xs : List (List ByteArray)} (h : Kd.C (Kd.slice 9 Kd.string) w A n xs) (i : Int) (h0 : 0 ≤ i) (h1 : i < n) : ∃ ad A0 c0, A = some ad ∧ w.cell? (ad.add i.toNat) = some (.slice A0 (rd_L6 xs i).length c0) ∧ (rd_L6 xs i).length ≤ c0 ∧ Kd.string.C w A0 (rd_L6 xs i).length (rd_L6 xs i) := by
  obtain ⟨ad, c, e, _, hK, hc0⟩ := Kd.C_get h ([] : List ByteArray) i h0 h1
  have hc : ∀ j u, c[j]? = some u → w.cell? (ad.add (i.toNat * 1 + j)) = some u := hc0
  obtain ⟨A0, c0, rfl, l0, g0⟩ := hK
  exact ⟨ad, A0, c0, e, by have hq := hc 0 _ rfl; rwa [Nat.mul_one, Nat.add_zero] at hq, l0, g0⟩

/-! #### struct type 34, nested in itself -/
structure S34 where
  f0 : ByteArray
  f1 : Int
  f2 : Int
  f3 : Int
  f4 : Int
  f5 : (List ByteArray)
  f6 : Bool
  f7 : Int
  f8 : (List S34)
def z34 : S34 := ⟨(⟨#[]⟩ : ByteArray), (0 : Int), (0 : Int), (0 : Int), (0 : Int), ([] : List ByteArray), false, (0 : Int), ([] : List S34)⟩
def F34 (d : Kd S34) : Kd S34 := Kd.iso (Kd.pair Kd.string (Kd.pair (Kd.int .i64) (Kd.pair (Kd.int .i64) (Kd.pair (Kd.int .u64) (Kd.pair (Kd.int .u64) (Kd.pair (Kd.slice 9 Kd.string) (Kd.pair Kd.bool (Kd.pair (Kd.int .i64) (Kd.slice 34 d))))))))) (fun x : S34 => (x.f0, x.f1, x.f2, x.f3, x.f4, x.f5, x.f6, x.f7, x.f8))
theorem mono34 : Kd.Mono F34 := Kd.mono_iso _ (Kd.mono_pair (Kd.mono_const _) (Kd.mono_pair (Kd.mono_const _) (Kd.mono_pair (Kd.mono_const _) (Kd.mono_pair (Kd.mono_const _) (Kd.mono_pair (Kd.mono_const _) (Kd.mono_pair (Kd.mono_const _) (Kd.mono_pair (Kd.mono_const _) (Kd.mono_pair (Kd.mono_const _) (Kd.mono_slice 34 Kd.mono_id)))))))))
theorem sub34 : Kd.Sub F34 [9, 34] := Kd.sub_iso _ (Kd.sub_pair (Kd.sub_const _ (by decide)) (Kd.sub_pair (Kd.sub_const _ (by decide)) (Kd.sub_pair (Kd.sub_const _ (by decide)) (Kd.sub_pair (Kd.sub_const _ (by decide)) (Kd.sub_pair (Kd.sub_const _ (by decide)) (Kd.sub_pair (Kd.sub_const _ (by decide)) (Kd.sub_pair (Kd.sub_const _ (by decide)) (Kd.sub_pair (Kd.sub_const _ (by decide)) (Kd.sub_slice 34 (by decide) Kd.sub_id)))))))))
theorem sz34 : ∀ n, (Kd.upto F34 9 [9, 34] n).sz = 9 := Kd.upto_sz (fun _ => rfl)
def k34 : Kd S34 := Kd.fix F34 9 [9, 34] sz34 (Kd.upto_E sub34)
theorem k34_open {w : World} {x : S34} {cs : List Value} (h : k34.K w x cs) : ∃ A5 c5 A8 c8, cs = [.string x.f0, .int .i64 x.f1, .int .i64 x.f2, .int .u64 x.f3, .int .u64 x.f4, .slice A5 x.f5.length c5, .bool x.f6, .int .i64 x.f7, .slice A8 x.f8.length c8] ∧ x.f5.length ≤ c5 ∧ Kd.string.C w A5 x.f5.length x.f5 ∧ x.f8.length ≤ c8 ∧ k34.C w A8 x.f8.length x.f8 := by
  obtain ⟨n, h⟩ := h
  cases n with
  | zero => exact h.elim
  | succ n =>
    obtain ⟨_, _, rfl, rfl, ⟨_, _, rfl, rfl, ⟨_, _, rfl, rfl, ⟨_, _, rfl, rfl, ⟨_, _, rfl, rfl, ⟨_, _, rfl, ⟨A5, c5, rfl, l5, g5⟩, ⟨_, _, rfl, rfl, ⟨_, _, rfl, rfl, ⟨A8, c8, rfl, l8, g8⟩⟩⟩⟩⟩⟩⟩⟩⟩ := h
    exact ⟨A5, c5, A8, c8, rfl, l5, g5, l8, Kd.fix_C g8⟩
theorem k34_openM {w : World} {base : Nat} {ok : Nat → Prop} {x : S34} {cs : List Value} (h : k34.M w base ok x cs) : ∃ v5 v8, cs = [.string x.f0, .int .i64 x.f1, .int .i64 x.f2, .int .u64 x.f3, .int .u64 x.f4, v5, .bool x.f6, .int .i64 x.f7, v8] ∧ Kd.string.R 9 w base ok v5 x.f5 ∧ k34.R 34 w base ok v8 x.f8 := by
  obtain ⟨n, h⟩ := h
  cases n with
  | zero => exact h.elim
  | succ n =>
    obtain ⟨_, _, rfl, rfl, ⟨_, _, rfl, rfl, ⟨_, _, rfl, rfl, ⟨_, _, rfl, rfl, ⟨_, _, rfl, rfl, ⟨_, _, rfl, ⟨v5, rfl, g5⟩, ⟨_, _, rfl, rfl, ⟨_, _, rfl, rfl, ⟨v8, rfl, g8⟩⟩⟩⟩⟩⟩⟩⟩⟩ := h
    exact ⟨v5, v8, rfl, g5, Kd.fix_R g8⟩
theorem k34_mk (w : World) (x : S34) {A5 : Option Addr} {c5 : Nat} (l5 : x.f5.length ≤ c5) (g5 : Kd.string.C w A5 x.f5.length x.f5) {A8 : Option Addr} {c8 : Nat} (l8 : x.f8.length ≤ c8) (g8 : k34.C w A8 x.f8.length x.f8) : k34.K w x [.string x.f0, .int .i64 x.f1, .int .i64 x.f2, .int .u64 x.f3, .int .u64 x.f4, .slice A5 x.f5.length c5, .bool x.f6, .int .i64 x.f7, .slice A8 x.f8.length c8] := by
  obtain ⟨n8, q8⟩ := Kd.fix_C_back mono34 g8
  have r8 := Kd.upto_C_le mono34 sz34 (show n8 ≤ n8 by omega) q8
  exact ⟨n8 + 1, ⟨[.string x.f0], [.int .i64 x.f1, .int .i64 x.f2, .int .u64 x.f3, .int .u64 x.f4, .slice A5 x.f5.length c5, .bool x.f6, .int .i64 x.f7, .slice A8 x.f8.length c8], rfl, rfl, ⟨[.int .i64 x.f1], [.int .i64 x.f2, .int .u64 x.f3, .int .u64 x.f4, .slice A5 x.f5.length c5, .bool x.f6, .int .i64 x.f7, .slice A8 x.f8.length c8], rfl, rfl, ⟨[.int .i64 x.f2], [.int .u64 x.f3, .int .u64 x.f4, .slice A5 x.f5.length c5, .bool x.f6, .int .i64 x.f7, .slice A8 x.f8.length c8], rfl, rfl, ⟨[.int .u64 x.f3], [.int .u64 x.f4, .slice A5 x.f5.length c5, .bool x.f6, .int .i64 x.f7, .slice A8 x.f8.length c8], rfl, rfl, ⟨[.int .u64 x.f4], [.slice A5 x.f5.length c5, .bool x.f6, .int .i64 x.f7, .slice A8 x.f8.length c8], rfl, rfl, ⟨[.slice A5 x.f5.length c5], [.bool x.f6, .int .i64 x.f7, .slice A8 x.f8.length c8], rfl, ⟨A5, c5, rfl, l5, g5⟩, ⟨[.bool x.f6], [.int .i64 x.f7, .slice A8 x.f8.length c8], rfl, rfl, ⟨[.int .i64 x.f7], [.slice A8 x.f8.length c8], rfl, rfl, ⟨A8, c8, rfl, l8, r8⟩⟩⟩⟩⟩⟩⟩⟩⟩⟩
theorem k34_mkM (w : World) (base : Nat) (ok : Nat → Prop) (x : S34) {v5 : Value} (g5 : Kd.string.R 9 w base ok v5 x.f5) {v8 : Value} (g8 : k34.R 34 w base ok v8 x.f8) : k34.M w base ok x [.string x.f0, .int .i64 x.f1, .int .i64 x.f2, .int .u64 x.f3, .int .u64 x.f4, v5, .bool x.f6, .int .i64 x.f7, v8] := by
  obtain ⟨n8, q8⟩ := Kd.fix_R_back mono34 g8
  have r8 := Kd.upto_R_le mono34 sz34 (show n8 ≤ n8 by omega) q8
  exact ⟨n8 + 1, ⟨[.string x.f0], [.int .i64 x.f1, .int .i64 x.f2, .int .u64 x.f3, .int .u64 x.f4, v5, .bool x.f6, .int .i64 x.f7, v8], rfl, rfl, ⟨[.int .i64 x.f1], [.int .i64 x.f2, .int .u64 x.f3, .int .u64 x.f4, v5, .bool x.f6, .int .i64 x.f7, v8], rfl, rfl, ⟨[.int .i64 x.f2], [.int .u64 x.f3, .int .u64 x.f4, v5, .bool x.f6, .int .i64 x.f7, v8], rfl, rfl, ⟨[.int .u64 x.f3], [.int .u64 x.f4, v5, .bool x.f6, .int .i64 x.f7, v8], rfl, rfl, ⟨[.int .u64 x.f4], [v5, .bool x.f6, .int .i64 x.f7, v8], rfl, rfl, ⟨[v5], [.bool x.f6, .int .i64 x.f7, v8], rfl, ⟨v5, rfl, g5⟩, ⟨[.bool x.f6], [.int .i64 x.f7, v8], rfl, rfl, ⟨[.int .i64 x.f7], [v8], rfl, rfl, ⟨v8, rfl, r8⟩⟩⟩⟩⟩⟩⟩⟩⟩⟩
theorem k34_openF {W : World} {ok : Nat → Prop} {x : S34} {cs : List Value} (h : Kd.FK k34 W ok x cs) : ∃ A5 c5 A8 c8, cs = [.string x.f0, .int .i64 x.f1, .int .i64 x.f2, .int .u64 x.f3, .int .u64 x.f4, .slice A5 x.f5.length c5, .bool x.f6, .int .i64 x.f7, .slice A8 x.f8.length c8] ∧ x.f5.length ≤ c5 ∧ Kd.F Kd.string W ok A5 x.f5.length x.f5 ∧ x.f8.length ≤ c8 ∧ Kd.F k34 W ok A8 x.f8.length x.f8 := by
  obtain ⟨A5, c5, A8, c8, rfl, l5, _, l8, _⟩ := k34_open (Kd.FK_now h)
  exact ⟨A5, c5, A8, c8, rfl, l5, (fun W' hW => by obtain ⟨A5_, c5_, A8_, c8_, he, l5_, g5_, l8_, g8_⟩ := k34_open (h W' hW); injection (Option.some.inj (show some (Value.slice A5 x.f5.length c5) = some (Value.slice A5_ x.f5.length c5_) from congrArg (fun l => l[5]?) he)) with ha_ _ _; rw [ha_]; exact g5_), l8, (fun W' hW => by obtain ⟨A5_, c5_, A8_, c8_, he, l5_, g5_, l8_, g8_⟩ := k34_open (h W' hW); injection (Option.some.inj (show some (Value.slice A8 x.f8.length c8) = some (Value.slice A8_ x.f8.length c8_) from congrArg (fun l => l[8]?) he)) with ha_ _ _; rw [ha_]; exact g8_)⟩
theorem k34_mkF (W : World) (ok : Nat → Prop) (x : S34) {A5 : Option Addr} {c5 : Nat} (l5 : x.f5.length ≤ c5) (g5 : Kd.F Kd.string W ok A5 x.f5.length x.f5) {A8 : Option Addr} {c8 : Nat} (l8 : x.f8.length ≤ c8) (g8 : Kd.F k34 W ok A8 x.f8.length x.f8) : Kd.FK k34 W ok x [.string x.f0, .int .i64 x.f1, .int .i64 x.f2, .int .u64 x.f3, .int .u64 x.f4, .slice A5 x.f5.length c5, .bool x.f6, .int .i64 x.f7, .slice A8 x.f8.length c8] := fun W2 hW => k34_mk W2 x l5 (g5 W2 hW) l8 (g8 W2 hW)
def rd_T34 (xs : List S34) (i : Int) : S34 := xs.getD i.toNat z34
theorem at_T34 {w : World} {A : Option Addr} {n : Nat} {xs : List S34} (h : Kd.C k34 w A n xs) (i : Int) (h0 : 0 ≤ i) (h1 : i < n) : ∃ ad A5 c5 A8 c8, A = some ad ∧ w.cell? (ad.add (i.toNat * 9)) = some (.string (rd_T34 xs i).f0) ∧ w.cell? ⟨(ad.add (i.toNat * 9)).block, (ad.add (i.toNat * 9)).off + 1, none⟩ = some (.int .i64 (rd_T34 xs i).f1) ∧ w.cell? ⟨(ad.add (i.toNat * 9)).block, (ad.add (i.toNat * 9)).off + 2, none⟩ = some (.int .i64 (rd_T34 xs i).f2) ∧ w.cell? ⟨(ad.add (i.toNat * 9)).block, (ad.add (i.toNat * 9)).off + 3, none⟩ = some (.int .u64 (rd_T34 xs i).f3) ∧ w.cell? ⟨(ad.add (i.toNat * 9)).block, (ad.add (i.toNat * 9)).off + 4, none⟩ = some (.int .u64 (rd_T34 xs i).f4) ∧ w.cell? ⟨(ad.add (i.toNat * 9)).block, (ad.add (i.toNat * 9)).off + 5, none⟩ = some (.slice A5 (rd_T34 xs i).f5.length c5) ∧ w.cell? ⟨(ad.add (i.toNat * 9)).block, (ad.add (i.toNat * 9)).off + 6, none⟩ = some (.bool (rd_T34 xs i).f6) ∧ w.cell? ⟨(ad.add (i.toNat * 9)).block, (ad.add (i.toNat * 9)).off + 7, none⟩ = some (.int .i64 (rd_T34 xs i).f7) ∧ w.cell? ⟨(ad.add (i.toNat * 9)).block, (ad.add (i.toNat * 9)).off + 8, none⟩ = some (.slice A8 (rd_T34 xs i).f8.length c8) ∧ (rd_T34 xs i).f5.length ≤ c5 ∧ Kd.string.C w A5 (rd_T34 xs i).f5.length (rd_T34 xs i).f5 ∧ (rd_T34 xs i).f8.length ≤ c8 ∧ k34.C w A8 (rd_T34 xs i).f8.length (rd_T34 xs i).f8 := by
  obtain ⟨ad, c, e, _, hK, hc0⟩ := Kd.C_get h z34 i h0 h1
  have hc : ∀ j u, c[j]? = some u → w.cell? (ad.add (i.toNat * 9 + j)) = some u := hc0
  obtain ⟨A5, c5, A8, c8, rfl, l5, g5, l8, g8⟩ := k34_open hK
  exact ⟨ad, A5, c5, A8, c8, e, hc 0 _ rfl, by rw [← add_field _ _ 1 (by omega)]; exact hc 1 _ rfl, by rw [← add_field _ _ 2 (by omega)]; exact hc 2 _ rfl, by rw [← add_field _ _ 3 (by omega)]; exact hc 3 _ rfl, by rw [← add_field _ _ 4 (by omega)]; exact hc 4 _ rfl, by rw [← add_field _ _ 5 (by omega)]; exact hc 5 _ rfl, by rw [← add_field _ _ 6 (by omega)]; exact hc 6 _ rfl, by rw [← add_field _ _ 7 (by omega)]; exact hc 7 _ rfl, by rw [← add_field _ _ 8 (by omega)]; exact hc 8 _ rfl, l5, g5, l8, g8⟩

/-! #### struct type 39, nested in itself -/
structure S39 where
  f0 : ByteArray
  f1 : Int
  f2 : Int
  f3 : Int
  f4 : Int
  f5 : (List ByteArray)
  f6 : Bool
  f7 : Int
  f8 : (List S39)
def z39 : S39 := ⟨(⟨#[]⟩ : ByteArray), (0 : Int), (0 : Int), (0 : Int), (0 : Int), ([] : List ByteArray), false, (0 : Int), ([] : List S39)⟩
def F39 (d : Kd S39) : Kd S39 := Kd.iso (Kd.pair Kd.string (Kd.pair (Kd.int .i64) (Kd.pair (Kd.int .i64) (Kd.pair (Kd.int .u64) (Kd.pair (Kd.int .u64) (Kd.pair (Kd.slice 9 Kd.string) (Kd.pair Kd.bool (Kd.pair (Kd.int .i64) (Kd.slice 39 d))))))))) (fun x : S39 => (x.f0, x.f1, x.f2, x.f3, x.f4, x.f5, x.f6, x.f7, x.f8))
theorem mono39 : Kd.Mono F39 := Kd.mono_iso _ (Kd.mono_pair (Kd.mono_const _) (Kd.mono_pair (Kd.mono_const _) (Kd.mono_pair (Kd.mono_const _) (Kd.mono_pair (Kd.mono_const _) (Kd.mono_pair (Kd.mono_const _) (Kd.mono_pair (Kd.mono_const _) (Kd.mono_pair (Kd.mono_const _) (Kd.mono_pair (Kd.mono_const _) (Kd.mono_slice 39 Kd.mono_id)))))))))
theorem sub39 : Kd.Sub F39 [9, 39] := Kd.sub_iso _ (Kd.sub_pair (Kd.sub_const _ (by decide)) (Kd.sub_pair (Kd.sub_const _ (by decide)) (Kd.sub_pair (Kd.sub_const _ (by decide)) (Kd.sub_pair (Kd.sub_const _ (by decide)) (Kd.sub_pair (Kd.sub_const _ (by decide)) (Kd.sub_pair (Kd.sub_const _ (by decide)) (Kd.sub_pair (Kd.sub_const _ (by decide)) (Kd.sub_pair (Kd.sub_const _ (by decide)) (Kd.sub_slice 39 (by decide) Kd.sub_id)))))))))
theorem sz39 : ∀ n, (Kd.upto F39 9 [9, 39] n).sz = 9 := Kd.upto_sz (fun _ => rfl)
def k39 : Kd S39 := Kd.fix F39 9 [9, 39] sz39 (Kd.upto_E sub39)
theorem k39_open {w : World} {x : S39} {cs : List Value} (h : k39.K w x cs) : ∃ A5 c5 A8 c8, cs = [.string x.f0, .int .i64 x.f1, .int .i64 x.f2, .int .u64 x.f3, .int .u64 x.f4, .slice A5 x.f5.length c5, .bool x.f6, .int .i64 x.f7, .slice A8 x.f8.length c8] ∧ x.f5.length ≤ c5 ∧ Kd.string.C w A5 x.f5.length x.f5 ∧ x.f8.length ≤ c8 ∧ k39.C w A8 x.f8.length x.f8 := by
  obtain ⟨n, h⟩ := h
  cases n with
  | zero => exact h.elim
  | succ n =>
    obtain ⟨_, _, rfl, rfl, ⟨_, _, rfl, rfl, ⟨_, _, rfl, rfl, ⟨_, _, rfl, rfl, ⟨_, _, rfl, rfl, ⟨_, _, rfl, ⟨A5, c5, rfl, l5, g5⟩, ⟨_, _, rfl, rfl, ⟨_, _, rfl, rfl, ⟨A8, c8, rfl, l8, g8⟩⟩⟩⟩⟩⟩⟩⟩⟩ := h
    exact ⟨A5, c5, A8, c8, rfl, l5, g5, l8, Kd.fix_C g8⟩
theorem k39_openM {w : World} {base : Nat} {ok : Nat → Prop} {x : S39} {cs : List Value} (h : k39.M w base ok x cs) : ∃ v5 v8, cs = [.string x.f0, .int .i64 x.f1, .int .i64 x.f2, .int .u64 x.f3, .int .u64 x.f4, v5, .bool x.f6, .int .i64 x.f7, v8] ∧ Kd.string.R 9 w base ok v5 x.f5 ∧ k39.R 39 w base ok v8 x.f8 := by
  obtain ⟨n, h⟩ := h
  cases n with
  | zero => exact h.elim
  | succ n =>
    obtain ⟨_, _, rfl, rfl, ⟨_, _, rfl, rfl, ⟨_, _, rfl, rfl, ⟨_, _, rfl, rfl, ⟨_, _, rfl, rfl, ⟨_, _, rfl, ⟨v5, rfl, g5⟩, ⟨_, _, rfl, rfl, ⟨_, _, rfl, rfl, ⟨v8, rfl, g8⟩⟩⟩⟩⟩⟩⟩⟩⟩ := h
    exact ⟨v5, v8, rfl, g5, Kd.fix_R g8⟩
theorem k39_mk (w : World) (x : S39) {A5 : Option Addr} {c5 : Nat} (l5 : x.f5.length ≤ c5) (g5 : Kd.string.C w A5 x.f5.length x.f5) {A8 : Option Addr} {c8 : Nat} (l8 : x.f8.length ≤ c8) (g8 : k39.C w A8 x.f8.length x.f8) : k39.K w x [.string x.f0, .int .i64 x.f1, .int .i64 x.f2, .int .u64 x.f3, .int .u64 x.f4, .slice A5 x.f5.length c5, .bool x.f6, .int .i64 x.f7, .slice A8 x.f8.length c8] := by
  obtain ⟨n8, q8⟩ := Kd.fix_C_back mono39 g8
  have r8 := Kd.upto_C_le mono39 sz39 (show n8 ≤ n8 by omega) q8
  exact ⟨n8 + 1, ⟨[.string x.f0], [.int .i64 x.f1, .int .i64 x.f2, .int .u64 x.f3, .int .u64 x.f4, .slice A5 x.f5.length c5, .bool x.f6, .int .i64 x.f7, .slice A8 x.f8.length c8], rfl, rfl, ⟨[.int .i64 x.f1], [.int .i64 x.f2, .int .u64 x.f3, .int .u64 x.f4, .slice A5 x.f5.length c5, .bool x.f6, .int .i64 x.f7, .slice A8 x.f8.length c8], rfl, rfl, ⟨[.int .i64 x.f2], [.int .u64 x.f3, .int .u64 x.f4, .slice A5 x.f5.length c5, .bool x.f6, .int .i64 x.f7, .slice A8 x.f8.length c8], rfl, rfl, ⟨[.int .u64 x.f3], [.int .u64 x.f4, .slice A5 x.f5.length c5, .bool x.f6, .int .i64 x.f7, .slice A8 x.f8.length c8], rfl, rfl, ⟨[.int .u64 x.f4], [.slice A5 x.f5.length c5, .bool x.f6, .int .i64 x.f7, .slice A8 x.f8.length c8], rfl, rfl, ⟨[.slice A5 x.f5.length c5], [.bool x.f6, .int .i64 x.f7, .slice A8 x.f8.length c8], rfl, ⟨A5, c5, rfl, l5, g5⟩, ⟨[.bool x.f6], [.int .i64 x.f7, .slice A8 x.f8.length c8], rfl, rfl, ⟨[.int .i64 x.f7], [.slice A8 x.f8.length c8], rfl, rfl, ⟨A8, c8, rfl, l8, r8⟩⟩⟩⟩⟩⟩⟩⟩⟩⟩
theorem k39_mkM (w : World) (base : Nat) (ok : Nat → Prop) (x : S39) {v5 : Value} (g5 : Kd.string.R 9 w base ok v5 x.f5) {v8 : Value} (g8 : k39.R 39 w base ok v8 x.f8) : k39.M w base ok x [.string x.f0, .int .i64 x.f1, .int .i64 x.f2, .int .u64 x.f3, .int .u64 x.f4, v5, .bool x.f6, .int .i64 x.f7, v8] := by
  obtain ⟨n8, q8⟩ := Kd.fix_R_back mono39 g8
  have r8 := Kd.upto_R_le mono39 sz39 (show n8 ≤ n8 by omega) q8
  exact ⟨n8 + 1, ⟨[.string x.f0], [.int .i64 x.f1, .int .i64 x.f2, .int .u64 x.f3, .int .u64 x.f4, v5, .bool x.f6, .int .i64 x.f7, v8], rfl, rfl, ⟨[.int .i64 x.f1], [.int .i64 x.f2, .int .u64 x.f3, .int .u64 x.f4, v5, .bool x.f6, .int .i64 x.f7, v8], rfl, rfl, ⟨[.int .i64 x.f2], [.int .u64 x.f3, .int .u64 x.f4, v5, .bool x.f6, .int .i64 x.f7, v8], rfl, rfl, ⟨[.int .u64 x.f3], [.int .u64 x.f4, v5, .bool x.f6, .int .i64 x.f7, v8], rfl, rfl, ⟨[.int .u64 x.f4], [v5, .bool x.f6, .int .i64 x.f7, v8], rfl, rfl, ⟨[v5], [.bool x.f6, .int .i64 x.f7, v8], rfl, ⟨v5, rfl, g5⟩, ⟨[.bool x.f6], [.int .i64 x.f7, v8], rfl, rfl, ⟨[.int .i64 x.f7], [v8], rfl, rfl, ⟨v8, rfl, r8⟩⟩⟩⟩⟩⟩⟩⟩⟩⟩
theorem k39_openF {W : World} {ok : Nat → Prop} {x : S39} {cs : List Value} (h : Kd.FK k39 W ok x cs) : ∃ A5 c5 A8 c8, cs = [.string x.f0, .int .i64 x.f1, .int .i64 x.f2, .int .u64 x.f3, .int .u64 x.f4, .slice A5 x.f5.length c5, .bool x.f6, .int .i64 x.f7, .slice A8 x.f8.length c8] ∧ x.f5.length ≤ c5 ∧ Kd.F Kd.string W ok A5 x.f5.length x.f5 ∧ x.f8.length ≤ c8 ∧ Kd.F k39 W ok A8 x.f8.length x.f8 := by
  obtain ⟨A5, c5, A8, c8, rfl, l5, _, l8, _⟩ := k39_open (Kd.FK_now h)
  exact ⟨A5, c5, A8, c8, rfl, l5, (fun W' hW => by obtain ⟨A5_, c5_, A8_, c8_, he, l5_, g5_, l8_, g8_⟩ := k39_open (h W' hW); injection (Option.some.inj (show some (Value.slice A5 x.f5.length c5) = some (Value.slice A5_ x.f5.length c5_) from congrArg (fun l => l[5]?) he)) with ha_ _ _; rw [ha_]; exact g5_), l8, (fun W' hW => by obtain ⟨A5_, c5_, A8_, c8_, he, l5_, g5_, l8_, g8_⟩ := k39_open (h W' hW); injection (Option.some.inj (show some (Value.slice A8 x.f8.length c8) = some (Value.slice A8_ x.f8.length c8_) from congrArg (fun l => l[8]?) he)) with ha_ _ _; rw [ha_]; exact g8_)⟩
theorem k39_mkF (W : World) (ok : Nat → Prop) (x : S39) {A5 : Option Addr} {c5 : Nat} (l5 : x.f5.length ≤ c5) (g5 : Kd.F Kd.string W ok A5 x.f5.length x.f5) {A8 : Option Addr} {c8 : Nat} (l8 : x.f8.length ≤ c8) (g8 : Kd.F k39 W ok A8 x.f8.length x.f8) : Kd.FK k39 W ok x [.string x.f0, .int .i64 x.f1, .int .i64 x.f2, .int .u64 x.f3, .int .u64 x.f4, .slice A5 x.f5.length c5, .bool x.f6, .int .i64 x.f7, .slice A8 x.f8.length c8] := fun W2 hW => k39_mk W2 x l5 (g5 W2 hW) l8 (g8 W2 hW)
def rd_T39 (xs : List S39) (i : Int) : S39 := xs.getD i.toNat z39
theorem at_T39 {w : World} {A : Option Addr} {n : Nat} {xs : List S39} (h : Kd.C k39 w A n xs) (i : Int) (h0 : 0 ≤ i) (h1 : i < n) : ∃ ad A5 c5 A8 c8, A = some ad ∧ w.cell? (ad.add (i.toNat * 9)) = some (.string (rd_T39 xs i).f0) ∧ w.cell? ⟨(ad.add (i.toNat * 9)).block, (ad.add (i.toNat * 9)).off + 1, none⟩ = some (.int .i64 (rd_T39 xs i).f1) ∧ w.cell? ⟨(ad.add (i.toNat * 9)).block, (ad.add (i.toNat * 9)).off + 2, none⟩ = some (.int .i64 (rd_T39 xs i).f2) ∧ w.cell? ⟨(ad.add (i.toNat * 9)).block, (ad.add (i.toNat * 9)).off + 3, none⟩ = some (.int .u64 (rd_T39 xs i).f3) ∧ w.cell? ⟨(ad.add (i.toNat * 9)).block, (ad.add (i.toNat * 9)).off + 4, none⟩ = some (.int .u64 (rd_T39 xs i).f4) ∧ w.cell? ⟨(ad.add (i.toNat * 9)).block, (ad.add (i.toNat * 9)).off + 5, none⟩ = some (.slice A5 (rd_T39 xs i).f5.length c5) ∧ w.cell? ⟨(ad.add (i.toNat * 9)).block, (ad.add (i.toNat * 9)).off + 6, none⟩ = some (.bool (rd_T39 xs i).f6) ∧ w.cell? ⟨(ad.add (i.toNat * 9)).block, (ad.add (i.toNat * 9)).off + 7, none⟩ = some (.int .i64 (rd_T39 xs i).f7) ∧ w.cell? ⟨(ad.add (i.toNat * 9)).block, (ad.add (i.toNat * 9)).off + 8, none⟩ = some (.slice A8 (rd_T39 xs i).f8.length c8) ∧ (rd_T39 xs i).f5.length ≤ c5 ∧ Kd.string.C w A5 (rd_T39 xs i).f5.length (rd_T39 xs i).f5 ∧ (rd_T39 xs i).f8.length ≤ c8 ∧ k39.C w A8 (rd_T39 xs i).f8.length (rd_T39 xs i).f8 := by
  obtain ⟨ad, c, e, _, hK, hc0⟩ := Kd.C_get h z39 i h0 h1
  have hc : ∀ j u, c[j]? = some u → w.cell? (ad.add (i.toNat * 9 + j)) = some u := hc0
  obtain ⟨A5, c5, A8, c8, rfl, l5, g5, l8, g8⟩ := k39_open hK
  exact ⟨ad, A5, c5, A8, c8, e, hc 0 _ rfl, by rw [← add_field _ _ 1 (by omega)]; exact hc 1 _ rfl, by rw [← add_field _ _ 2 (by omega)]; exact hc 2 _ rfl, by rw [← add_field _ _ 3 (by omega)]; exact hc 3 _ rfl, by rw [← add_field _ _ 4 (by omega)]; exact hc 4 _ rfl, by rw [← add_field _ _ 5 (by omega)]; exact hc 5 _ rfl, by rw [← add_field _ _ 6 (by omega)]; exact hc 6 _ rfl, by rw [← add_field _ _ 7 (by omega)]; exact hc 7 _ rfl, by rw [← add_field _ _ 8 (by omega)]; exact hc 8 _ rfl, l5, g5, l8, g8⟩

end Go.Proofs.YtbbkchclefkikaaDoor.QPath
