-- Laid by a program (wip/tools/myprint.py) out of the translation. Not trusted: Lean checks it.
import Derived.Test.YthnhpbplglmmmaaProg
import Derived.Below
import Derived.Deep.Draws
import Derived.Deep.AppendLies
import Derived.Maps.AppendAt
import Derived.OwnWalk
import Derived.Laws.BytesArg
import Derived.Laws.MakeOwn
import Derived.Laws.OwnMore
import Derived.Deep.OwnRows
import Derived.Tactics
import Derived.Lib.ConvBytes
import Derived.Laws.Slices
import Derived.WalkKit
import Derived.KernelRfl
import Derived.RowKit3
import Derived.Deep.LoopGhost
import Derived.Deep.QuietTactic
import Derived.BigQuiet
import Derived.WideLaws
import Derived.Deep.DeepCutAuto
import Derived.Deep.CutBlock
import Derived.Deep.RegionHeld3
import Derived.Laws.Rows
import Derived.Lib.AppendStr
import Derived.ArgAppend
import Derived.Laws.IdiomCopy
import Derived.OrdersHeld
import Derived.Laws.BitsLemmas
import Derived.RowKit
import Derived.Deep.RegionLaw
import Derived.Recover
import Derived.Defers
import Derived.Deep.DeepFit
import Derived.Test.YthnhpbplglmmmaaWWords
import Derived.Test.YthnhpbplglmmmaaWLast
import Derived.Test.YthnhpbplglmmmaaWTab
import Derived.Test.YthnhpbplglmmmaaWFour
import Derived.Test.YthnhpbplglmmmaaWQPut
import Derived.Test.YthnhpbplglmmmaaWApart
import Derived.Test.YthnhpbplglmmmaaWArr
import Derived.Test.YthnhpbplglmmmaaWZeros
import Derived.Test.YthnhpbplglmmmaaWFoot
import Derived.Test.YthnhpbplglmmmaaWKept
import Derived.Test.YthnhpbplglmmmaaWShare
import Derived.Test.YthnhpbplglmmmaaWN
import Derived.Test.YthnhpbplglmmmaaWFootNe
import Derived.Test.YthnhpbplglmmmaaWAt
import Derived.Test.YthnhpbplglmmmaaWEqStruct
import Derived.Test.YthnhpbplglmmmaaWRepsOne
import Derived.Test.YthnhpbplglmmmaaWInv
import Derived.Test.YthnhpbplglmmmaaWInvWords
import Derived.Test.YthnhpbplglmmmaaWGuard
import Derived.Test.YthnhpbplglmmmaaWNEv
import Derived.Test.YthnhpbplglmmmaaWMore
namespace Go.Proofs.Ythnhpbplglmmmaa.P
open Go.RowKit Go.Proofs.YthnhpbplglmmmaaW.PrintWords Go.Proofs.YthnhpbplglmmmaaW.PrintLast Go.Proofs.YthnhpbplglmmmaaW.PrintMore
attribute [local go_sem] max2_int min2_int max_two min_two max_three min_three max_four min_four   -- for this text's walks alone
set_option linter.unusedVariables false
set_option linter.unusedSimpArgs false



def errW : Option Int → Value
  | none => .nilIface
  | some c => .iface 0 (.int .i64 c)
theorem errW_none : errW none = .nilIface := rfl
theorem errW_some (c : Int) : errW (some c) = .iface 0 (.int .i64 c) := rfl

theorem info3 : (Try.prog.info? 3).map (fun i => (i.zero, i.size, i.bytes)) = some (some (.int .i64 0), 1, 8) := by kernel_rfl
theorem info5 : (Try.prog.info? 5).map (fun i => (i.zero, i.size, i.bytes)) = some (some (.int .u8 0), 1, 1) := by kernel_rfl
theorem info23 : (Try.prog.info? 23).map (fun i => (i.zero, i.size, i.bytes)) = some (some (.slice none 0 0), 1, 24) := by kernel_rfl
-- the values' own types
def rd_L1 (xs : List (List Int)) (i : Int) : (List Int) := xs.getD i.toNat ([] : List Int)
theorem at_L1 {w : World} {A : Option Addr} {n : Nat} {xs : List (List Int)} (h : Kd.C (Kd.slice 5 (Kd.int .u8)) w A n xs) (i : Int) (h0 : 0 ≤ i) (h1 : i < n) : ∃ ad A0 c0, A = some ad ∧ w.cell? (ad.add i.toNat) = some (.slice A0 (rd_L1 xs i).length c0) ∧ (rd_L1 xs i).length ≤ c0 ∧ (Kd.int .u8).C w A0 (rd_L1 xs i).length (rd_L1 xs i) := by
  obtain ⟨ad, c, e, _, hK, hc0⟩ := Kd.C_get h ([] : List Int) i h0 h1
  have hc : ∀ j u, c[j]? = some u → w.cell? (ad.add (i.toNat * 1 + j)) = some u := hc0
  obtain ⟨A0, c0, rfl, l0, g0⟩ := hK
  exact ⟨ad, A0, c0, e, by have hq := hc 0 _ rfl; rwa [Nat.mul_one, Nat.add_zero] at hq, l0, g0⟩

def rd_L2 (xs : List (List (List Int))) (i : Int) : (List (List Int)) := xs.getD i.toNat ([] : List (List Int))
theorem at_L2 {w : World} {A : Option Addr} {n : Nat} {xs : List (List (List Int))} (h : Kd.C (Kd.slice 23 (Kd.slice 5 (Kd.int .u8))) w A n xs) (i : Int) (h0 : 0 ≤ i) (h1 : i < n) : ∃ ad A0 c0, A = some ad ∧ w.cell? (ad.add i.toNat) = some (.slice A0 (rd_L2 xs i).length c0) ∧ (rd_L2 xs i).length ≤ c0 ∧ (Kd.slice 5 (Kd.int .u8)).C w A0 (rd_L2 xs i).length (rd_L2 xs i) := by
  obtain ⟨ad, c, e, _, hK, hc0⟩ := Kd.C_get h ([] : List (List Int)) i h0 h1
  have hc : ∀ j u, c[j]? = some u → w.cell? (ad.add (i.toNat * 1 + j)) = some u := hc0
  obtain ⟨A0, c0, rfl, l0, g0⟩ := hK
  exact ⟨ad, A0, c0, e, by have hq := hc 0 _ rfl; rwa [Nat.mul_one, Nat.add_zero] at hq, l0, g0⟩

/-! #### struct type 25 -/
structure S25 where
  f0 : Int
  f1 : Int
  f2 : Bool
  f3 : Bool
  f4 : Int
  f5 : Int
  f6 : Int
  f7 : Int
  f8 : Int
  f9 : (List Int)
  f10 : (List Int)
def z25 : S25 := ⟨(0 : Int), (0 : Int), false, false, (0 : Int), (0 : Int), (0 : Int), (0 : Int), (0 : Int), ([] : List Int), ([] : List Int)⟩
def k25 : Kd S25 := Kd.iso (Kd.pair (Kd.int .i64) (Kd.pair (Kd.int .i64) (Kd.pair Kd.bool (Kd.pair Kd.bool (Kd.pair (Kd.int .i64) (Kd.pair (Kd.int .i64) (Kd.pair (Kd.int .i64) (Kd.pair (Kd.int .u32) (Kd.pair (Kd.int .u32) (Kd.pair (Kd.slice 5 (Kd.int .u8)) (Kd.slice 5 (Kd.int .u8)))))))))))) (fun x : S25 => (x.f0, x.f1, x.f2, x.f3, x.f4, x.f5, x.f6, x.f7, x.f8, x.f9, x.f10))
theorem k25_heap : Kd.Heap k25 := Kd.heap_iso _ (Kd.heap_pair (Kd.heap_int .i64) (Kd.heap_pair (Kd.heap_int .i64) (Kd.heap_pair Kd.heap_bool (Kd.heap_pair Kd.heap_bool (Kd.heap_pair (Kd.heap_int .i64) (Kd.heap_pair (Kd.heap_int .i64) (Kd.heap_pair (Kd.heap_int .i64) (Kd.heap_pair (Kd.heap_int .u32) (Kd.heap_pair (Kd.heap_int .u32) (Kd.heap_pair (Kd.heap_slice 5 (Kd.heap_int .u8)) (Kd.heap_slice 5 (Kd.heap_int .u8))))))))))))
theorem k25_open {w : World} {x : S25} {cs : List Value} (h : k25.K w x cs) : ∃ A9 c9 A10 c10, cs = [.int .i64 x.f0, .int .i64 x.f1, .bool x.f2, .bool x.f3, .int .i64 x.f4, .int .i64 x.f5, .int .i64 x.f6, .int .u32 x.f7, .int .u32 x.f8, .slice A9 x.f9.length c9, .slice A10 x.f10.length c10] ∧ x.f9.length ≤ c9 ∧ (Kd.int .u8).C w A9 x.f9.length x.f9 ∧ x.f10.length ≤ c10 ∧ (Kd.int .u8).C w A10 x.f10.length x.f10 := by
  obtain ⟨_, _, rfl, rfl, ⟨_, _, rfl, rfl, ⟨_, _, rfl, rfl, ⟨_, _, rfl, rfl, ⟨_, _, rfl, rfl, ⟨_, _, rfl, rfl, ⟨_, _, rfl, rfl, ⟨_, _, rfl, rfl, ⟨_, _, rfl, rfl, ⟨_, _, rfl, ⟨A9, c9, rfl, l9, g9⟩, ⟨A10, c10, rfl, l10, g10⟩⟩⟩⟩⟩⟩⟩⟩⟩⟩⟩ := h
  exact ⟨A9, c9, A10, c10, rfl, l9, g9, l10, g10⟩
theorem k25_openM {w : World} {base : Nat} {ok : Nat → Prop} {x : S25} {cs : List Value} (h : k25.M w base ok x cs) : ∃ v9 v10, cs = [.int .i64 x.f0, .int .i64 x.f1, .bool x.f2, .bool x.f3, .int .i64 x.f4, .int .i64 x.f5, .int .i64 x.f6, .int .u32 x.f7, .int .u32 x.f8, v9, v10] ∧ (Kd.int .u8).R 5 w base ok v9 x.f9 ∧ (Kd.int .u8).R 5 w base ok v10 x.f10 := by
  obtain ⟨_, _, rfl, rfl, ⟨_, _, rfl, rfl, ⟨_, _, rfl, rfl, ⟨_, _, rfl, rfl, ⟨_, _, rfl, rfl, ⟨_, _, rfl, rfl, ⟨_, _, rfl, rfl, ⟨_, _, rfl, rfl, ⟨_, _, rfl, rfl, ⟨_, _, rfl, ⟨v9, rfl, g9⟩, ⟨v10, rfl, g10⟩⟩⟩⟩⟩⟩⟩⟩⟩⟩⟩ := h
  exact ⟨v9, v10, rfl, g9, g10⟩
theorem k25_mk (w : World) (x : S25) {A9 : Option Addr} {c9 : Nat} (l9 : x.f9.length ≤ c9) (g9 : (Kd.int .u8).C w A9 x.f9.length x.f9) {A10 : Option Addr} {c10 : Nat} (l10 : x.f10.length ≤ c10) (g10 : (Kd.int .u8).C w A10 x.f10.length x.f10) : k25.K w x [.int .i64 x.f0, .int .i64 x.f1, .bool x.f2, .bool x.f3, .int .i64 x.f4, .int .i64 x.f5, .int .i64 x.f6, .int .u32 x.f7, .int .u32 x.f8, .slice A9 x.f9.length c9, .slice A10 x.f10.length c10] := ⟨[.int .i64 x.f0], [.int .i64 x.f1, .bool x.f2, .bool x.f3, .int .i64 x.f4, .int .i64 x.f5, .int .i64 x.f6, .int .u32 x.f7, .int .u32 x.f8, .slice A9 x.f9.length c9, .slice A10 x.f10.length c10], rfl, rfl, ⟨[.int .i64 x.f1], [.bool x.f2, .bool x.f3, .int .i64 x.f4, .int .i64 x.f5, .int .i64 x.f6, .int .u32 x.f7, .int .u32 x.f8, .slice A9 x.f9.length c9, .slice A10 x.f10.length c10], rfl, rfl, ⟨[.bool x.f2], [.bool x.f3, .int .i64 x.f4, .int .i64 x.f5, .int .i64 x.f6, .int .u32 x.f7, .int .u32 x.f8, .slice A9 x.f9.length c9, .slice A10 x.f10.length c10], rfl, rfl, ⟨[.bool x.f3], [.int .i64 x.f4, .int .i64 x.f5, .int .i64 x.f6, .int .u32 x.f7, .int .u32 x.f8, .slice A9 x.f9.length c9, .slice A10 x.f10.length c10], rfl, rfl, ⟨[.int .i64 x.f4], [.int .i64 x.f5, .int .i64 x.f6, .int .u32 x.f7, .int .u32 x.f8, .slice A9 x.f9.length c9, .slice A10 x.f10.length c10], rfl, rfl, ⟨[.int .i64 x.f5], [.int .i64 x.f6, .int .u32 x.f7, .int .u32 x.f8, .slice A9 x.f9.length c9, .slice A10 x.f10.length c10], rfl, rfl, ⟨[.int .i64 x.f6], [.int .u32 x.f7, .int .u32 x.f8, .slice A9 x.f9.length c9, .slice A10 x.f10.length c10], rfl, rfl, ⟨[.int .u32 x.f7], [.int .u32 x.f8, .slice A9 x.f9.length c9, .slice A10 x.f10.length c10], rfl, rfl, ⟨[.int .u32 x.f8], [.slice A9 x.f9.length c9, .slice A10 x.f10.length c10], rfl, rfl, ⟨[.slice A9 x.f9.length c9], [.slice A10 x.f10.length c10], rfl, ⟨A9, c9, rfl, l9, g9⟩, ⟨A10, c10, rfl, l10, g10⟩⟩⟩⟩⟩⟩⟩⟩⟩⟩⟩
theorem k25_mkM (w : World) (base : Nat) (ok : Nat → Prop) (x : S25) {v9 : Value} (g9 : (Kd.int .u8).R 5 w base ok v9 x.f9) {v10 : Value} (g10 : (Kd.int .u8).R 5 w base ok v10 x.f10) : k25.M w base ok x [.int .i64 x.f0, .int .i64 x.f1, .bool x.f2, .bool x.f3, .int .i64 x.f4, .int .i64 x.f5, .int .i64 x.f6, .int .u32 x.f7, .int .u32 x.f8, v9, v10] := ⟨[.int .i64 x.f0], [.int .i64 x.f1, .bool x.f2, .bool x.f3, .int .i64 x.f4, .int .i64 x.f5, .int .i64 x.f6, .int .u32 x.f7, .int .u32 x.f8, v9, v10], rfl, rfl, ⟨[.int .i64 x.f1], [.bool x.f2, .bool x.f3, .int .i64 x.f4, .int .i64 x.f5, .int .i64 x.f6, .int .u32 x.f7, .int .u32 x.f8, v9, v10], rfl, rfl, ⟨[.bool x.f2], [.bool x.f3, .int .i64 x.f4, .int .i64 x.f5, .int .i64 x.f6, .int .u32 x.f7, .int .u32 x.f8, v9, v10], rfl, rfl, ⟨[.bool x.f3], [.int .i64 x.f4, .int .i64 x.f5, .int .i64 x.f6, .int .u32 x.f7, .int .u32 x.f8, v9, v10], rfl, rfl, ⟨[.int .i64 x.f4], [.int .i64 x.f5, .int .i64 x.f6, .int .u32 x.f7, .int .u32 x.f8, v9, v10], rfl, rfl, ⟨[.int .i64 x.f5], [.int .i64 x.f6, .int .u32 x.f7, .int .u32 x.f8, v9, v10], rfl, rfl, ⟨[.int .i64 x.f6], [.int .u32 x.f7, .int .u32 x.f8, v9, v10], rfl, rfl, ⟨[.int .u32 x.f7], [.int .u32 x.f8, v9, v10], rfl, rfl, ⟨[.int .u32 x.f8], [v9, v10], rfl, rfl, ⟨[v9], [v10], rfl, ⟨v9, rfl, g9⟩, ⟨v10, rfl, g10⟩⟩⟩⟩⟩⟩⟩⟩⟩⟩⟩
def rd_T25 (xs : List S25) (i : Int) : S25 := xs.getD i.toNat z25
theorem at_T25 {w : World} {A : Option Addr} {n : Nat} {xs : List S25} (h : Kd.C k25 w A n xs) (i : Int) (h0 : 0 ≤ i) (h1 : i < n) : ∃ ad A9 c9 A10 c10, A = some ad ∧ w.cell? (ad.add (i.toNat * 11)) = some (.int .i64 (rd_T25 xs i).f0) ∧ w.cell? ⟨(ad.add (i.toNat * 11)).block, (ad.add (i.toNat * 11)).off + 1, none⟩ = some (.int .i64 (rd_T25 xs i).f1) ∧ w.cell? ⟨(ad.add (i.toNat * 11)).block, (ad.add (i.toNat * 11)).off + 2, none⟩ = some (.bool (rd_T25 xs i).f2) ∧ w.cell? ⟨(ad.add (i.toNat * 11)).block, (ad.add (i.toNat * 11)).off + 3, none⟩ = some (.bool (rd_T25 xs i).f3) ∧ w.cell? ⟨(ad.add (i.toNat * 11)).block, (ad.add (i.toNat * 11)).off + 4, none⟩ = some (.int .i64 (rd_T25 xs i).f4) ∧ w.cell? ⟨(ad.add (i.toNat * 11)).block, (ad.add (i.toNat * 11)).off + 5, none⟩ = some (.int .i64 (rd_T25 xs i).f5) ∧ w.cell? ⟨(ad.add (i.toNat * 11)).block, (ad.add (i.toNat * 11)).off + 6, none⟩ = some (.int .i64 (rd_T25 xs i).f6) ∧ w.cell? ⟨(ad.add (i.toNat * 11)).block, (ad.add (i.toNat * 11)).off + 7, none⟩ = some (.int .u32 (rd_T25 xs i).f7) ∧ w.cell? ⟨(ad.add (i.toNat * 11)).block, (ad.add (i.toNat * 11)).off + 8, none⟩ = some (.int .u32 (rd_T25 xs i).f8) ∧ w.cell? ⟨(ad.add (i.toNat * 11)).block, (ad.add (i.toNat * 11)).off + 9, none⟩ = some (.slice A9 (rd_T25 xs i).f9.length c9) ∧ w.cell? ⟨(ad.add (i.toNat * 11)).block, (ad.add (i.toNat * 11)).off + 10, none⟩ = some (.slice A10 (rd_T25 xs i).f10.length c10) ∧ (rd_T25 xs i).f9.length ≤ c9 ∧ (Kd.int .u8).C w A9 (rd_T25 xs i).f9.length (rd_T25 xs i).f9 ∧ (rd_T25 xs i).f10.length ≤ c10 ∧ (Kd.int .u8).C w A10 (rd_T25 xs i).f10.length (rd_T25 xs i).f10 := by
  obtain ⟨ad, c, e, _, hK, hc0⟩ := Kd.C_get h z25 i h0 h1
  have hc : ∀ j u, c[j]? = some u → w.cell? (ad.add (i.toNat * 11 + j)) = some u := hc0
  obtain ⟨A9, c9, A10, c10, rfl, l9, g9, l10, g10⟩ := k25_open hK
  exact ⟨ad, A9, c9, A10, c10, e, hc 0 _ rfl, by rw [← add_field _ _ 1 (by omega)]; exact hc 1 _ rfl, by rw [← add_field _ _ 2 (by omega)]; exact hc 2 _ rfl, by rw [← add_field _ _ 3 (by omega)]; exact hc 3 _ rfl, by rw [← add_field _ _ 4 (by omega)]; exact hc 4 _ rfl, by rw [← add_field _ _ 5 (by omega)]; exact hc 5 _ rfl, by rw [← add_field _ _ 6 (by omega)]; exact hc 6 _ rfl, by rw [← add_field _ _ 7 (by omega)]; exact hc 7 _ rfl, by rw [← add_field _ _ 8 (by omega)]; exact hc 8 _ rfl, by rw [← add_field _ _ 9 (by omega)]; exact hc 9 _ rfl, by rw [← add_field _ _ 10 (by omega)]; exact hc 10 _ rfl, l9, g9, l10, g10⟩

/-! #### struct type 46 -/
structure S46 where
  f0 : Int
  f1 : Int
  f2 : Int
  f3 : Int
  f4 : Int
  f5 : Int
  f6 : Int
  f7 : (List Int)
  f8 : (List Int)
def z46 : S46 := ⟨(0 : Int), (0 : Int), (0 : Int), (0 : Int), (0 : Int), (0 : Int), (0 : Int), ([] : List Int), ([] : List Int)⟩
def k46 : Kd S46 := Kd.iso (Kd.pair (Kd.int .i64) (Kd.pair (Kd.int .i64) (Kd.pair (Kd.int .u32) (Kd.pair (Kd.int .u32) (Kd.pair (Kd.int .i64) (Kd.pair (Kd.int .i64) (Kd.pair (Kd.int .i64) (Kd.pair (Kd.slice 5 (Kd.int .u8)) (Kd.slice 5 (Kd.int .u8)))))))))) (fun x : S46 => (x.f0, x.f1, x.f2, x.f3, x.f4, x.f5, x.f6, x.f7, x.f8))
theorem k46_heap : Kd.Heap k46 := Kd.heap_iso _ (Kd.heap_pair (Kd.heap_int .i64) (Kd.heap_pair (Kd.heap_int .i64) (Kd.heap_pair (Kd.heap_int .u32) (Kd.heap_pair (Kd.heap_int .u32) (Kd.heap_pair (Kd.heap_int .i64) (Kd.heap_pair (Kd.heap_int .i64) (Kd.heap_pair (Kd.heap_int .i64) (Kd.heap_pair (Kd.heap_slice 5 (Kd.heap_int .u8)) (Kd.heap_slice 5 (Kd.heap_int .u8))))))))))
theorem k46_open {w : World} {x : S46} {cs : List Value} (h : k46.K w x cs) : ∃ A7 c7 A8 c8, cs = [.int .i64 x.f0, .int .i64 x.f1, .int .u32 x.f2, .int .u32 x.f3, .int .i64 x.f4, .int .i64 x.f5, .int .i64 x.f6, .slice A7 x.f7.length c7, .slice A8 x.f8.length c8] ∧ x.f7.length ≤ c7 ∧ (Kd.int .u8).C w A7 x.f7.length x.f7 ∧ x.f8.length ≤ c8 ∧ (Kd.int .u8).C w A8 x.f8.length x.f8 := by
  obtain ⟨_, _, rfl, rfl, ⟨_, _, rfl, rfl, ⟨_, _, rfl, rfl, ⟨_, _, rfl, rfl, ⟨_, _, rfl, rfl, ⟨_, _, rfl, rfl, ⟨_, _, rfl, rfl, ⟨_, _, rfl, ⟨A7, c7, rfl, l7, g7⟩, ⟨A8, c8, rfl, l8, g8⟩⟩⟩⟩⟩⟩⟩⟩⟩ := h
  exact ⟨A7, c7, A8, c8, rfl, l7, g7, l8, g8⟩
theorem k46_openM {w : World} {base : Nat} {ok : Nat → Prop} {x : S46} {cs : List Value} (h : k46.M w base ok x cs) : ∃ v7 v8, cs = [.int .i64 x.f0, .int .i64 x.f1, .int .u32 x.f2, .int .u32 x.f3, .int .i64 x.f4, .int .i64 x.f5, .int .i64 x.f6, v7, v8] ∧ (Kd.int .u8).R 5 w base ok v7 x.f7 ∧ (Kd.int .u8).R 5 w base ok v8 x.f8 := by
  obtain ⟨_, _, rfl, rfl, ⟨_, _, rfl, rfl, ⟨_, _, rfl, rfl, ⟨_, _, rfl, rfl, ⟨_, _, rfl, rfl, ⟨_, _, rfl, rfl, ⟨_, _, rfl, rfl, ⟨_, _, rfl, ⟨v7, rfl, g7⟩, ⟨v8, rfl, g8⟩⟩⟩⟩⟩⟩⟩⟩⟩ := h
  exact ⟨v7, v8, rfl, g7, g8⟩
theorem k46_mk (w : World) (x : S46) {A7 : Option Addr} {c7 : Nat} (l7 : x.f7.length ≤ c7) (g7 : (Kd.int .u8).C w A7 x.f7.length x.f7) {A8 : Option Addr} {c8 : Nat} (l8 : x.f8.length ≤ c8) (g8 : (Kd.int .u8).C w A8 x.f8.length x.f8) : k46.K w x [.int .i64 x.f0, .int .i64 x.f1, .int .u32 x.f2, .int .u32 x.f3, .int .i64 x.f4, .int .i64 x.f5, .int .i64 x.f6, .slice A7 x.f7.length c7, .slice A8 x.f8.length c8] := ⟨[.int .i64 x.f0], [.int .i64 x.f1, .int .u32 x.f2, .int .u32 x.f3, .int .i64 x.f4, .int .i64 x.f5, .int .i64 x.f6, .slice A7 x.f7.length c7, .slice A8 x.f8.length c8], rfl, rfl, ⟨[.int .i64 x.f1], [.int .u32 x.f2, .int .u32 x.f3, .int .i64 x.f4, .int .i64 x.f5, .int .i64 x.f6, .slice A7 x.f7.length c7, .slice A8 x.f8.length c8], rfl, rfl, ⟨[.int .u32 x.f2], [.int .u32 x.f3, .int .i64 x.f4, .int .i64 x.f5, .int .i64 x.f6, .slice A7 x.f7.length c7, .slice A8 x.f8.length c8], rfl, rfl, ⟨[.int .u32 x.f3], [.int .i64 x.f4, .int .i64 x.f5, .int .i64 x.f6, .slice A7 x.f7.length c7, .slice A8 x.f8.length c8], rfl, rfl, ⟨[.int .i64 x.f4], [.int .i64 x.f5, .int .i64 x.f6, .slice A7 x.f7.length c7, .slice A8 x.f8.length c8], rfl, rfl, ⟨[.int .i64 x.f5], [.int .i64 x.f6, .slice A7 x.f7.length c7, .slice A8 x.f8.length c8], rfl, rfl, ⟨[.int .i64 x.f6], [.slice A7 x.f7.length c7, .slice A8 x.f8.length c8], rfl, rfl, ⟨[.slice A7 x.f7.length c7], [.slice A8 x.f8.length c8], rfl, ⟨A7, c7, rfl, l7, g7⟩, ⟨A8, c8, rfl, l8, g8⟩⟩⟩⟩⟩⟩⟩⟩⟩
theorem k46_mkM (w : World) (base : Nat) (ok : Nat → Prop) (x : S46) {v7 : Value} (g7 : (Kd.int .u8).R 5 w base ok v7 x.f7) {v8 : Value} (g8 : (Kd.int .u8).R 5 w base ok v8 x.f8) : k46.M w base ok x [.int .i64 x.f0, .int .i64 x.f1, .int .u32 x.f2, .int .u32 x.f3, .int .i64 x.f4, .int .i64 x.f5, .int .i64 x.f6, v7, v8] := ⟨[.int .i64 x.f0], [.int .i64 x.f1, .int .u32 x.f2, .int .u32 x.f3, .int .i64 x.f4, .int .i64 x.f5, .int .i64 x.f6, v7, v8], rfl, rfl, ⟨[.int .i64 x.f1], [.int .u32 x.f2, .int .u32 x.f3, .int .i64 x.f4, .int .i64 x.f5, .int .i64 x.f6, v7, v8], rfl, rfl, ⟨[.int .u32 x.f2], [.int .u32 x.f3, .int .i64 x.f4, .int .i64 x.f5, .int .i64 x.f6, v7, v8], rfl, rfl, ⟨[.int .u32 x.f3], [.int .i64 x.f4, .int .i64 x.f5, .int .i64 x.f6, v7, v8], rfl, rfl, ⟨[.int .i64 x.f4], [.int .i64 x.f5, .int .i64 x.f6, v7, v8], rfl, rfl, ⟨[.int .i64 x.f5], [.int .i64 x.f6, v7, v8], rfl, rfl, ⟨[.int .i64 x.f6], [v7, v8], rfl, rfl, ⟨[v7], [v8], rfl, ⟨v7, rfl, g7⟩, ⟨v8, rfl, g8⟩⟩⟩⟩⟩⟩⟩⟩⟩
def rd_T46 (xs : List S46) (i : Int) : S46 := xs.getD i.toNat z46
theorem at_T46 {w : World} {A : Option Addr} {n : Nat} {xs : List S46} (h : Kd.C k46 w A n xs) (i : Int) (h0 : 0 ≤ i) (h1 : i < n) : ∃ ad A7 c7 A8 c8, A = some ad ∧ w.cell? (ad.add (i.toNat * 9)) = some (.int .i64 (rd_T46 xs i).f0) ∧ w.cell? ⟨(ad.add (i.toNat * 9)).block, (ad.add (i.toNat * 9)).off + 1, none⟩ = some (.int .i64 (rd_T46 xs i).f1) ∧ w.cell? ⟨(ad.add (i.toNat * 9)).block, (ad.add (i.toNat * 9)).off + 2, none⟩ = some (.int .u32 (rd_T46 xs i).f2) ∧ w.cell? ⟨(ad.add (i.toNat * 9)).block, (ad.add (i.toNat * 9)).off + 3, none⟩ = some (.int .u32 (rd_T46 xs i).f3) ∧ w.cell? ⟨(ad.add (i.toNat * 9)).block, (ad.add (i.toNat * 9)).off + 4, none⟩ = some (.int .i64 (rd_T46 xs i).f4) ∧ w.cell? ⟨(ad.add (i.toNat * 9)).block, (ad.add (i.toNat * 9)).off + 5, none⟩ = some (.int .i64 (rd_T46 xs i).f5) ∧ w.cell? ⟨(ad.add (i.toNat * 9)).block, (ad.add (i.toNat * 9)).off + 6, none⟩ = some (.int .i64 (rd_T46 xs i).f6) ∧ w.cell? ⟨(ad.add (i.toNat * 9)).block, (ad.add (i.toNat * 9)).off + 7, none⟩ = some (.slice A7 (rd_T46 xs i).f7.length c7) ∧ w.cell? ⟨(ad.add (i.toNat * 9)).block, (ad.add (i.toNat * 9)).off + 8, none⟩ = some (.slice A8 (rd_T46 xs i).f8.length c8) ∧ (rd_T46 xs i).f7.length ≤ c7 ∧ (Kd.int .u8).C w A7 (rd_T46 xs i).f7.length (rd_T46 xs i).f7 ∧ (rd_T46 xs i).f8.length ≤ c8 ∧ (Kd.int .u8).C w A8 (rd_T46 xs i).f8.length (rd_T46 xs i).f8 := by
  obtain ⟨ad, c, e, _, hK, hc0⟩ := Kd.C_get h z46 i h0 h1
  have hc : ∀ j u, c[j]? = some u → w.cell? (ad.add (i.toNat * 9 + j)) = some u := hc0
  obtain ⟨A7, c7, A8, c8, rfl, l7, g7, l8, g8⟩ := k46_open hK
  exact ⟨ad, A7, c7, A8, c8, e, hc 0 _ rfl, by rw [← add_field _ _ 1 (by omega)]; exact hc 1 _ rfl, by rw [← add_field _ _ 2 (by omega)]; exact hc 2 _ rfl, by rw [← add_field _ _ 3 (by omega)]; exact hc 3 _ rfl, by rw [← add_field _ _ 4 (by omega)]; exact hc 4 _ rfl, by rw [← add_field _ _ 5 (by omega)]; exact hc 5 _ rfl, by rw [← add_field _ _ 6 (by omega)]; exact hc 6 _ rfl, by rw [← add_field _ _ 7 (by omega)]; exact hc 7 _ rfl, by rw [← add_field _ _ 8 (by omega)]; exact hc 8 _ rfl, l7, g7, l8, g8⟩

/-! #### struct type 48 -/
structure S48 where
  f0 : Int
  f1 : Int
  f2 : S46
def z48 : S48 := ⟨(0 : Int), (0 : Int), z46⟩
def k48 : Kd S48 := Kd.iso (Kd.pair (Kd.int .u32) (Kd.pair (Kd.int .u32) k46)) (fun x : S48 => (x.f0, x.f1, x.f2))
theorem k48_heap : Kd.Heap k48 := Kd.heap_iso _ (Kd.heap_pair (Kd.heap_int .u32) (Kd.heap_pair (Kd.heap_int .u32) k46_heap))
theorem k48_open {w : World} {x : S48} {cs : List Value} (h : k48.K w x cs) : ∃ A9 c9 A10 c10, cs = [.int .u32 x.f0, .int .u32 x.f1, .int .i64 x.f2.f0, .int .i64 x.f2.f1, .int .u32 x.f2.f2, .int .u32 x.f2.f3, .int .i64 x.f2.f4, .int .i64 x.f2.f5, .int .i64 x.f2.f6, .slice A9 x.f2.f7.length c9, .slice A10 x.f2.f8.length c10] ∧ x.f2.f7.length ≤ c9 ∧ (Kd.int .u8).C w A9 x.f2.f7.length x.f2.f7 ∧ x.f2.f8.length ≤ c10 ∧ (Kd.int .u8).C w A10 x.f2.f8.length x.f2.f8 := by
  obtain ⟨_, _, rfl, rfl, ⟨_, _, rfl, rfl, s2⟩⟩ := h
  obtain ⟨A9, c9, A10, c10, rfl, l9, g9, l10, g10⟩ := k46_open s2
  exact ⟨A9, c9, A10, c10, rfl, l9, g9, l10, g10⟩
theorem k48_openM {w : World} {base : Nat} {ok : Nat → Prop} {x : S48} {cs : List Value} (h : k48.M w base ok x cs) : ∃ v9 v10, cs = [.int .u32 x.f0, .int .u32 x.f1, .int .i64 x.f2.f0, .int .i64 x.f2.f1, .int .u32 x.f2.f2, .int .u32 x.f2.f3, .int .i64 x.f2.f4, .int .i64 x.f2.f5, .int .i64 x.f2.f6, v9, v10] ∧ (Kd.int .u8).R 5 w base ok v9 x.f2.f7 ∧ (Kd.int .u8).R 5 w base ok v10 x.f2.f8 := by
  obtain ⟨_, _, rfl, rfl, ⟨_, _, rfl, rfl, s2⟩⟩ := h
  obtain ⟨v9, v10, rfl, g9, g10⟩ := k46_openM s2
  exact ⟨v9, v10, rfl, g9, g10⟩
theorem k48_mk (w : World) (x : S48) {A9 : Option Addr} {c9 : Nat} (l9 : x.f2.f7.length ≤ c9) (g9 : (Kd.int .u8).C w A9 x.f2.f7.length x.f2.f7) {A10 : Option Addr} {c10 : Nat} (l10 : x.f2.f8.length ≤ c10) (g10 : (Kd.int .u8).C w A10 x.f2.f8.length x.f2.f8) : k48.K w x [.int .u32 x.f0, .int .u32 x.f1, .int .i64 x.f2.f0, .int .i64 x.f2.f1, .int .u32 x.f2.f2, .int .u32 x.f2.f3, .int .i64 x.f2.f4, .int .i64 x.f2.f5, .int .i64 x.f2.f6, .slice A9 x.f2.f7.length c9, .slice A10 x.f2.f8.length c10] := ⟨[.int .u32 x.f0], [.int .u32 x.f1, .int .i64 x.f2.f0, .int .i64 x.f2.f1, .int .u32 x.f2.f2, .int .u32 x.f2.f3, .int .i64 x.f2.f4, .int .i64 x.f2.f5, .int .i64 x.f2.f6, .slice A9 x.f2.f7.length c9, .slice A10 x.f2.f8.length c10], rfl, rfl, ⟨[.int .u32 x.f1], [.int .i64 x.f2.f0, .int .i64 x.f2.f1, .int .u32 x.f2.f2, .int .u32 x.f2.f3, .int .i64 x.f2.f4, .int .i64 x.f2.f5, .int .i64 x.f2.f6, .slice A9 x.f2.f7.length c9, .slice A10 x.f2.f8.length c10], rfl, rfl, (k46_mk w x.f2 l9 g9 l10 g10)⟩⟩
theorem k48_mkM (w : World) (base : Nat) (ok : Nat → Prop) (x : S48) {v9 : Value} (g9 : (Kd.int .u8).R 5 w base ok v9 x.f2.f7) {v10 : Value} (g10 : (Kd.int .u8).R 5 w base ok v10 x.f2.f8) : k48.M w base ok x [.int .u32 x.f0, .int .u32 x.f1, .int .i64 x.f2.f0, .int .i64 x.f2.f1, .int .u32 x.f2.f2, .int .u32 x.f2.f3, .int .i64 x.f2.f4, .int .i64 x.f2.f5, .int .i64 x.f2.f6, v9, v10] := ⟨[.int .u32 x.f0], [.int .u32 x.f1, .int .i64 x.f2.f0, .int .i64 x.f2.f1, .int .u32 x.f2.f2, .int .u32 x.f2.f3, .int .i64 x.f2.f4, .int .i64 x.f2.f5, .int .i64 x.f2.f6, v9, v10], rfl, rfl, ⟨[.int .u32 x.f1], [.int .i64 x.f2.f0, .int .i64 x.f2.f1, .int .u32 x.f2.f2, .int .u32 x.f2.f3, .int .i64 x.f2.f4, .int .i64 x.f2.f5, .int .i64 x.f2.f6, v9, v10], rfl, rfl, (k46_mkM w base ok x.f2 g9 g10)⟩⟩
def rd_T48 (xs : List S48) (i : Int) : S48 := xs.getD i.toNat z48
theorem at_T48 {w : World} {A : Option Addr} {n : Nat} {xs : List S48} (h : Kd.C k48 w A n xs) (i : Int) (h0 : 0 ≤ i) (h1 : i < n) : ∃ ad A9 c9 A10 c10, A = some ad ∧ w.cell? (ad.add (i.toNat * 11)) = some (.int .u32 (rd_T48 xs i).f0) ∧ w.cell? ⟨(ad.add (i.toNat * 11)).block, (ad.add (i.toNat * 11)).off + 1, none⟩ = some (.int .u32 (rd_T48 xs i).f1) ∧ w.cell? ⟨(ad.add (i.toNat * 11)).block, (ad.add (i.toNat * 11)).off + 2, none⟩ = some (.int .i64 (rd_T48 xs i).f2.f0) ∧ w.cell? ⟨(ad.add (i.toNat * 11)).block, (ad.add (i.toNat * 11)).off + 3, none⟩ = some (.int .i64 (rd_T48 xs i).f2.f1) ∧ w.cell? ⟨(ad.add (i.toNat * 11)).block, (ad.add (i.toNat * 11)).off + 4, none⟩ = some (.int .u32 (rd_T48 xs i).f2.f2) ∧ w.cell? ⟨(ad.add (i.toNat * 11)).block, (ad.add (i.toNat * 11)).off + 5, none⟩ = some (.int .u32 (rd_T48 xs i).f2.f3) ∧ w.cell? ⟨(ad.add (i.toNat * 11)).block, (ad.add (i.toNat * 11)).off + 6, none⟩ = some (.int .i64 (rd_T48 xs i).f2.f4) ∧ w.cell? ⟨(ad.add (i.toNat * 11)).block, (ad.add (i.toNat * 11)).off + 7, none⟩ = some (.int .i64 (rd_T48 xs i).f2.f5) ∧ w.cell? ⟨(ad.add (i.toNat * 11)).block, (ad.add (i.toNat * 11)).off + 8, none⟩ = some (.int .i64 (rd_T48 xs i).f2.f6) ∧ w.cell? ⟨(ad.add (i.toNat * 11)).block, (ad.add (i.toNat * 11)).off + 9, none⟩ = some (.slice A9 (rd_T48 xs i).f2.f7.length c9) ∧ w.cell? ⟨(ad.add (i.toNat * 11)).block, (ad.add (i.toNat * 11)).off + 10, none⟩ = some (.slice A10 (rd_T48 xs i).f2.f8.length c10) ∧ (rd_T48 xs i).f2.f7.length ≤ c9 ∧ (Kd.int .u8).C w A9 (rd_T48 xs i).f2.f7.length (rd_T48 xs i).f2.f7 ∧ (rd_T48 xs i).f2.f8.length ≤ c10 ∧ (Kd.int .u8).C w A10 (rd_T48 xs i).f2.f8.length (rd_T48 xs i).f2.f8 := by
  obtain ⟨ad, c, e, _, hK, hc0⟩ := Kd.C_get h z48 i h0 h1
  have hc : ∀ j u, c[j]? = some u → w.cell? (ad.add (i.toNat * 11 + j)) = some u := hc0
  obtain ⟨A9, c9, A10, c10, rfl, l9, g9, l10, g10⟩ := k48_open hK
  exact ⟨ad, A9, c9, A10, c10, e, hc 0 _ rfl, by rw [← add_field _ _ 1 (by omega)]; exact hc 1 _ rfl, by rw [← add_field _ _ 2 (by omega)]; exact hc 2 _ rfl, by rw [← add_field _ _ 3 (by omega)]; exact hc 3 _ rfl, by rw [← add_field _ _ 4 (by omega)]; exact hc 4 _ rfl, by rw [← add_field _ _ 5 (by omega)]; exact hc 5 _ rfl, by rw [← add_field _ _ 6 (by omega)]; exact hc 6 _ rfl, by rw [← add_field _ _ 7 (by omega)]; exact hc 7 _ rfl, by rw [← add_field _ _ 8 (by omega)]; exact hc 8 _ rfl, by rw [← add_field _ _ 9 (by omega)]; exact hc 9 _ rfl, by rw [← add_field _ _ 10 (by omega)]; exact hc 10 _ rfl, l9, g9, l10, g10⟩

end Go.Proofs.Ythnhpbplglmmmaa.P
