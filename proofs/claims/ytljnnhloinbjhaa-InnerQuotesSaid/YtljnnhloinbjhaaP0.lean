-- Laid by a program (wip/tools/myprint.py) out of the translation. Not trusted: Lean checks it.
import Derived.Test.YtljnnhloinbjhaaProg
import Derived.Below
import Derived.Deep.Draws
import Derived.Deep.AppendLies
import Derived.Maps.AppendAt
import Derived.OwnWalk
import Derived.Laws.BytesArg
import Derived.Laws.MakeOwn
import Derived.Laws.OwnMore
import Derived.Deep.OwnRows
import Derived.Tactics
import Derived.Lib.ConvBytes
import Derived.Laws.Slices
import Derived.WalkKit
import Derived.KernelRfl
import Derived.RowKit3
import Derived.Deep.LoopGhost
import Derived.Deep.QuietTactic
import Derived.BigQuiet
import Derived.WideLaws
import Derived.Deep.DeepCutAuto
import Derived.Deep.CutBlock
import Derived.Deep.RegionHeld3
import Derived.Laws.Rows
import Derived.Lib.AppendStr
import Derived.ArgAppend
import Derived.Laws.IdiomCopy
import Derived.OrdersHeld
import Derived.Laws.BitsLemmas
import Derived.RowKit
import Derived.Deep.RegionLaw
import Derived.Recover
import Derived.Defers
import Derived.Deep.DeepFit
import Derived.Test.YtljnnhloinbjhaaWAll
namespace Go.Proofs.Ytljnnhloinbjhaa.P
open Go.RowKit Go.Proofs.YtljnnhloinbjhaaW.PrintWords Go.Proofs.YtljnnhloinbjhaaW.PrintLast
set_option linter.unusedVariables false
set_option linter.unusedSimpArgs false



def errW : Option Int → Value
  | none => .nilIface
  | some c => .iface 0 (.int .i64 c)
theorem errW_none : errW none = .nilIface := rfl
theorem errW_some (c : Int) : errW (some c) = .iface 0 (.int .i64 c) := rfl

theorem info3 : (Try.prog.info? 3).map (fun i => (i.zero, i.size, i.bytes)) = some (some (.int .i64 0), 1, 8) := by kernel_rfl
theorem info5 : (Try.prog.info? 5).map (fun i => (i.zero, i.size, i.bytes)) = some (some (.int .u8 0), 1, 1) := by kernel_rfl
theorem info23 : (Try.prog.info? 23).map (fun i => (i.zero, i.size, i.bytes)) = some (some (.slice none 0 0), 1, 24) := by kernel_rfl
-- the values' own types
def rd_L1 (xs : List (List Int)) (i : Int) : (List Int) := xs.getD i.toNat ([] : List Int)
theorem at_L1 {w : World} {A : Option Addr} {n : Nat} {xs : List (List Int)} (h : Kd.C (Kd.slice 5 (Kd.int .u8)) w A n xs) (i : Int) (h0 : 0 ≤ i) (h1 : i < n) : ∃ ad A0 c0, A = some ad ∧ w.cell? (ad.add i.toNat) = some (.slice A0 (rd_L1 xs i).length c0) ∧ (rd_L1 xs i).length ≤ c0 ∧ (Kd.int .u8).C w A0 (rd_L1 xs i).length (rd_L1 xs i) := by
  obtain ⟨ad, c, e, _, hK, hc0⟩ := Kd.C_get h ([] : List Int) i h0 h1
  have hc : ∀ j u, c[j]? = some u → w.cell? (ad.add (i.toNat * 1 + j)) = some u := hc0
  obtain ⟨A0, c0, rfl, l0, g0⟩ := hK
  exact ⟨ad, A0, c0, e, by have hq := hc 0 _ rfl; rwa [Nat.mul_one, Nat.add_zero] at hq, l0, g0⟩

def rd_L5 (xs : List (List (List Int))) (i : Int) : (List (List Int)) := xs.getD i.toNat ([] : List (List Int))
theorem at_L5 {w : World} {A : Option Addr} {n : Nat} {xs : List (List (List Int))} (h : Kd.C (Kd.slice 23 (Kd.slice 5 (Kd.int .u8))) w A n xs) (i : Int) (h0 : 0 ≤ i) (h1 : i < n) : ∃ ad A0 c0, A = some ad ∧ w.cell? (ad.add i.toNat) = some (.slice A0 (rd_L5 xs i).length c0) ∧ (rd_L5 xs i).length ≤ c0 ∧ (Kd.slice 5 (Kd.int .u8)).C w A0 (rd_L5 xs i).length (rd_L5 xs i) := by
  obtain ⟨ad, c, e, _, hK, hc0⟩ := Kd.C_get h ([] : List (List Int)) i h0 h1
  have hc : ∀ j u, c[j]? = some u → w.cell? (ad.add (i.toNat * 1 + j)) = some u := hc0
  obtain ⟨A0, c0, rfl, l0, g0⟩ := hK
  exact ⟨ad, A0, c0, e, by have hq := hc 0 _ rfl; rwa [Nat.mul_one, Nat.add_zero] at hq, l0, g0⟩

/-! #### struct type 96 -/
structure S96 where
  f0 : Int
  f1 : Int
  f2 : Int
  f3 : Int
  f4 : Int
  f5 : Int
  f6 : Int
  f7 : (List Int)
  f8 : (List Int)
def z96 : S96 := ⟨(0 : Int), (0 : Int), (0 : Int), (0 : Int), (0 : Int), (0 : Int), (0 : Int), ([] : List Int), ([] : List Int)⟩
def k96 : Kd S96 := Kd.iso (Kd.pair (Kd.int .i64) (Kd.pair (Kd.int .i64) (Kd.pair (Kd.int .u32) (Kd.pair (Kd.int .u32) (Kd.pair (Kd.int .i64) (Kd.pair (Kd.int .i64) (Kd.pair (Kd.int .i64) (Kd.pair (Kd.slice 5 (Kd.int .u8)) (Kd.slice 5 (Kd.int .u8)))))))))) (fun x : S96 => (x.f0, x.f1, x.f2, x.f3, x.f4, x.f5, x.f6, x.f7, x.f8))
theorem k96_heap : Kd.Heap k96 := Kd.heap_iso _ (Kd.heap_pair (Kd.heap_int .i64) (Kd.heap_pair (Kd.heap_int .i64) (Kd.heap_pair (Kd.heap_int .u32) (Kd.heap_pair (Kd.heap_int .u32) (Kd.heap_pair (Kd.heap_int .i64) (Kd.heap_pair (Kd.heap_int .i64) (Kd.heap_pair (Kd.heap_int .i64) (Kd.heap_pair (Kd.heap_slice 5 (Kd.heap_int .u8)) (Kd.heap_slice 5 (Kd.heap_int .u8))))))))))
theorem k96_open {w : World} {x : S96} {cs : List Value} (h : k96.K w x cs) : ∃ A7 c7 A8 c8, cs = [.int .i64 x.f0, .int .i64 x.f1, .int .u32 x.f2, .int .u32 x.f3, .int .i64 x.f4, .int .i64 x.f5, .int .i64 x.f6, .slice A7 x.f7.length c7, .slice A8 x.f8.length c8] ∧ x.f7.length ≤ c7 ∧ (Kd.int .u8).C w A7 x.f7.length x.f7 ∧ x.f8.length ≤ c8 ∧ (Kd.int .u8).C w A8 x.f8.length x.f8 := by
  obtain ⟨_, _, rfl, rfl, ⟨_, _, rfl, rfl, ⟨_, _, rfl, rfl, ⟨_, _, rfl, rfl, ⟨_, _, rfl, rfl, ⟨_, _, rfl, rfl, ⟨_, _, rfl, rfl, ⟨_, _, rfl, ⟨A7, c7, rfl, l7, g7⟩, ⟨A8, c8, rfl, l8, g8⟩⟩⟩⟩⟩⟩⟩⟩⟩ := h
  exact ⟨A7, c7, A8, c8, rfl, l7, g7, l8, g8⟩
theorem k96_openM {w : World} {base : Nat} {ok : Nat → Prop} {x : S96} {cs : List Value} (h : k96.M w base ok x cs) : ∃ v7 v8, cs = [.int .i64 x.f0, .int .i64 x.f1, .int .u32 x.f2, .int .u32 x.f3, .int .i64 x.f4, .int .i64 x.f5, .int .i64 x.f6, v7, v8] ∧ (Kd.int .u8).R 5 w base ok v7 x.f7 ∧ (Kd.int .u8).R 5 w base ok v8 x.f8 := by
  obtain ⟨_, _, rfl, rfl, ⟨_, _, rfl, rfl, ⟨_, _, rfl, rfl, ⟨_, _, rfl, rfl, ⟨_, _, rfl, rfl, ⟨_, _, rfl, rfl, ⟨_, _, rfl, rfl, ⟨_, _, rfl, ⟨v7, rfl, g7⟩, ⟨v8, rfl, g8⟩⟩⟩⟩⟩⟩⟩⟩⟩ := h
  exact ⟨v7, v8, rfl, g7, g8⟩
theorem k96_mk (w : World) (x : S96) {A7 : Option Addr} {c7 : Nat} (l7 : x.f7.length ≤ c7) (g7 : (Kd.int .u8).C w A7 x.f7.length x.f7) {A8 : Option Addr} {c8 : Nat} (l8 : x.f8.length ≤ c8) (g8 : (Kd.int .u8).C w A8 x.f8.length x.f8) : k96.K w x [.int .i64 x.f0, .int .i64 x.f1, .int .u32 x.f2, .int .u32 x.f3, .int .i64 x.f4, .int .i64 x.f5, .int .i64 x.f6, .slice A7 x.f7.length c7, .slice A8 x.f8.length c8] := ⟨[.int .i64 x.f0], [.int .i64 x.f1, .int .u32 x.f2, .int .u32 x.f3, .int .i64 x.f4, .int .i64 x.f5, .int .i64 x.f6, .slice A7 x.f7.length c7, .slice A8 x.f8.length c8], rfl, rfl, ⟨[.int .i64 x.f1], [.int .u32 x.f2, .int .u32 x.f3, .int .i64 x.f4, .int .i64 x.f5, .int .i64 x.f6, .slice A7 x.f7.length c7, .slice A8 x.f8.length c8], rfl, rfl, ⟨[.int .u32 x.f2], [.int .u32 x.f3, .int .i64 x.f4, .int .i64 x.f5, .int .i64 x.f6, .slice A7 x.f7.length c7, .slice A8 x.f8.length c8], rfl, rfl, ⟨[.int .u32 x.f3], [.int .i64 x.f4, .int .i64 x.f5, .int .i64 x.f6, .slice A7 x.f7.length c7, .slice A8 x.f8.length c8], rfl, rfl, ⟨[.int .i64 x.f4], [.int .i64 x.f5, .int .i64 x.f6, .slice A7 x.f7.length c7, .slice A8 x.f8.length c8], rfl, rfl, ⟨[.int .i64 x.f5], [.int .i64 x.f6, .slice A7 x.f7.length c7, .slice A8 x.f8.length c8], rfl, rfl, ⟨[.int .i64 x.f6], [.slice A7 x.f7.length c7, .slice A8 x.f8.length c8], rfl, rfl, ⟨[.slice A7 x.f7.length c7], [.slice A8 x.f8.length c8], rfl, ⟨A7, c7, rfl, l7, g7⟩, ⟨A8, c8, rfl, l8, g8⟩⟩⟩⟩⟩⟩⟩⟩⟩
theorem k96_mkM (w : World) (base : Nat) (ok : Nat → Prop) (x : S96) {v7 : Value} (g7 : (Kd.int .u8).R 5 w base ok v7 x.f7) {v8 : Value} (g8 : (Kd.int .u8).R 5 w base ok v8 x.f8) : k96.M w base ok x [.int .i64 x.f0, .int .i64 x.f1, .int .u32 x.f2, .int .u32 x.f3, .int .i64 x.f4, .int .i64 x.f5, .int .i64 x.f6, v7, v8] := ⟨[.int .i64 x.f0], [.int .i64 x.f1, .int .u32 x.f2, .int .u32 x.f3, .int .i64 x.f4, .int .i64 x.f5, .int .i64 x.f6, v7, v8], rfl, rfl, ⟨[.int .i64 x.f1], [.int .u32 x.f2, .int .u32 x.f3, .int .i64 x.f4, .int .i64 x.f5, .int .i64 x.f6, v7, v8], rfl, rfl, ⟨[.int .u32 x.f2], [.int .u32 x.f3, .int .i64 x.f4, .int .i64 x.f5, .int .i64 x.f6, v7, v8], rfl, rfl, ⟨[.int .u32 x.f3], [.int .i64 x.f4, .int .i64 x.f5, .int .i64 x.f6, v7, v8], rfl, rfl, ⟨[.int .i64 x.f4], [.int .i64 x.f5, .int .i64 x.f6, v7, v8], rfl, rfl, ⟨[.int .i64 x.f5], [.int .i64 x.f6, v7, v8], rfl, rfl, ⟨[.int .i64 x.f6], [v7, v8], rfl, rfl, ⟨[v7], [v8], rfl, ⟨v7, rfl, g7⟩, ⟨v8, rfl, g8⟩⟩⟩⟩⟩⟩⟩⟩⟩
def rd_T96 (xs : List S96) (i : Int) : S96 := xs.getD i.toNat z96
theorem at_T96 {w : World} {A : Option Addr} {n : Nat} {xs : List S96} (h : Kd.C k96 w A n xs) (i : Int) (h0 : 0 ≤ i) (h1 : i < n) : ∃ ad A7 c7 A8 c8, A = some ad ∧ w.cell? (ad.add (i.toNat * 9)) = some (.int .i64 (rd_T96 xs i).f0) ∧ w.cell? ⟨(ad.add (i.toNat * 9)).block, (ad.add (i.toNat * 9)).off + 1, none⟩ = some (.int .i64 (rd_T96 xs i).f1) ∧ w.cell? ⟨(ad.add (i.toNat * 9)).block, (ad.add (i.toNat * 9)).off + 2, none⟩ = some (.int .u32 (rd_T96 xs i).f2) ∧ w.cell? ⟨(ad.add (i.toNat * 9)).block, (ad.add (i.toNat * 9)).off + 3, none⟩ = some (.int .u32 (rd_T96 xs i).f3) ∧ w.cell? ⟨(ad.add (i.toNat * 9)).block, (ad.add (i.toNat * 9)).off + 4, none⟩ = some (.int .i64 (rd_T96 xs i).f4) ∧ w.cell? ⟨(ad.add (i.toNat * 9)).block, (ad.add (i.toNat * 9)).off + 5, none⟩ = some (.int .i64 (rd_T96 xs i).f5) ∧ w.cell? ⟨(ad.add (i.toNat * 9)).block, (ad.add (i.toNat * 9)).off + 6, none⟩ = some (.int .i64 (rd_T96 xs i).f6) ∧ w.cell? ⟨(ad.add (i.toNat * 9)).block, (ad.add (i.toNat * 9)).off + 7, none⟩ = some (.slice A7 (rd_T96 xs i).f7.length c7) ∧ w.cell? ⟨(ad.add (i.toNat * 9)).block, (ad.add (i.toNat * 9)).off + 8, none⟩ = some (.slice A8 (rd_T96 xs i).f8.length c8) ∧ (rd_T96 xs i).f7.length ≤ c7 ∧ (Kd.int .u8).C w A7 (rd_T96 xs i).f7.length (rd_T96 xs i).f7 ∧ (rd_T96 xs i).f8.length ≤ c8 ∧ (Kd.int .u8).C w A8 (rd_T96 xs i).f8.length (rd_T96 xs i).f8 := by
  obtain ⟨ad, c, e, _, hK, hc0⟩ := Kd.C_get h z96 i h0 h1
  have hc : ∀ j u, c[j]? = some u → w.cell? (ad.add (i.toNat * 9 + j)) = some u := hc0
  obtain ⟨A7, c7, A8, c8, rfl, l7, g7, l8, g8⟩ := k96_open hK
  exact ⟨ad, A7, c7, A8, c8, e, hc 0 _ rfl, by rw [← add_field _ _ 1 (by omega)]; exact hc 1 _ rfl, by rw [← add_field _ _ 2 (by omega)]; exact hc 2 _ rfl, by rw [← add_field _ _ 3 (by omega)]; exact hc 3 _ rfl, by rw [← add_field _ _ 4 (by omega)]; exact hc 4 _ rfl, by rw [← add_field _ _ 5 (by omega)]; exact hc 5 _ rfl, by rw [← add_field _ _ 6 (by omega)]; exact hc 6 _ rfl, by rw [← add_field _ _ 7 (by omega)]; exact hc 7 _ rfl, by rw [← add_field _ _ 8 (by omega)]; exact hc 8 _ rfl, l7, g7, l8, g8⟩

/-! #### struct type 29 -/
structure S29 where
  f0 : Int
  f1 : Int
  f2 : Bool
  f3 : Bool
  f4 : Int
  f5 : Int
  f6 : Int
  f7 : Int
  f8 : Int
  f9 : (List Int)
  f10 : (List Int)
def z29 : S29 := ⟨(0 : Int), (0 : Int), false, false, (0 : Int), (0 : Int), (0 : Int), (0 : Int), (0 : Int), ([] : List Int), ([] : List Int)⟩
def k29 : Kd S29 := Kd.iso (Kd.pair (Kd.int .i64) (Kd.pair (Kd.int .i64) (Kd.pair Kd.bool (Kd.pair Kd.bool (Kd.pair (Kd.int .i64) (Kd.pair (Kd.int .i64) (Kd.pair (Kd.int .i64) (Kd.pair (Kd.int .u32) (Kd.pair (Kd.int .u32) (Kd.pair (Kd.slice 5 (Kd.int .u8)) (Kd.slice 5 (Kd.int .u8)))))))))))) (fun x : S29 => (x.f0, x.f1, x.f2, x.f3, x.f4, x.f5, x.f6, x.f7, x.f8, x.f9, x.f10))
theorem k29_heap : Kd.Heap k29 := Kd.heap_iso _ (Kd.heap_pair (Kd.heap_int .i64) (Kd.heap_pair (Kd.heap_int .i64) (Kd.heap_pair Kd.heap_bool (Kd.heap_pair Kd.heap_bool (Kd.heap_pair (Kd.heap_int .i64) (Kd.heap_pair (Kd.heap_int .i64) (Kd.heap_pair (Kd.heap_int .i64) (Kd.heap_pair (Kd.heap_int .u32) (Kd.heap_pair (Kd.heap_int .u32) (Kd.heap_pair (Kd.heap_slice 5 (Kd.heap_int .u8)) (Kd.heap_slice 5 (Kd.heap_int .u8))))))))))))
theorem k29_open {w : World} {x : S29} {cs : List Value} (h : k29.K w x cs) : ∃ A9 c9 A10 c10, cs = [.int .i64 x.f0, .int .i64 x.f1, .bool x.f2, .bool x.f3, .int .i64 x.f4, .int .i64 x.f5, .int .i64 x.f6, .int .u32 x.f7, .int .u32 x.f8, .slice A9 x.f9.length c9, .slice A10 x.f10.length c10] ∧ x.f9.length ≤ c9 ∧ (Kd.int .u8).C w A9 x.f9.length x.f9 ∧ x.f10.length ≤ c10 ∧ (Kd.int .u8).C w A10 x.f10.length x.f10 := by
  obtain ⟨_, _, rfl, rfl, ⟨_, _, rfl, rfl, ⟨_, _, rfl, rfl, ⟨_, _, rfl, rfl, ⟨_, _, rfl, rfl, ⟨_, _, rfl, rfl, ⟨_, _, rfl, rfl, ⟨_, _, rfl, rfl, ⟨_, _, rfl, rfl, ⟨_, _, rfl, ⟨A9, c9, rfl, l9, g9⟩, ⟨A10, c10, rfl, l10, g10⟩⟩⟩⟩⟩⟩⟩⟩⟩⟩⟩ := h
  exact ⟨A9, c9, A10, c10, rfl, l9, g9, l10, g10⟩
theorem k29_openM {w : World} {base : Nat} {ok : Nat → Prop} {x : S29} {cs : List Value} (h : k29.M w base ok x cs) : ∃ v9 v10, cs = [.int .i64 x.f0, .int .i64 x.f1, .bool x.f2, .bool x.f3, .int .i64 x.f4, .int .i64 x.f5, .int .i64 x.f6, .int .u32 x.f7, .int .u32 x.f8, v9, v10] ∧ (Kd.int .u8).R 5 w base ok v9 x.f9 ∧ (Kd.int .u8).R 5 w base ok v10 x.f10 := by
  obtain ⟨_, _, rfl, rfl, ⟨_, _, rfl, rfl, ⟨_, _, rfl, rfl, ⟨_, _, rfl, rfl, ⟨_, _, rfl, rfl, ⟨_, _, rfl, rfl, ⟨_, _, rfl, rfl, ⟨_, _, rfl, rfl, ⟨_, _, rfl, rfl, ⟨_, _, rfl, ⟨v9, rfl, g9⟩, ⟨v10, rfl, g10⟩⟩⟩⟩⟩⟩⟩⟩⟩⟩⟩ := h
  exact ⟨v9, v10, rfl, g9, g10⟩
theorem k29_mk (w : World) (x : S29) {A9 : Option Addr} {c9 : Nat} (l9 : x.f9.length ≤ c9) (g9 : (Kd.int .u8).C w A9 x.f9.length x.f9) {A10 : Option Addr} {c10 : Nat} (l10 : x.f10.length ≤ c10) (g10 : (Kd.int .u8).C w A10 x.f10.length x.f10) : k29.K w x [.int .i64 x.f0, .int .i64 x.f1, .bool x.f2, .bool x.f3, .int .i64 x.f4, .int .i64 x.f5, .int .i64 x.f6, .int .u32 x.f7, .int .u32 x.f8, .slice A9 x.f9.length c9, .slice A10 x.f10.length c10] := ⟨[.int .i64 x.f0], [.int .i64 x.f1, .bool x.f2, .bool x.f3, .int .i64 x.f4, .int .i64 x.f5, .int .i64 x.f6, .int .u32 x.f7, .int .u32 x.f8, .slice A9 x.f9.length c9, .slice A10 x.f10.length c10], rfl, rfl, ⟨[.int .i64 x.f1], [.bool x.f2, .bool x.f3, .int .i64 x.f4, .int .i64 x.f5, .int .i64 x.f6, .int .u32 x.f7, .int .u32 x.f8, .slice A9 x.f9.length c9, .slice A10 x.f10.length c10], rfl, rfl, ⟨[.bool x.f2], [.bool x.f3, .int .i64 x.f4, .int .i64 x.f5, .int .i64 x.f6, .int .u32 x.f7, .int .u32 x.f8, .slice A9 x.f9.length c9, .slice A10 x.f10.length c10], rfl, rfl, ⟨[.bool x.f3], [.int .i64 x.f4, .int .i64 x.f5, .int .i64 x.f6, .int .u32 x.f7, .int .u32 x.f8, .slice A9 x.f9.length c9, .slice A10 x.f10.length c10], rfl, rfl, ⟨[.int .i64 x.f4], [.int .i64 x.f5, .int .i64 x.f6, .int .u32 x.f7, .int .u32 x.f8, .slice A9 x.f9.length c9, .slice A10 x.f10.length c10], rfl, rfl, ⟨[.int .i64 x.f5], [.int .i64 x.f6, .int .u32 x.f7, .int .u32 x.f8, .slice A9 x.f9.length c9, .slice A10 x.f10.length c10], rfl, rfl, ⟨[.int .i64 x.f6], [.int .u32 x.f7, .int .u32 x.f8, .slice A9 x.f9.length c9, .slice A10 x.f10.length c10], rfl, rfl, ⟨[.int .u32 x.f7], [.int .u32 x.f8, .slice A9 x.f9.length c9, .slice A10 x.f10.length c10], rfl, rfl, ⟨[.int .u32 x.f8], [.slice A9 x.f9.length c9, .slice A10 x.f10.length c10], rfl, rfl, ⟨[.slice A9 x.f9.length c9], [.slice A10 x.f10.length c10], rfl, ⟨A9, c9, rfl, l9, g9⟩, ⟨A10, c10, rfl, l10, g10⟩⟩⟩⟩⟩⟩⟩⟩⟩⟩⟩
theorem k29_mkM (w : World) (base : Nat) (ok : Nat → Prop) (x : S29) {v9 : Value} (g9 : (Kd.int .u8).R 5 w base ok v9 x.f9) {v10 : Value} (g10 : (Kd.int .u8).R 5 w base ok v10 x.f10) : k29.M w base ok x [.int .i64 x.f0, .int .i64 x.f1, .bool x.f2, .bool x.f3, .int .i64 x.f4, .int .i64 x.f5, .int .i64 x.f6, .int .u32 x.f7, .int .u32 x.f8, v9, v10] := ⟨[.int .i64 x.f0], [.int .i64 x.f1, .bool x.f2, .bool x.f3, .int .i64 x.f4, .int .i64 x.f5, .int .i64 x.f6, .int .u32 x.f7, .int .u32 x.f8, v9, v10], rfl, rfl, ⟨[.int .i64 x.f1], [.bool x.f2, .bool x.f3, .int .i64 x.f4, .int .i64 x.f5, .int .i64 x.f6, .int .u32 x.f7, .int .u32 x.f8, v9, v10], rfl, rfl, ⟨[.bool x.f2], [.bool x.f3, .int .i64 x.f4, .int .i64 x.f5, .int .i64 x.f6, .int .u32 x.f7, .int .u32 x.f8, v9, v10], rfl, rfl, ⟨[.bool x.f3], [.int .i64 x.f4, .int .i64 x.f5, .int .i64 x.f6, .int .u32 x.f7, .int .u32 x.f8, v9, v10], rfl, rfl, ⟨[.int .i64 x.f4], [.int .i64 x.f5, .int .i64 x.f6, .int .u32 x.f7, .int .u32 x.f8, v9, v10], rfl, rfl, ⟨[.int .i64 x.f5], [.int .i64 x.f6, .int .u32 x.f7, .int .u32 x.f8, v9, v10], rfl, rfl, ⟨[.int .i64 x.f6], [.int .u32 x.f7, .int .u32 x.f8, v9, v10], rfl, rfl, ⟨[.int .u32 x.f7], [.int .u32 x.f8, v9, v10], rfl, rfl, ⟨[.int .u32 x.f8], [v9, v10], rfl, rfl, ⟨[v9], [v10], rfl, ⟨v9, rfl, g9⟩, ⟨v10, rfl, g10⟩⟩⟩⟩⟩⟩⟩⟩⟩⟩⟩
def rd_T29 (xs : List S29) (i : Int) : S29 := xs.getD i.toNat z29
theorem at_T29 {w : World} {A : Option Addr} {n : Nat} {xs : List S29} (h : Kd.C k29 w A n xs) (i : Int) (h0 : 0 ≤ i) (h1 : i < n) : ∃ ad A9 c9 A10 c10, A = some ad ∧ w.cell? (ad.add (i.toNat * 11)) = some (.int .i64 (rd_T29 xs i).f0) ∧ w.cell? ⟨(ad.add (i.toNat * 11)).block, (ad.add (i.toNat * 11)).off + 1, none⟩ = some (.int .i64 (rd_T29 xs i).f1) ∧ w.cell? ⟨(ad.add (i.toNat * 11)).block, (ad.add (i.toNat * 11)).off + 2, none⟩ = some (.bool (rd_T29 xs i).f2) ∧ w.cell? ⟨(ad.add (i.toNat * 11)).block, (ad.add (i.toNat * 11)).off + 3, none⟩ = some (.bool (rd_T29 xs i).f3) ∧ w.cell? ⟨(ad.add (i.toNat * 11)).block, (ad.add (i.toNat * 11)).off + 4, none⟩ = some (.int .i64 (rd_T29 xs i).f4) ∧ w.cell? ⟨(ad.add (i.toNat * 11)).block, (ad.add (i.toNat * 11)).off + 5, none⟩ = some (.int .i64 (rd_T29 xs i).f5) ∧ w.cell? ⟨(ad.add (i.toNat * 11)).block, (ad.add (i.toNat * 11)).off + 6, none⟩ = some (.int .i64 (rd_T29 xs i).f6) ∧ w.cell? ⟨(ad.add (i.toNat * 11)).block, (ad.add (i.toNat * 11)).off + 7, none⟩ = some (.int .u32 (rd_T29 xs i).f7) ∧ w.cell? ⟨(ad.add (i.toNat * 11)).block, (ad.add (i.toNat * 11)).off + 8, none⟩ = some (.int .u32 (rd_T29 xs i).f8) ∧ w.cell? ⟨(ad.add (i.toNat * 11)).block, (ad.add (i.toNat * 11)).off + 9, none⟩ = some (.slice A9 (rd_T29 xs i).f9.length c9) ∧ w.cell? ⟨(ad.add (i.toNat * 11)).block, (ad.add (i.toNat * 11)).off + 10, none⟩ = some (.slice A10 (rd_T29 xs i).f10.length c10) ∧ (rd_T29 xs i).f9.length ≤ c9 ∧ (Kd.int .u8).C w A9 (rd_T29 xs i).f9.length (rd_T29 xs i).f9 ∧ (rd_T29 xs i).f10.length ≤ c10 ∧ (Kd.int .u8).C w A10 (rd_T29 xs i).f10.length (rd_T29 xs i).f10 := by
  obtain ⟨ad, c, e, _, hK, hc0⟩ := Kd.C_get h z29 i h0 h1
  have hc : ∀ j u, c[j]? = some u → w.cell? (ad.add (i.toNat * 11 + j)) = some u := hc0
  obtain ⟨A9, c9, A10, c10, rfl, l9, g9, l10, g10⟩ := k29_open hK
  exact ⟨ad, A9, c9, A10, c10, e, hc 0 _ rfl, by rw [← add_field _ _ 1 (by omega)]; exact hc 1 _ rfl, by rw [← add_field _ _ 2 (by omega)]; exact hc 2 _ rfl, by rw [← add_field _ _ 3 (by omega)]; exact hc 3 _ rfl, by rw [← add_field _ _ 4 (by omega)]; exact hc 4 _ rfl, by rw [← add_field _ _ 5 (by omega)]; exact hc 5 _ rfl, by rw [← add_field _ _ 6 (by omega)]; exact hc 6 _ rfl, by rw [← add_field _ _ 7 (by omega)]; exact hc 7 _ rfl, by rw [← add_field _ _ 8 (by omega)]; exact hc 8 _ rfl, by rw [← add_field _ _ 9 (by omega)]; exact hc 9 _ rfl, by rw [← add_field _ _ 10 (by omega)]; exact hc 10 _ rfl, l9, g9, l10, g10⟩

/-! #### struct type 27 -/
structure S27 where
  f0 : Int
  f1 : Int
def z27 : S27 := ⟨(0 : Int), (0 : Int)⟩
def k27 : Kd S27 := Kd.iso (Kd.pair (Kd.int .u32) (Kd.int .i64)) (fun x : S27 => (x.f0, x.f1))
theorem k27_heap : Kd.Heap k27 := Kd.heap_iso _ (Kd.heap_pair (Kd.heap_int .u32) (Kd.heap_int .i64))
theorem k27_open {w : World} {x : S27} {cs : List Value} (h : k27.K w x cs) : cs = [.int .u32 x.f0, .int .i64 x.f1] := by
  obtain ⟨_, _, rfl, rfl, rfl⟩ := h
  exact rfl
theorem k27_openM {w : World} {base : Nat} {ok : Nat → Prop} {x : S27} {cs : List Value} (h : k27.M w base ok x cs) : cs = [.int .u32 x.f0, .int .i64 x.f1] := by
  obtain ⟨_, _, rfl, rfl, rfl⟩ := h
  exact rfl
theorem k27_mk (w : World) (x : S27)  : k27.K w x [.int .u32 x.f0, .int .i64 x.f1] := ⟨[.int .u32 x.f0], [.int .i64 x.f1], rfl, rfl, rfl⟩
theorem k27_mkM (w : World) (base : Nat) (ok : Nat → Prop) (x : S27)  : k27.M w base ok x [.int .u32 x.f0, .int .i64 x.f1] := ⟨[.int .u32 x.f0], [.int .i64 x.f1], rfl, rfl, rfl⟩
def rd_T27 (xs : List S27) (i : Int) : S27 := xs.getD i.toNat z27
theorem at_T27 {w : World} {A : Option Addr} {n : Nat} {xs : List S27} (h : Kd.C k27 w A n xs) (i : Int) (h0 : 0 ≤ i) (h1 : i < n) : ∃ ad , A = some ad ∧ w.cell? (ad.add (i.toNat * 2)) = some (.int .u32 (rd_T27 xs i).f0) ∧ w.cell? ⟨(ad.add (i.toNat * 2)).block, (ad.add (i.toNat * 2)).off + 1, none⟩ = some (.int .i64 (rd_T27 xs i).f1) := by
  obtain ⟨ad, c, e, _, hK, hc0⟩ := Kd.C_get h z27 i h0 h1
  have hc : ∀ j u, c[j]? = some u → w.cell? (ad.add (i.toNat * 2 + j)) = some u := hc0
  obtain rfl := k27_open hK
  exact ⟨ad, e, hc 0 _ rfl, by rw [← add_field _ _ 1 (by omega)]; exact hc 1 _ rfl⟩

/-! #### struct type 35 -/
structure S35 where
  f0 : Int
  f1 : S27
  f2 : S27
def z35 : S35 := ⟨(0 : Int), z27, z27⟩
def k35 : Kd S35 := Kd.iso (Kd.pair (Kd.int .i64) (Kd.pair k27 k27)) (fun x : S35 => (x.f0, x.f1, x.f2))
theorem k35_heap : Kd.Heap k35 := Kd.heap_iso _ (Kd.heap_pair (Kd.heap_int .i64) (Kd.heap_pair k27_heap k27_heap))
theorem k35_open {w : World} {x : S35} {cs : List Value} (h : k35.K w x cs) : cs = [.int .i64 x.f0, .int .u32 x.f1.f0, .int .i64 x.f1.f1, .int .u32 x.f2.f0, .int .i64 x.f2.f1] := by
  obtain ⟨_, _, rfl, rfl, ⟨_, _, rfl, s1, s3⟩⟩ := h
  obtain rfl := k27_open s1
  obtain rfl := k27_open s3
  exact rfl
theorem k35_openM {w : World} {base : Nat} {ok : Nat → Prop} {x : S35} {cs : List Value} (h : k35.M w base ok x cs) : cs = [.int .i64 x.f0, .int .u32 x.f1.f0, .int .i64 x.f1.f1, .int .u32 x.f2.f0, .int .i64 x.f2.f1] := by
  obtain ⟨_, _, rfl, rfl, ⟨_, _, rfl, s1, s3⟩⟩ := h
  obtain rfl := k27_openM s1
  obtain rfl := k27_openM s3
  exact rfl
theorem k35_mk (w : World) (x : S35)  : k35.K w x [.int .i64 x.f0, .int .u32 x.f1.f0, .int .i64 x.f1.f1, .int .u32 x.f2.f0, .int .i64 x.f2.f1] := ⟨[.int .i64 x.f0], [.int .u32 x.f1.f0, .int .i64 x.f1.f1, .int .u32 x.f2.f0, .int .i64 x.f2.f1], rfl, rfl, ⟨[.int .u32 x.f1.f0, .int .i64 x.f1.f1], [.int .u32 x.f2.f0, .int .i64 x.f2.f1], rfl, (k27_mk w x.f1 ), (k27_mk w x.f2 )⟩⟩
theorem k35_mkM (w : World) (base : Nat) (ok : Nat → Prop) (x : S35)  : k35.M w base ok x [.int .i64 x.f0, .int .u32 x.f1.f0, .int .i64 x.f1.f1, .int .u32 x.f2.f0, .int .i64 x.f2.f1] := ⟨[.int .i64 x.f0], [.int .u32 x.f1.f0, .int .i64 x.f1.f1, .int .u32 x.f2.f0, .int .i64 x.f2.f1], rfl, rfl, ⟨[.int .u32 x.f1.f0, .int .i64 x.f1.f1], [.int .u32 x.f2.f0, .int .i64 x.f2.f1], rfl, (k27_mkM w base ok x.f1 ), (k27_mkM w base ok x.f2 )⟩⟩
def rd_T35 (xs : List S35) (i : Int) : S35 := xs.getD i.toNat z35
theorem at_T35 {w : World} {A : Option Addr} {n : Nat} {xs : List S35} (h : Kd.C k35 w A n xs) (i : Int) (h0 : 0 ≤ i) (h1 : i < n) : ∃ ad , A = some ad ∧ w.cell? (ad.add (i.toNat * 5)) = some (.int .i64 (rd_T35 xs i).f0) ∧ w.cell? ⟨(ad.add (i.toNat * 5)).block, (ad.add (i.toNat * 5)).off + 1, none⟩ = some (.int .u32 (rd_T35 xs i).f1.f0) ∧ w.cell? ⟨(ad.add (i.toNat * 5)).block, (ad.add (i.toNat * 5)).off + 2, none⟩ = some (.int .i64 (rd_T35 xs i).f1.f1) ∧ w.cell? ⟨(ad.add (i.toNat * 5)).block, (ad.add (i.toNat * 5)).off + 3, none⟩ = some (.int .u32 (rd_T35 xs i).f2.f0) ∧ w.cell? ⟨(ad.add (i.toNat * 5)).block, (ad.add (i.toNat * 5)).off + 4, none⟩ = some (.int .i64 (rd_T35 xs i).f2.f1) := by
  obtain ⟨ad, c, e, _, hK, hc0⟩ := Kd.C_get h z35 i h0 h1
  have hc : ∀ j u, c[j]? = some u → w.cell? (ad.add (i.toNat * 5 + j)) = some u := hc0
  obtain rfl := k35_open hK
  exact ⟨ad, e, hc 0 _ rfl, by rw [← add_field _ _ 1 (by omega)]; exact hc 1 _ rfl, by rw [← add_field _ _ 2 (by omega)]; exact hc 2 _ rfl, by rw [← add_field _ _ 3 (by omega)]; exact hc 3 _ rfl, by rw [← add_field _ _ 4 (by omega)]; exact hc 4 _ rfl⟩

/-! #### struct type 37 -/
structure S37 where
  f0 : S29
  f1 : Int
  f2 : S27
  f3 : S27
  f4 : Int
  f5 : S35
def z37 : S37 := ⟨z29, (0 : Int), z27, z27, (0 : Int), z35⟩
def k37 : Kd S37 := Kd.iso (Kd.pair k29 (Kd.pair (Kd.int .i64) (Kd.pair k27 (Kd.pair k27 (Kd.pair (Kd.int .i64) k35))))) (fun x : S37 => (x.f0, x.f1, x.f2, x.f3, x.f4, x.f5))
theorem k37_heap : Kd.Heap k37 := Kd.heap_iso _ (Kd.heap_pair k29_heap (Kd.heap_pair (Kd.heap_int .i64) (Kd.heap_pair k27_heap (Kd.heap_pair k27_heap (Kd.heap_pair (Kd.heap_int .i64) k35_heap)))))
theorem k37_open {w : World} {x : S37} {cs : List Value} (h : k37.K w x cs) : ∃ A9 c9 A10 c10, cs = [.int .i64 x.f0.f0, .int .i64 x.f0.f1, .bool x.f0.f2, .bool x.f0.f3, .int .i64 x.f0.f4, .int .i64 x.f0.f5, .int .i64 x.f0.f6, .int .u32 x.f0.f7, .int .u32 x.f0.f8, .slice A9 x.f0.f9.length c9, .slice A10 x.f0.f10.length c10, .int .i64 x.f1, .int .u32 x.f2.f0, .int .i64 x.f2.f1, .int .u32 x.f3.f0, .int .i64 x.f3.f1, .int .i64 x.f4, .int .i64 x.f5.f0, .int .u32 x.f5.f1.f0, .int .i64 x.f5.f1.f1, .int .u32 x.f5.f2.f0, .int .i64 x.f5.f2.f1] ∧ x.f0.f9.length ≤ c9 ∧ (Kd.int .u8).C w A9 x.f0.f9.length x.f0.f9 ∧ x.f0.f10.length ≤ c10 ∧ (Kd.int .u8).C w A10 x.f0.f10.length x.f0.f10 := by
  obtain ⟨_, _, rfl, s0, ⟨_, _, rfl, rfl, ⟨_, _, rfl, s12, ⟨_, _, rfl, s14, ⟨_, _, rfl, rfl, s17⟩⟩⟩⟩⟩ := h
  obtain ⟨A9, c9, A10, c10, rfl, l9, g9, l10, g10⟩ := k29_open s0
  obtain rfl := k27_open s12
  obtain rfl := k27_open s14
  obtain rfl := k35_open s17
  exact ⟨A9, c9, A10, c10, rfl, l9, g9, l10, g10⟩
theorem k37_openM {w : World} {base : Nat} {ok : Nat → Prop} {x : S37} {cs : List Value} (h : k37.M w base ok x cs) : ∃ v9 v10, cs = [.int .i64 x.f0.f0, .int .i64 x.f0.f1, .bool x.f0.f2, .bool x.f0.f3, .int .i64 x.f0.f4, .int .i64 x.f0.f5, .int .i64 x.f0.f6, .int .u32 x.f0.f7, .int .u32 x.f0.f8, v9, v10, .int .i64 x.f1, .int .u32 x.f2.f0, .int .i64 x.f2.f1, .int .u32 x.f3.f0, .int .i64 x.f3.f1, .int .i64 x.f4, .int .i64 x.f5.f0, .int .u32 x.f5.f1.f0, .int .i64 x.f5.f1.f1, .int .u32 x.f5.f2.f0, .int .i64 x.f5.f2.f1] ∧ (Kd.int .u8).R 5 w base ok v9 x.f0.f9 ∧ (Kd.int .u8).R 5 w base ok v10 x.f0.f10 := by
  obtain ⟨_, _, rfl, s0, ⟨_, _, rfl, rfl, ⟨_, _, rfl, s12, ⟨_, _, rfl, s14, ⟨_, _, rfl, rfl, s17⟩⟩⟩⟩⟩ := h
  obtain ⟨v9, v10, rfl, g9, g10⟩ := k29_openM s0
  obtain rfl := k27_openM s12
  obtain rfl := k27_openM s14
  obtain rfl := k35_openM s17
  exact ⟨v9, v10, rfl, g9, g10⟩
theorem k37_mk (w : World) (x : S37) {A9 : Option Addr} {c9 : Nat} (l9 : x.f0.f9.length ≤ c9) (g9 : (Kd.int .u8).C w A9 x.f0.f9.length x.f0.f9) {A10 : Option Addr} {c10 : Nat} (l10 : x.f0.f10.length ≤ c10) (g10 : (Kd.int .u8).C w A10 x.f0.f10.length x.f0.f10) : k37.K w x [.int .i64 x.f0.f0, .int .i64 x.f0.f1, .bool x.f0.f2, .bool x.f0.f3, .int .i64 x.f0.f4, .int .i64 x.f0.f5, .int .i64 x.f0.f6, .int .u32 x.f0.f7, .int .u32 x.f0.f8, .slice A9 x.f0.f9.length c9, .slice A10 x.f0.f10.length c10, .int .i64 x.f1, .int .u32 x.f2.f0, .int .i64 x.f2.f1, .int .u32 x.f3.f0, .int .i64 x.f3.f1, .int .i64 x.f4, .int .i64 x.f5.f0, .int .u32 x.f5.f1.f0, .int .i64 x.f5.f1.f1, .int .u32 x.f5.f2.f0, .int .i64 x.f5.f2.f1] := ⟨[.int .i64 x.f0.f0, .int .i64 x.f0.f1, .bool x.f0.f2, .bool x.f0.f3, .int .i64 x.f0.f4, .int .i64 x.f0.f5, .int .i64 x.f0.f6, .int .u32 x.f0.f7, .int .u32 x.f0.f8, .slice A9 x.f0.f9.length c9, .slice A10 x.f0.f10.length c10], [.int .i64 x.f1, .int .u32 x.f2.f0, .int .i64 x.f2.f1, .int .u32 x.f3.f0, .int .i64 x.f3.f1, .int .i64 x.f4, .int .i64 x.f5.f0, .int .u32 x.f5.f1.f0, .int .i64 x.f5.f1.f1, .int .u32 x.f5.f2.f0, .int .i64 x.f5.f2.f1], rfl, (k29_mk w x.f0 l9 g9 l10 g10), ⟨[.int .i64 x.f1], [.int .u32 x.f2.f0, .int .i64 x.f2.f1, .int .u32 x.f3.f0, .int .i64 x.f3.f1, .int .i64 x.f4, .int .i64 x.f5.f0, .int .u32 x.f5.f1.f0, .int .i64 x.f5.f1.f1, .int .u32 x.f5.f2.f0, .int .i64 x.f5.f2.f1], rfl, rfl, ⟨[.int .u32 x.f2.f0, .int .i64 x.f2.f1], [.int .u32 x.f3.f0, .int .i64 x.f3.f1, .int .i64 x.f4, .int .i64 x.f5.f0, .int .u32 x.f5.f1.f0, .int .i64 x.f5.f1.f1, .int .u32 x.f5.f2.f0, .int .i64 x.f5.f2.f1], rfl, (k27_mk w x.f2 ), ⟨[.int .u32 x.f3.f0, .int .i64 x.f3.f1], [.int .i64 x.f4, .int .i64 x.f5.f0, .int .u32 x.f5.f1.f0, .int .i64 x.f5.f1.f1, .int .u32 x.f5.f2.f0, .int .i64 x.f5.f2.f1], rfl, (k27_mk w x.f3 ), ⟨[.int .i64 x.f4], [.int .i64 x.f5.f0, .int .u32 x.f5.f1.f0, .int .i64 x.f5.f1.f1, .int .u32 x.f5.f2.f0, .int .i64 x.f5.f2.f1], rfl, rfl, (k35_mk w x.f5 )⟩⟩⟩⟩⟩
theorem k37_mkM (w : World) (base : Nat) (ok : Nat → Prop) (x : S37) {v9 : Value} (g9 : (Kd.int .u8).R 5 w base ok v9 x.f0.f9) {v10 : Value} (g10 : (Kd.int .u8).R 5 w base ok v10 x.f0.f10) : k37.M w base ok x [.int .i64 x.f0.f0, .int .i64 x.f0.f1, .bool x.f0.f2, .bool x.f0.f3, .int .i64 x.f0.f4, .int .i64 x.f0.f5, .int .i64 x.f0.f6, .int .u32 x.f0.f7, .int .u32 x.f0.f8, v9, v10, .int .i64 x.f1, .int .u32 x.f2.f0, .int .i64 x.f2.f1, .int .u32 x.f3.f0, .int .i64 x.f3.f1, .int .i64 x.f4, .int .i64 x.f5.f0, .int .u32 x.f5.f1.f0, .int .i64 x.f5.f1.f1, .int .u32 x.f5.f2.f0, .int .i64 x.f5.f2.f1] := ⟨[.int .i64 x.f0.f0, .int .i64 x.f0.f1, .bool x.f0.f2, .bool x.f0.f3, .int .i64 x.f0.f4, .int .i64 x.f0.f5, .int .i64 x.f0.f6, .int .u32 x.f0.f7, .int .u32 x.f0.f8, v9, v10], [.int .i64 x.f1, .int .u32 x.f2.f0, .int .i64 x.f2.f1, .int .u32 x.f3.f0, .int .i64 x.f3.f1, .int .i64 x.f4, .int .i64 x.f5.f0, .int .u32 x.f5.f1.f0, .int .i64 x.f5.f1.f1, .int .u32 x.f5.f2.f0, .int .i64 x.f5.f2.f1], rfl, (k29_mkM w base ok x.f0 g9 g10), ⟨[.int .i64 x.f1], [.int .u32 x.f2.f0, .int .i64 x.f2.f1, .int .u32 x.f3.f0, .int .i64 x.f3.f1, .int .i64 x.f4, .int .i64 x.f5.f0, .int .u32 x.f5.f1.f0, .int .i64 x.f5.f1.f1, .int .u32 x.f5.f2.f0, .int .i64 x.f5.f2.f1], rfl, rfl, ⟨[.int .u32 x.f2.f0, .int .i64 x.f2.f1], [.int .u32 x.f3.f0, .int .i64 x.f3.f1, .int .i64 x.f4, .int .i64 x.f5.f0, .int .u32 x.f5.f1.f0, .int .i64 x.f5.f1.f1, .int .u32 x.f5.f2.f0, .int .i64 x.f5.f2.f1], rfl, (k27_mkM w base ok x.f2 ), ⟨[.int .u32 x.f3.f0, .int .i64 x.f3.f1], [.int .i64 x.f4, .int .i64 x.f5.f0, .int .u32 x.f5.f1.f0, .int .i64 x.f5.f1.f1, .int .u32 x.f5.f2.f0, .int .i64 x.f5.f2.f1], rfl, (k27_mkM w base ok x.f3 ), ⟨[.int .i64 x.f4], [.int .i64 x.f5.f0, .int .u32 x.f5.f1.f0, .int .i64 x.f5.f1.f1, .int .u32 x.f5.f2.f0, .int .i64 x.f5.f2.f1], rfl, rfl, (k35_mkM w base ok x.f5 )⟩⟩⟩⟩⟩
def rd_T37 (xs : List S37) (i : Int) : S37 := xs.getD i.toNat z37
theorem at_T37 {w : World} {A : Option Addr} {n : Nat} {xs : List S37} (h : Kd.C k37 w A n xs) (i : Int) (h0 : 0 ≤ i) (h1 : i < n) : ∃ ad A9 c9 A10 c10, A = some ad ∧ w.cell? (ad.add (i.toNat * 22)) = some (.int .i64 (rd_T37 xs i).f0.f0) ∧ w.cell? ⟨(ad.add (i.toNat * 22)).block, (ad.add (i.toNat * 22)).off + 1, none⟩ = some (.int .i64 (rd_T37 xs i).f0.f1) ∧ w.cell? ⟨(ad.add (i.toNat * 22)).block, (ad.add (i.toNat * 22)).off + 2, none⟩ = some (.bool (rd_T37 xs i).f0.f2) ∧ w.cell? ⟨(ad.add (i.toNat * 22)).block, (ad.add (i.toNat * 22)).off + 3, none⟩ = some (.bool (rd_T37 xs i).f0.f3) ∧ w.cell? ⟨(ad.add (i.toNat * 22)).block, (ad.add (i.toNat * 22)).off + 4, none⟩ = some (.int .i64 (rd_T37 xs i).f0.f4) ∧ w.cell? ⟨(ad.add (i.toNat * 22)).block, (ad.add (i.toNat * 22)).off + 5, none⟩ = some (.int .i64 (rd_T37 xs i).f0.f5) ∧ w.cell? ⟨(ad.add (i.toNat * 22)).block, (ad.add (i.toNat * 22)).off + 6, none⟩ = some (.int .i64 (rd_T37 xs i).f0.f6) ∧ w.cell? ⟨(ad.add (i.toNat * 22)).block, (ad.add (i.toNat * 22)).off + 7, none⟩ = some (.int .u32 (rd_T37 xs i).f0.f7) ∧ w.cell? ⟨(ad.add (i.toNat * 22)).block, (ad.add (i.toNat * 22)).off + 8, none⟩ = some (.int .u32 (rd_T37 xs i).f0.f8) ∧ w.cell? ⟨(ad.add (i.toNat * 22)).block, (ad.add (i.toNat * 22)).off + 9, none⟩ = some (.slice A9 (rd_T37 xs i).f0.f9.length c9) ∧ w.cell? ⟨(ad.add (i.toNat * 22)).block, (ad.add (i.toNat * 22)).off + 10, none⟩ = some (.slice A10 (rd_T37 xs i).f0.f10.length c10) ∧ w.cell? ⟨(ad.add (i.toNat * 22)).block, (ad.add (i.toNat * 22)).off + 11, none⟩ = some (.int .i64 (rd_T37 xs i).f1) ∧ w.cell? ⟨(ad.add (i.toNat * 22)).block, (ad.add (i.toNat * 22)).off + 12, none⟩ = some (.int .u32 (rd_T37 xs i).f2.f0) ∧ w.cell? ⟨(ad.add (i.toNat * 22)).block, (ad.add (i.toNat * 22)).off + 13, none⟩ = some (.int .i64 (rd_T37 xs i).f2.f1) ∧ w.cell? ⟨(ad.add (i.toNat * 22)).block, (ad.add (i.toNat * 22)).off + 14, none⟩ = some (.int .u32 (rd_T37 xs i).f3.f0) ∧ w.cell? ⟨(ad.add (i.toNat * 22)).block, (ad.add (i.toNat * 22)).off + 15, none⟩ = some (.int .i64 (rd_T37 xs i).f3.f1) ∧ w.cell? ⟨(ad.add (i.toNat * 22)).block, (ad.add (i.toNat * 22)).off + 16, none⟩ = some (.int .i64 (rd_T37 xs i).f4) ∧ w.cell? ⟨(ad.add (i.toNat * 22)).block, (ad.add (i.toNat * 22)).off + 17, none⟩ = some (.int .i64 (rd_T37 xs i).f5.f0) ∧ w.cell? ⟨(ad.add (i.toNat * 22)).block, (ad.add (i.toNat * 22)).off + 18, none⟩ = some (.int .u32 (rd_T37 xs i).f5.f1.f0) ∧ w.cell? ⟨(ad.add (i.toNat * 22)).block, (ad.add (i.toNat * 22)).off + 19, none⟩ = some (.int .i64 (rd_T37 xs i).f5.f1.f1) ∧ w.cell? ⟨(ad.add (i.toNat * 22)).block, (ad.add (i.toNat * 22)).off + 20, none⟩ = some (.int .u32 (rd_T37 xs i).f5.f2.f0) ∧ w.cell? ⟨(ad.add (i.toNat * 22)).block, (ad.add (i.toNat * 22)).off + 21, none⟩ = some (.int .i64 (rd_T37 xs i).f5.f2.f1) ∧ (rd_T37 xs i).f0.f9.length ≤ c9 ∧ (Kd.int .u8).C w A9 (rd_T37 xs i).f0.f9.length (rd_T37 xs i).f0.f9 ∧ (rd_T37 xs i).f0.f10.length ≤ c10 ∧ (Kd.int .u8).C w A10 (rd_T37 xs i).f0.f10.length (rd_T37 xs i).f0.f10 := by
  obtain ⟨ad, c, e, _, hK, hc0⟩ := Kd.C_get h z37 i h0 h1
  have hc : ∀ j u, c[j]? = some u → w.cell? (ad.add (i.toNat * 22 + j)) = some u := hc0
  obtain ⟨A9, c9, A10, c10, rfl, l9, g9, l10, g10⟩ := k37_open hK
  exact ⟨ad, A9, c9, A10, c10, e, hc 0 _ rfl, by rw [← add_field _ _ 1 (by omega)]; exact hc 1 _ rfl, by rw [← add_field _ _ 2 (by omega)]; exact hc 2 _ rfl, by rw [← add_field _ _ 3 (by omega)]; exact hc 3 _ rfl, by rw [← add_field _ _ 4 (by omega)]; exact hc 4 _ rfl, by rw [← add_field _ _ 5 (by omega)]; exact hc 5 _ rfl, by rw [← add_field _ _ 6 (by omega)]; exact hc 6 _ rfl, by rw [← add_field _ _ 7 (by omega)]; exact hc 7 _ rfl, by rw [← add_field _ _ 8 (by omega)]; exact hc 8 _ rfl, by rw [← add_field _ _ 9 (by omega)]; exact hc 9 _ rfl, by rw [← add_field _ _ 10 (by omega)]; exact hc 10 _ rfl, by rw [← add_field _ _ 11 (by omega)]; exact hc 11 _ rfl, by rw [← add_field _ _ 12 (by omega)]; exact hc 12 _ rfl, by rw [← add_field _ _ 13 (by omega)]; exact hc 13 _ rfl, by rw [← add_field _ _ 14 (by omega)]; exact hc 14 _ rfl, by rw [← add_field _ _ 15 (by omega)]; exact hc 15 _ rfl, by rw [← add_field _ _ 16 (by omega)]; exact hc 16 _ rfl, by rw [← add_field _ _ 17 (by omega)]; exact hc 17 _ rfl, by rw [← add_field _ _ 18 (by omega)]; exact hc 18 _ rfl, by rw [← add_field _ _ 19 (by omega)]; exact hc 19 _ rfl, by rw [← add_field _ _ 20 (by omega)]; exact hc 20 _ rfl, by rw [← add_field _ _ 21 (by omega)]; exact hc 21 _ rfl, l9, g9, l10, g10⟩

end Go.Proofs.Ytljnnhloinbjhaa.P
