-- Laid by a program (wip/tools/myprint.py) out of the translation. Not trusted: Lean checks it.
import Derived.Test.YtljnnhloinbjhaaP0
import Derived.Test.YtljnnhloinbjhaaPbailiwickref1
import Derived.Test.YtljnnhloinbjhaaPbailiwickref2
namespace Go.Proofs.Ytljnnhloinbjhaa.P
open Go.RowKit Go.Proofs.YtljnnhloinbjhaaW.PrintWords Go.Proofs.YtljnnhloinbjhaaW.PrintLast
set_option linter.unusedVariables false
set_option linter.unusedSimpArgs false

/-! ### bailiwickref2_Build: function 24 -/
mutual
def bailiwickref2_Build.j0 : Nat → Bool → Int → Int → Bool → Bool → Int → Int → Int → Int → Int → List Int → List Int → Option (List Int × Int)
 | 0, _, _, _, _, _, _, _, _, _, _, _, _ => none
 | k + 1, x50, x169000, x169001, x169002, x169003, x169004, x169005, x169006, x169007, x169008, x169009, x169010 => if x50 = true then (some (([] : List Int), 1)) else (if (x169010.length : Int) > (wrap64 (2048 - (wrap64 (20 + (x169009.length : Int))))) then (some (([] : List Int), 3)) else (if x169002 = true then (bailiwickref2_Build.j1 k (wrap64 (20 + (x169009.length : Int))) (Go.bits .or .i64 x169004 16384) x169000 x169001 x169002 x169003 x169004 x169005 x169006 x169007 x169008 x169009 x169010) else (bailiwickref2_Build.j1 k (wrap64 (20 + (x169009.length : Int))) x169004 x169000 x169001 x169002 x169003 x169004 x169005 x169006 x169007 x169008 x169009 x169010)))
def bailiwickref2_Build.j1 : Nat → Int → Int → Int → Int → Bool → Bool → Int → Int → Int → Int → Int → List Int → List Int → Option (List Int × Int)
 | 0, _, _, _, _, _, _, _, _, _, _, _, _, _ => none
 | k + 1, x4, x5, x169000, x169001, x169002, x169003, x169004, x169005, x169006, x169007, x169008, x169009, x169010 => if x169003 = true then (bailiwickref2_Build.j2 k x4 (Go.bits .or .i64 x5 8192) x169000 x169001 x169002 x169003 x169004 x169005 x169006 x169007 x169008 x169009 x169010) else (bailiwickref2_Build.j2 k x4 x5 x169000 x169001 x169002 x169003 x169004 x169005 x169006 x169007 x169008 x169009 x169010)
def bailiwickref2_Build.j2 : Nat → Int → Int → Int → Int → Bool → Bool → Int → Int → Int → Int → Int → List Int → List Int → Option (List Int × Int)
 | 0, _, _, _, _, _, _, _, _, _, _, _, _, _ => none
 | k + 1, x4, x5, x169000, x169001, x169002, x169003, x169004, x169005, x169006, x169007, x169008, x169009, x169010 => (bailiwickref1_Lay.f k (([(Go.bits .or .i64 64 (wrap64 (Int.tdiv x4 4))) % 256, (x169000) % 256] : List Int)) 2 (IntKind.u64.wrap (wrap64 (x4 + (x169010.length : Int))))).bind fun t177 => ((bailiwickref1_Lay.f k t177 2 (IntKind.u64.wrap (x169001))).bind fun t180 => ((bailiwickref1_Lay.f k t180 2 (IntKind.u64.wrap (x5))).bind fun t183 => ((some (([(x169005) % 256, (x169006) % 256, 0, 0] : List Int) : List Int)).bind fun y186 => (if t183.length + y186.length < 140737488355328 then ((bailiwickref1_Lay.f k (t183 ++ y186) 4 (IntKind.u64.wrap (x169007))).bind fun t192 => ((bailiwickref1_Lay.f k t192 4 (IntKind.u64.wrap (x169008))).bind fun t195 => (bailiwickref2_Build.l0 k t195 0 x169000 x169001 x169002 x169003 x169004 x169005 x169006 x169007 x169008 x169009 x169010))) else (none)))))
def bailiwickref2_Build.l0 : Nat → List Int → Int → Int → Int → Bool → Bool → Int → Int → Int → Int → Int → List Int → List Int → Option (List Int × Int)
 | 0, _, _, _, _, _, _, _, _, _, _, _, _, _ => none
 | k + 1, x6, x7, x169000, x169001, x169002, x169003, x169004, x169005, x169006, x169007, x169008, x169009, x169010 => if x7 < (x169009.length : Int) then (if 0 ≤ x7 then (if x6.length < 140737488355328 then (bailiwickref2_Build.l0 k (x6 ++ [rd x169009 x7]) (wrap64 (x7 + 1)) x169000 x169001 x169002 x169003 x169004 x169005 x169006 x169007 x169008 x169009 x169010) else (none)) else (none)) else ((bailiwickref1_One.f k x6).bind fun t202 => (if 10 < (x6.length : Int) then (if 11 < (x6.length : Int) then (bailiwickref2_Build.l1 k ((x6.set (10 : Int).toNat (((wrap64 (65535 - t202)) / 256) % 256)).set (11 : Int).toNat ((wrap64 (65535 - t202)) % 256)) 0 x169000 x169001 x169002 x169003 x169004 x169005 x169006 x169007 x169008 x169009 x169010) else (none)) else (none)))
def bailiwickref2_Build.l1 : Nat → List Int → Int → Int → Int → Bool → Bool → Int → Int → Int → Int → Int → List Int → List Int → Option (List Int × Int)
 | 0, _, _, _, _, _, _, _, _, _, _, _, _, _ => none
 | k + 1, x6, x9, x169000, x169001, x169002, x169003, x169004, x169005, x169006, x169007, x169008, x169009, x169010 => if x9 < (x169010.length : Int) then (if 0 ≤ x9 then (if x6.length < 140737488355328 then (bailiwickref2_Build.l1 k (x6 ++ [rd x169010 x9]) (wrap64 (x9 + 1)) x169000 x169001 x169002 x169003 x169004 x169005 x169006 x169007 x169008 x169009 x169010) else (none)) else (none)) else (some (x6, 0))
end
def bailiwickref2_Build.f (k : Nat) (a0_0 : Int) (a0_1 : Int) (a0_2 : Bool) (a0_3 : Bool) (a0_4 : Int) (a0_5 : Int) (a0_6 : Int) (a0_7 : Int) (a0_8 : Int) (l0_9 : List Int) (l0_10 : List Int) : Option (List Int × Int) := (bailiwickref2_in.f a0_0 255).bind fun t169 => (if t169 = true then ((bailiwickref2_in.f a0_5 255).bind fun t170 => (if t170 = true then ((bailiwickref2_in.f a0_6 255).bind fun t171 => (if t171 = true then ((bailiwickref2_in.f a0_1 65535).bind fun t172 => (if t172 = true then ((bailiwickref2_in.f a0_4 8191).bind fun t173 => (if t173 = true then (if (l0_9.length : Int) > 40 then (bailiwickref2_Build.j0 k true a0_0 a0_1 a0_2 a0_3 a0_4 a0_5 a0_6 a0_7 a0_8 l0_9 l0_10) else (bailiwickref2_Build.j0 k (((l0_9.length : Int) % 4) != 0) a0_0 a0_1 a0_2 a0_3 a0_4 a0_5 a0_6 a0_7 a0_8 l0_9 l0_10)) else (bailiwickref2_Build.j0 k true a0_0 a0_1 a0_2 a0_3 a0_4 a0_5 a0_6 a0_7 a0_8 l0_9 l0_10))) else (bailiwickref2_Build.j0 k true a0_0 a0_1 a0_2 a0_3 a0_4 a0_5 a0_6 a0_7 a0_8 l0_9 l0_10))) else (bailiwickref2_Build.j0 k true a0_0 a0_1 a0_2 a0_3 a0_4 a0_5 a0_6 a0_7 a0_8 l0_9 l0_10))) else (bailiwickref2_Build.j0 k true a0_0 a0_1 a0_2 a0_3 a0_4 a0_5 a0_6 a0_7 a0_8 l0_9 l0_10))) else (bailiwickref2_Build.j0 k true a0_0 a0_1 a0_2 a0_3 a0_4 a0_5 a0_6 a0_7 a0_8 l0_9 l0_10))
theorem bailiwickref2_Build.mono_l : ∀ k, (∀ y0 y1 y2 y3 y4 y5 y6 y7 y8 y9 y10 y11, LeO (bailiwickref2_Build.j0 k y0 y1 y2 y3 y4 y5 y6 y7 y8 y9 y10 y11) (bailiwickref2_Build.j0 (k + 1) y0 y1 y2 y3 y4 y5 y6 y7 y8 y9 y10 y11)) ∧ (∀ y0 y1 y2 y3 y4 y5 y6 y7 y8 y9 y10 y11 y12, LeO (bailiwickref2_Build.j1 k y0 y1 y2 y3 y4 y5 y6 y7 y8 y9 y10 y11 y12) (bailiwickref2_Build.j1 (k + 1) y0 y1 y2 y3 y4 y5 y6 y7 y8 y9 y10 y11 y12)) ∧ (∀ y0 y1 y2 y3 y4 y5 y6 y7 y8 y9 y10 y11 y12, LeO (bailiwickref2_Build.j2 k y0 y1 y2 y3 y4 y5 y6 y7 y8 y9 y10 y11 y12) (bailiwickref2_Build.j2 (k + 1) y0 y1 y2 y3 y4 y5 y6 y7 y8 y9 y10 y11 y12)) ∧ (∀ y0 y1 y2 y3 y4 y5 y6 y7 y8 y9 y10 y11 y12, LeO (bailiwickref2_Build.l0 k y0 y1 y2 y3 y4 y5 y6 y7 y8 y9 y10 y11 y12) (bailiwickref2_Build.l0 (k + 1) y0 y1 y2 y3 y4 y5 y6 y7 y8 y9 y10 y11 y12)) ∧ (∀ y0 y1 y2 y3 y4 y5 y6 y7 y8 y9 y10 y11 y12, LeO (bailiwickref2_Build.l1 k y0 y1 y2 y3 y4 y5 y6 y7 y8 y9 y10 y11 y12) (bailiwickref2_Build.l1 (k + 1) y0 y1 y2 y3 y4 y5 y6 y7 y8 y9 y10 y11 y12))
 | 0 => ⟨fun _ _ _ _ _ _ _ _ _ _ _ _ r h => by simp [bailiwickref2_Build.j0] at h, fun _ _ _ _ _ _ _ _ _ _ _ _ _ r h => by simp [bailiwickref2_Build.j1] at h, fun _ _ _ _ _ _ _ _ _ _ _ _ _ r h => by simp [bailiwickref2_Build.j2] at h, fun _ _ _ _ _ _ _ _ _ _ _ _ _ r h => by simp [bailiwickref2_Build.l0] at h, fun _ _ _ _ _ _ _ _ _ _ _ _ _ r h => by simp [bailiwickref2_Build.l1] at h⟩
 | k + 1 => by
  obtain ⟨ih0, ih1, ih2, ih3, ih4⟩ := bailiwickref2_Build.mono_l k
  refine ⟨?_, ?_, ?_, ?_, ?_⟩
  ·intro y0 y1 y2 y3 y4 y5 y6 y7 y8 y9 y10 y11
   unfold bailiwickref2_Build.j0
   repeat' first
   | (with_reducible exact ih0 _ _ _ _ _ _ _ _ _ _ _ _)
   | (with_reducible exact ih1 _ _ _ _ _ _ _ _ _ _ _ _ _)
   | (with_reducible exact ih2 _ _ _ _ _ _ _ _ _ _ _ _ _)
   | (with_reducible exact ih3 _ _ _ _ _ _ _ _ _ _ _ _ _)
   | (with_reducible exact ih4 _ _ _ _ _ _ _ _ _ _ _ _ _)
   | (with_reducible exact bailiwickref1_Lay.mono _ _ _ _)
   | (with_reducible exact bailiwickref1_One.mono _ _)
   | (with_reducible exact LeO.refl _)
   | (with_reducible exact LeO.none _)
   | (with_reducible refine LeO.ite ?_ ?_)
   | (with_reducible refine LeO.bind ?_ (fun _ => ?_))
   | exact ih0 _ _ _ _ _ _ _ _ _ _ _ _
   | exact ih1 _ _ _ _ _ _ _ _ _ _ _ _ _
   | exact ih2 _ _ _ _ _ _ _ _ _ _ _ _ _
   | exact ih3 _ _ _ _ _ _ _ _ _ _ _ _ _
   | exact ih4 _ _ _ _ _ _ _ _ _ _ _ _ _
   | exact bailiwickref1_Lay.mono _ _ _ _
   | exact bailiwickref1_One.mono _ _
   | exact LeO.none _
   | refine LeO.ite ?_ ?_
   | refine LeO.bind ?_ (fun _ => ?_)
  ·intro y0 y1 y2 y3 y4 y5 y6 y7 y8 y9 y10 y11 y12
   unfold bailiwickref2_Build.j1
   repeat' first
   | (with_reducible exact ih0 _ _ _ _ _ _ _ _ _ _ _ _)
   | (with_reducible exact ih1 _ _ _ _ _ _ _ _ _ _ _ _ _)
   | (with_reducible exact ih2 _ _ _ _ _ _ _ _ _ _ _ _ _)
   | (with_reducible exact ih3 _ _ _ _ _ _ _ _ _ _ _ _ _)
   | (with_reducible exact ih4 _ _ _ _ _ _ _ _ _ _ _ _ _)
   | (with_reducible exact bailiwickref1_Lay.mono _ _ _ _)
   | (with_reducible exact bailiwickref1_One.mono _ _)
   | (with_reducible exact LeO.refl _)
   | (with_reducible exact LeO.none _)
   | (with_reducible refine LeO.ite ?_ ?_)
   | (with_reducible refine LeO.bind ?_ (fun _ => ?_))
   | exact ih0 _ _ _ _ _ _ _ _ _ _ _ _
   | exact ih1 _ _ _ _ _ _ _ _ _ _ _ _ _
   | exact ih2 _ _ _ _ _ _ _ _ _ _ _ _ _
   | exact ih3 _ _ _ _ _ _ _ _ _ _ _ _ _
   | exact ih4 _ _ _ _ _ _ _ _ _ _ _ _ _
   | exact bailiwickref1_Lay.mono _ _ _ _
   | exact bailiwickref1_One.mono _ _
   | exact LeO.none _
   | refine LeO.ite ?_ ?_
   | refine LeO.bind ?_ (fun _ => ?_)
  ·intro y0 y1 y2 y3 y4 y5 y6 y7 y8 y9 y10 y11 y12
   unfold bailiwickref2_Build.j2
   repeat' first
   | (with_reducible exact ih0 _ _ _ _ _ _ _ _ _ _ _ _)
   | (with_reducible exact ih1 _ _ _ _ _ _ _ _ _ _ _ _ _)
   | (with_reducible exact ih2 _ _ _ _ _ _ _ _ _ _ _ _ _)
   | (with_reducible exact ih3 _ _ _ _ _ _ _ _ _ _ _ _ _)
   | (with_reducible exact ih4 _ _ _ _ _ _ _ _ _ _ _ _ _)
   | (with_reducible exact bailiwickref1_Lay.mono _ _ _ _)
   | (with_reducible exact bailiwickref1_One.mono _ _)
   | (with_reducible exact LeO.refl _)
   | (with_reducible exact LeO.none _)
   | (with_reducible refine LeO.ite ?_ ?_)
   | (with_reducible refine LeO.bind ?_ (fun _ => ?_))
   | exact ih0 _ _ _ _ _ _ _ _ _ _ _ _
   | exact ih1 _ _ _ _ _ _ _ _ _ _ _ _ _
   | exact ih2 _ _ _ _ _ _ _ _ _ _ _ _ _
   | exact ih3 _ _ _ _ _ _ _ _ _ _ _ _ _
   | exact ih4 _ _ _ _ _ _ _ _ _ _ _ _ _
   | exact bailiwickref1_Lay.mono _ _ _ _
   | exact bailiwickref1_One.mono _ _
   | exact LeO.none _
   | refine LeO.ite ?_ ?_
   | refine LeO.bind ?_ (fun _ => ?_)
  ·intro y0 y1 y2 y3 y4 y5 y6 y7 y8 y9 y10 y11 y12
   unfold bailiwickref2_Build.l0
   repeat' first
   | (with_reducible exact ih0 _ _ _ _ _ _ _ _ _ _ _ _)
   | (with_reducible exact ih1 _ _ _ _ _ _ _ _ _ _ _ _ _)
   | (with_reducible exact ih2 _ _ _ _ _ _ _ _ _ _ _ _ _)
   | (with_reducible exact ih3 _ _ _ _ _ _ _ _ _ _ _ _ _)
   | (with_reducible exact ih4 _ _ _ _ _ _ _ _ _ _ _ _ _)
   | (with_reducible exact bailiwickref1_Lay.mono _ _ _ _)
   | (with_reducible exact bailiwickref1_One.mono _ _)
   | (with_reducible exact LeO.refl _)
   | (with_reducible exact LeO.none _)
   | (with_reducible refine LeO.ite ?_ ?_)
   | (with_reducible refine LeO.bind ?_ (fun _ => ?_))
   | exact ih0 _ _ _ _ _ _ _ _ _ _ _ _
   | exact ih1 _ _ _ _ _ _ _ _ _ _ _ _ _
   | exact ih2 _ _ _ _ _ _ _ _ _ _ _ _ _
   | exact ih3 _ _ _ _ _ _ _ _ _ _ _ _ _
   | exact ih4 _ _ _ _ _ _ _ _ _ _ _ _ _
   | exact bailiwickref1_Lay.mono _ _ _ _
   | exact bailiwickref1_One.mono _ _
   | exact LeO.none _
   | refine LeO.ite ?_ ?_
   | refine LeO.bind ?_ (fun _ => ?_)
  ·intro y0 y1 y2 y3 y4 y5 y6 y7 y8 y9 y10 y11 y12
   unfold bailiwickref2_Build.l1
   repeat' first
   | (with_reducible exact ih0 _ _ _ _ _ _ _ _ _ _ _ _)
   | (with_reducible exact ih1 _ _ _ _ _ _ _ _ _ _ _ _ _)
   | (with_reducible exact ih2 _ _ _ _ _ _ _ _ _ _ _ _ _)
   | (with_reducible exact ih3 _ _ _ _ _ _ _ _ _ _ _ _ _)
   | (with_reducible exact ih4 _ _ _ _ _ _ _ _ _ _ _ _ _)
   | (with_reducible exact bailiwickref1_Lay.mono _ _ _ _)
   | (with_reducible exact bailiwickref1_One.mono _ _)
   | (with_reducible exact LeO.refl _)
   | (with_reducible exact LeO.none _)
   | (with_reducible refine LeO.ite ?_ ?_)
   | (with_reducible refine LeO.bind ?_ (fun _ => ?_))
   | exact ih0 _ _ _ _ _ _ _ _ _ _ _ _
   | exact ih1 _ _ _ _ _ _ _ _ _ _ _ _ _
   | exact ih2 _ _ _ _ _ _ _ _ _ _ _ _ _
   | exact ih3 _ _ _ _ _ _ _ _ _ _ _ _ _
   | exact ih4 _ _ _ _ _ _ _ _ _ _ _ _ _
   | exact bailiwickref1_Lay.mono _ _ _ _
   | exact bailiwickref1_One.mono _ _
   | exact LeO.none _
   | refine LeO.ite ?_ ?_
   | refine LeO.bind ?_ (fun _ => ?_)
theorem bailiwickref2_Build.mono : ∀ a0 a1 a2 a3 a4 a5 a6 a7 a8 a9 a10 k, LeO (bailiwickref2_Build.f k a0 a1 a2 a3 a4 a5 a6 a7 a8 a9 a10) (bailiwickref2_Build.f (k + 1) a0 a1 a2 a3 a4 a5 a6 a7 a8 a9 a10) := by
 intro a0 a1 a2 a3 a4 a5 a6 a7 a8 a9 a10 k
 obtain ⟨ih0, ih1, ih2, ih3, ih4⟩ := bailiwickref2_Build.mono_l k
 unfold bailiwickref2_Build.f
 repeat' first
   | (with_reducible exact ih0 _ _ _ _ _ _ _ _ _ _ _ _)
   | (with_reducible exact ih1 _ _ _ _ _ _ _ _ _ _ _ _ _)
   | (with_reducible exact ih2 _ _ _ _ _ _ _ _ _ _ _ _ _)
   | (with_reducible exact ih3 _ _ _ _ _ _ _ _ _ _ _ _ _)
   | (with_reducible exact ih4 _ _ _ _ _ _ _ _ _ _ _ _ _)
   | (with_reducible exact bailiwickref1_Lay.mono _ _ _ _)
   | (with_reducible exact bailiwickref1_One.mono _ _)
   | (with_reducible exact LeO.refl _)
   | (with_reducible exact LeO.none _)
   | (with_reducible refine LeO.ite ?_ ?_)
   | (with_reducible refine LeO.bind ?_ (fun _ => ?_))
   | exact ih0 _ _ _ _ _ _ _ _ _ _ _ _
   | exact ih1 _ _ _ _ _ _ _ _ _ _ _ _ _
   | exact ih2 _ _ _ _ _ _ _ _ _ _ _ _ _
   | exact ih3 _ _ _ _ _ _ _ _ _ _ _ _ _
   | exact ih4 _ _ _ _ _ _ _ _ _ _ _ _ _
   | exact bailiwickref1_Lay.mono _ _ _ _
   | exact bailiwickref1_One.mono _ _
   | exact LeO.none _
   | refine LeO.ite ?_ ?_
   | refine LeO.bind ?_ (fun _ => ?_)
set_option maxHeartbeats 8000000 in
set_option maxRecDepth 100000 in
theorem bailiwickref2_Build.calls (k : Nat) (a0_0 : Int) (a0_1 : Int) (a0_2 : Bool) (a0_3 : Bool) (a0_4 : Int) (a0_5 : Int) (a0_6 : Int) (a0_7 : Int) (a0_8 : Int) (A0_9 : Option Addr) (c0_9 : Nat) (l0_9 : List Int) (A0_10 : Option Addr) (c0_10 : Nat) (l0_10 : List Int) (r1 : List Int) (r2 : Int) (w : World) (hr0_9 : Kd.C (Kd.int .u8) w A0_9 l0_9.length l0_9) (hc0_9 : l0_9.length ≤ c0_9) (hr0_10 : Kd.C (Kd.int .u8) w A0_10 l0_10.length l0_10) (hc0_10 : l0_10.length ≤ c0_10) (h : bailiwickref2_Build.f k a0_0 a0_1 a0_2 a0_3 a0_4 a0_5 a0_6 a0_7 a0_8 l0_9 l0_10 = some (r1, r2)) :
  Calls Try.prog 24 #[.agg #[.int .i64 a0_0, .int .i64 a0_1, .bool a0_2, .bool a0_3, .int .i64 a0_4, .int .i64 a0_5, .int .i64 a0_6, .int .u32 a0_7, .int .u32 a0_8, .slice A0_9 l0_9.length c0_9, .slice A0_10 l0_10.length c0_10]] w fun e w' => ∃ v0_ : Value, e = .returned (.tuple #[v0_, .int .i64 r2]) ∧ Kd.R (Kd.int .u8) 5 w' w.heap.size (fun _ => True) v0_ r1 ∧ Below w.heap.size w w' := by
 have hu29 := Try.underlying29
 have HR0_9 := Aside0.mk hr0_9
 have HC0_9 := Aside0.mk hc0_9
 clear hr0_9 hc0_9
 have HR0_10 := Aside0.mk hr0_10
 have HC0_10 := Aside0.mk hc0_10
 clear hr0_10 hc0_10
 have HB := Aside0.mk (Below.refl w.heap.size w)
 have H : ((bailiwickref2_in.f a0_0 255).bind fun t169 => (if t169 = true then ((bailiwickref2_in.f a0_5 255).bind fun t170 => (if t170 = true then ((bailiwickref2_in.f a0_6 255).bind fun t171 => (if t171 = true then ((bailiwickref2_in.f a0_1 65535).bind fun t172 => (if t172 = true then ((bailiwickref2_in.f a0_4 8191).bind fun t173 => (if t173 = true then (if (l0_9.length : Int) > 40 then (bailiwickref2_Build.j0 k true a0_0 a0_1 a0_2 a0_3 a0_4 a0_5 a0_6 a0_7 a0_8 l0_9 l0_10) else (bailiwickref2_Build.j0 k (((l0_9.length : Int) % 4) != 0) a0_0 a0_1 a0_2 a0_3 a0_4 a0_5 a0_6 a0_7 a0_8 l0_9 l0_10)) else (bailiwickref2_Build.j0 k true a0_0 a0_1 a0_2 a0_3 a0_4 a0_5 a0_6 a0_7 a0_8 l0_9 l0_10))) else (bailiwickref2_Build.j0 k true a0_0 a0_1 a0_2 a0_3 a0_4 a0_5 a0_6 a0_7 a0_8 l0_9 l0_10))) else (bailiwickref2_Build.j0 k true a0_0 a0_1 a0_2 a0_3 a0_4 a0_5 a0_6 a0_7 a0_8 l0_9 l0_10))) else (bailiwickref2_Build.j0 k true a0_0 a0_1 a0_2 a0_3 a0_4 a0_5 a0_6 a0_7 a0_8 l0_9 l0_10))) else (bailiwickref2_Build.j0 k true a0_0 a0_1 a0_2 a0_3 a0_4 a0_5 a0_6 a0_7 a0_8 l0_9 l0_10))) = some (r1, r2) := h
 clear h
 have HC2 := Aside0.mk H
 clear H
 go_enter Try.func24, Try.ntmps24
 go_upto_region 1 with (first | ((with_reducible refine gate_dst (N := 1) rfl ?_); refine box_event ?hg (N := 1) ?hd (cs := #[.int .i64 a0_0, .int .i64 a0_1, .bool a0_2, .bool a0_3, .int .i64 a0_4, .int .i64 a0_5, .int .i64 a0_6, .int .u32 a0_7, .int .u32 a0_8, .slice A0_9 l0_9.length c0_9, .slice A0_10 l0_10.length c0_10]) (t := 29) ?hr ?_; (case hd => rfl); (case hg => rfl); (case hr => first | (go_simp; done) | (go_simp; rfl)); intro gb168 hg w3 hbox hb; have n0_ := Aside0.mk (below_step (by repeat (first | (with_reducible first | exact HB.out | apply below_alloc | apply pw_below_drewN | apply below_drew1) | exact HB.out)) hb); have n1_ := Aside0.mk (hbox); have n2_ := Aside0.mk ((by rw [hg]; exact (below_size (by repeat (first | (with_reducible first | exact HB.out | apply below_alloc | apply pw_below_drewN | apply below_drew1) | exact HB.out))) : w.heap.size ≤ gb168)); have n3_ := Aside0.mk ((by rw [hg]; exact (below_size (by repeat (first | (with_reducible first | exact HB.out | apply below_alloc | apply pw_below_drewN | apply below_drew1) | exact HB.out))) : w.heap.size ≤ gb168)); clear HB; have HB := n0_; have BK168 := n1_; have GW168 := n2_; have GE168 := n3_; clear n0_ n1_ n2_ n3_; clear hb hbox hg))
 (try simp only [Act.put, List.setIfInBounds_toArray, List.set_cons_zero, List.set_cons_succ])
 go_cut [50] (fun v50 wc => ∃ (kq : Nat) (x50_1 : Bool), v50 = .bool x50_1 ∧ Aside0 (bailiwickref2_Build.j0 kq x50_1 a0_0 a0_1 a0_2 a0_3 a0_4 a0_5 a0_6 a0_7 a0_8 l0_9 l0_10 = some (r1, r2)) ∧ Aside0 (kq ≤ k) ∧ Aside0 (wc.heap[gb168]? = some (.cells #[.int .i64 a0_0, .int .i64 a0_1, .bool a0_2, .bool a0_3, .int .i64 a0_4, .int .i64 a0_5, .int .i64 a0_6, .int .u32 a0_7, .int .u32 a0_8, (.slice A0_9 l0_9.length c0_9), (.slice A0_10 l0_10.length c0_10)] 29 (0, 0))) ∧ Aside0 (Below w.heap.size w wc))
 case first =>
  have H := HC2.out
  clear HC2
  replace H := Option.bind_eq_some_iff.mp H
  obtain ⟨t169, A40, H⟩ := H
  replace H : (if t169 = true then ((bailiwickref2_in.f a0_5 255).bind fun t170 => (if t170 = true then ((bailiwickref2_in.f a0_6 255).bind fun t171 => (if t171 = true then ((bailiwickref2_in.f a0_1 65535).bind fun t172 => (if t172 = true then ((bailiwickref2_in.f a0_4 8191).bind fun t173 => (if t173 = true then (if (l0_9.length : Int) > 40 then (bailiwickref2_Build.j0 k true a0_0 a0_1 a0_2 a0_3 a0_4 a0_5 a0_6 a0_7 a0_8 l0_9 l0_10) else (bailiwickref2_Build.j0 k (((l0_9.length : Int) % 4) != 0) a0_0 a0_1 a0_2 a0_3 a0_4 a0_5 a0_6 a0_7 a0_8 l0_9 l0_10)) else (bailiwickref2_Build.j0 k true a0_0 a0_1 a0_2 a0_3 a0_4 a0_5 a0_6 a0_7 a0_8 l0_9 l0_10))) else (bailiwickref2_Build.j0 k true a0_0 a0_1 a0_2 a0_3 a0_4 a0_5 a0_6 a0_7 a0_8 l0_9 l0_10))) else (bailiwickref2_Build.j0 k true a0_0 a0_1 a0_2 a0_3 a0_4 a0_5 a0_6 a0_7 a0_8 l0_9 l0_10))) else (bailiwickref2_Build.j0 k true a0_0 a0_1 a0_2 a0_3 a0_4 a0_5 a0_6 a0_7 a0_8 l0_9 l0_10))) else (bailiwickref2_Build.j0 k true a0_0 a0_1 a0_2 a0_3 a0_4 a0_5 a0_6 a0_7 a0_8 l0_9 l0_10)) = some (r1, r2) := H
  have A4 := Aside0.mk A40
  clear A40
  by_cases c5 : t169 = true
  ·subst c5
   have H1 : ((bailiwickref2_in.f a0_5 255).bind fun t170 => (if t170 = true then ((bailiwickref2_in.f a0_6 255).bind fun t171 => (if t171 = true then ((bailiwickref2_in.f a0_1 65535).bind fun t172 => (if t172 = true then ((bailiwickref2_in.f a0_4 8191).bind fun t173 => (if t173 = true then (if (l0_9.length : Int) > 40 then (bailiwickref2_Build.j0 k true a0_0 a0_1 a0_2 a0_3 a0_4 a0_5 a0_6 a0_7 a0_8 l0_9 l0_10) else (bailiwickref2_Build.j0 k (((l0_9.length : Int) % 4) != 0) a0_0 a0_1 a0_2 a0_3 a0_4 a0_5 a0_6 a0_7 a0_8 l0_9 l0_10)) else (bailiwickref2_Build.j0 k true a0_0 a0_1 a0_2 a0_3 a0_4 a0_5 a0_6 a0_7 a0_8 l0_9 l0_10))) else (bailiwickref2_Build.j0 k true a0_0 a0_1 a0_2 a0_3 a0_4 a0_5 a0_6 a0_7 a0_8 l0_9 l0_10))) else (bailiwickref2_Build.j0 k true a0_0 a0_1 a0_2 a0_3 a0_4 a0_5 a0_6 a0_7 a0_8 l0_9 l0_10))) else (bailiwickref2_Build.j0 k true a0_0 a0_1 a0_2 a0_3 a0_4 a0_5 a0_6 a0_7 a0_8 l0_9 l0_10))) = some (r1, r2) := by rw [if_pos rfl] at H; exact H
   clear H
   have H := H1
   clear H1
   replace H := Option.bind_eq_some_iff.mp H
   obtain ⟨t170, A60, H⟩ := H
   replace H : (if t170 = true then ((bailiwickref2_in.f a0_6 255).bind fun t171 => (if t171 = true then ((bailiwickref2_in.f a0_1 65535).bind fun t172 => (if t172 = true then ((bailiwickref2_in.f a0_4 8191).bind fun t173 => (if t173 = true then (if (l0_9.length : Int) > 40 then (bailiwickref2_Build.j0 k true a0_0 a0_1 a0_2 a0_3 a0_4 a0_5 a0_6 a0_7 a0_8 l0_9 l0_10) else (bailiwickref2_Build.j0 k (((l0_9.length : Int) % 4) != 0) a0_0 a0_1 a0_2 a0_3 a0_4 a0_5 a0_6 a0_7 a0_8 l0_9 l0_10)) else (bailiwickref2_Build.j0 k true a0_0 a0_1 a0_2 a0_3 a0_4 a0_5 a0_6 a0_7 a0_8 l0_9 l0_10))) else (bailiwickref2_Build.j0 k true a0_0 a0_1 a0_2 a0_3 a0_4 a0_5 a0_6 a0_7 a0_8 l0_9 l0_10))) else (bailiwickref2_Build.j0 k true a0_0 a0_1 a0_2 a0_3 a0_4 a0_5 a0_6 a0_7 a0_8 l0_9 l0_10))) else (bailiwickref2_Build.j0 k true a0_0 a0_1 a0_2 a0_3 a0_4 a0_5 a0_6 a0_7 a0_8 l0_9 l0_10)) = some (r1, r2) := H
   have A6 := Aside0.mk A60
   clear A60
   by_cases c7 : t170 = true
   ·subst c7
    have H1 : ((bailiwickref2_in.f a0_6 255).bind fun t171 => (if t171 = true then ((bailiwickref2_in.f a0_1 65535).bind fun t172 => (if t172 = true then ((bailiwickref2_in.f a0_4 8191).bind fun t173 => (if t173 = true then (if (l0_9.length : Int) > 40 then (bailiwickref2_Build.j0 k true a0_0 a0_1 a0_2 a0_3 a0_4 a0_5 a0_6 a0_7 a0_8 l0_9 l0_10) else (bailiwickref2_Build.j0 k (((l0_9.length : Int) % 4) != 0) a0_0 a0_1 a0_2 a0_3 a0_4 a0_5 a0_6 a0_7 a0_8 l0_9 l0_10)) else (bailiwickref2_Build.j0 k true a0_0 a0_1 a0_2 a0_3 a0_4 a0_5 a0_6 a0_7 a0_8 l0_9 l0_10))) else (bailiwickref2_Build.j0 k true a0_0 a0_1 a0_2 a0_3 a0_4 a0_5 a0_6 a0_7 a0_8 l0_9 l0_10))) else (bailiwickref2_Build.j0 k true a0_0 a0_1 a0_2 a0_3 a0_4 a0_5 a0_6 a0_7 a0_8 l0_9 l0_10))) = some (r1, r2) := by rw [if_pos rfl] at H; exact H
    clear H
    have H := H1
    clear H1
    replace H := Option.bind_eq_some_iff.mp H
    obtain ⟨t171, A80, H⟩ := H
    replace H : (if t171 = true then ((bailiwickref2_in.f a0_1 65535).bind fun t172 => (if t172 = true then ((bailiwickref2_in.f a0_4 8191).bind fun t173 => (if t173 = true then (if (l0_9.length : Int) > 40 then (bailiwickref2_Build.j0 k true a0_0 a0_1 a0_2 a0_3 a0_4 a0_5 a0_6 a0_7 a0_8 l0_9 l0_10) else (bailiwickref2_Build.j0 k (((l0_9.length : Int) % 4) != 0) a0_0 a0_1 a0_2 a0_3 a0_4 a0_5 a0_6 a0_7 a0_8 l0_9 l0_10)) else (bailiwickref2_Build.j0 k true a0_0 a0_1 a0_2 a0_3 a0_4 a0_5 a0_6 a0_7 a0_8 l0_9 l0_10))) else (bailiwickref2_Build.j0 k true a0_0 a0_1 a0_2 a0_3 a0_4 a0_5 a0_6 a0_7 a0_8 l0_9 l0_10))) else (bailiwickref2_Build.j0 k true a0_0 a0_1 a0_2 a0_3 a0_4 a0_5 a0_6 a0_7 a0_8 l0_9 l0_10)) = some (r1, r2) := H
    have A8 := Aside0.mk A80
    clear A80
    by_cases c9 : t171 = true
    ·subst c9
     have H1 : ((bailiwickref2_in.f a0_1 65535).bind fun t172 => (if t172 = true then ((bailiwickref2_in.f a0_4 8191).bind fun t173 => (if t173 = true then (if (l0_9.length : Int) > 40 then (bailiwickref2_Build.j0 k true a0_0 a0_1 a0_2 a0_3 a0_4 a0_5 a0_6 a0_7 a0_8 l0_9 l0_10) else (bailiwickref2_Build.j0 k (((l0_9.length : Int) % 4) != 0) a0_0 a0_1 a0_2 a0_3 a0_4 a0_5 a0_6 a0_7 a0_8 l0_9 l0_10)) else (bailiwickref2_Build.j0 k true a0_0 a0_1 a0_2 a0_3 a0_4 a0_5 a0_6 a0_7 a0_8 l0_9 l0_10))) else (bailiwickref2_Build.j0 k true a0_0 a0_1 a0_2 a0_3 a0_4 a0_5 a0_6 a0_7 a0_8 l0_9 l0_10))) = some (r1, r2) := by rw [if_pos rfl] at H; exact H
     clear H
     have H := H1
     clear H1
     replace H := Option.bind_eq_some_iff.mp H
     obtain ⟨t172, A100, H⟩ := H
     replace H : (if t172 = true then ((bailiwickref2_in.f a0_4 8191).bind fun t173 => (if t173 = true then (if (l0_9.length : Int) > 40 then (bailiwickref2_Build.j0 k true a0_0 a0_1 a0_2 a0_3 a0_4 a0_5 a0_6 a0_7 a0_8 l0_9 l0_10) else (bailiwickref2_Build.j0 k (((l0_9.length : Int) % 4) != 0) a0_0 a0_1 a0_2 a0_3 a0_4 a0_5 a0_6 a0_7 a0_8 l0_9 l0_10)) else (bailiwickref2_Build.j0 k true a0_0 a0_1 a0_2 a0_3 a0_4 a0_5 a0_6 a0_7 a0_8 l0_9 l0_10))) else (bailiwickref2_Build.j0 k true a0_0 a0_1 a0_2 a0_3 a0_4 a0_5 a0_6 a0_7 a0_8 l0_9 l0_10)) = some (r1, r2) := H
     have A10 := Aside0.mk A100
     clear A100
     by_cases c11 : t172 = true
     ·subst c11
      have H1 : ((bailiwickref2_in.f a0_4 8191).bind fun t173 => (if t173 = true then (if (l0_9.length : Int) > 40 then (bailiwickref2_Build.j0 k true a0_0 a0_1 a0_2 a0_3 a0_4 a0_5 a0_6 a0_7 a0_8 l0_9 l0_10) else (bailiwickref2_Build.j0 k (((l0_9.length : Int) % 4) != 0) a0_0 a0_1 a0_2 a0_3 a0_4 a0_5 a0_6 a0_7 a0_8 l0_9 l0_10)) else (bailiwickref2_Build.j0 k true a0_0 a0_1 a0_2 a0_3 a0_4 a0_5 a0_6 a0_7 a0_8 l0_9 l0_10))) = some (r1, r2) := by rw [if_pos rfl] at H; exact H
      clear H
      have H := H1
      clear H1
      replace H := Option.bind_eq_some_iff.mp H
      obtain ⟨t173, A120, H⟩ := H
      replace H : (if t173 = true then (if (l0_9.length : Int) > 40 then (bailiwickref2_Build.j0 k true a0_0 a0_1 a0_2 a0_3 a0_4 a0_5 a0_6 a0_7 a0_8 l0_9 l0_10) else (bailiwickref2_Build.j0 k (((l0_9.length : Int) % 4) != 0) a0_0 a0_1 a0_2 a0_3 a0_4 a0_5 a0_6 a0_7 a0_8 l0_9 l0_10)) else (bailiwickref2_Build.j0 k true a0_0 a0_1 a0_2 a0_3 a0_4 a0_5 a0_6 a0_7 a0_8 l0_9 l0_10)) = some (r1, r2) := H
      have A12 := Aside0.mk A120
      clear A120
      by_cases c13 : t173 = true
      ·subst c13
       have H1 : (if (l0_9.length : Int) > 40 then (bailiwickref2_Build.j0 k true a0_0 a0_1 a0_2 a0_3 a0_4 a0_5 a0_6 a0_7 a0_8 l0_9 l0_10) else (bailiwickref2_Build.j0 k (((l0_9.length : Int) % 4) != 0) a0_0 a0_1 a0_2 a0_3 a0_4 a0_5 a0_6 a0_7 a0_8 l0_9 l0_10)) = some (r1, r2) := by rw [if_pos rfl] at H; exact H
       clear H
       have H := H1
       clear H1
       by_cases c14 : (l0_9.length : Int) > 40
       ·rw [if_pos c14] at H
        have c14b0 : decide (40 < (l0_9.length : Int)) = true := decide_eq_true c14
        have c14b1 : decide (40 < l0_9.length) = true := decide_eq_true (by omega)
        clear c14
        (first | rw [c14b0] | (simp only [i64_w, i32_w]; rw [c14b0]) | skip)
        have H' := Aside0.mk H
        clear H
        have hcz15_0 : w3.cell? ⟨gb168, 0, none⟩ = some (.int .i64 a0_0) := (blk_cell BK168.out 0).trans rfl
        have hcz15_1 : w3.cell? ⟨gb168, 1, none⟩ = some (.int .i64 a0_1) := (blk_cell BK168.out 1).trans rfl
        have hcz15_2 : w3.cell? ⟨gb168, 2, none⟩ = some (.bool a0_2) := (blk_cell BK168.out 2).trans rfl
        have hcz15_3 : w3.cell? ⟨gb168, 3, none⟩ = some (.bool a0_3) := (blk_cell BK168.out 3).trans rfl
        have hcz15_4 : w3.cell? ⟨gb168, 4, none⟩ = some (.int .i64 a0_4) := (blk_cell BK168.out 4).trans rfl
        have hcz15_5 : w3.cell? ⟨gb168, 5, none⟩ = some (.int .i64 a0_5) := (blk_cell BK168.out 5).trans rfl
        have hcz15_6 : w3.cell? ⟨gb168, 6, none⟩ = some (.int .i64 a0_6) := (blk_cell BK168.out 6).trans rfl
        have hcz15_7 : w3.cell? ⟨gb168, 7, none⟩ = some (.int .u32 a0_7) := (blk_cell BK168.out 7).trans rfl
        have hcz15_8 : w3.cell? ⟨gb168, 8, none⟩ = some (.int .u32 a0_8) := (blk_cell BK168.out 8).trans rfl
        have hcz15_9 : w3.cell? ⟨gb168, 9, none⟩ = some (.slice A0_9 l0_9.length c0_9) := (blk_cell BK168.out 9).trans rfl
        have hcz15_10 : w3.cell? ⟨gb168, 10, none⟩ = some (.slice A0_10 l0_10.length c0_10) := (blk_cell BK168.out 10).trans rfl
        have hfz15_0 := blk_frozen BK168.out 0
        have hfz15_1 := blk_frozen BK168.out 1
        have hfz15_2 := blk_frozen BK168.out 2
        have hfz15_3 := blk_frozen BK168.out 3
        have hfz15_4 := blk_frozen BK168.out 4
        have hfz15_5 := blk_frozen BK168.out 5
        have hfz15_6 := blk_frozen BK168.out 6
        have hfz15_7 := blk_frozen BK168.out 7
        have hfz15_8 := blk_frozen BK168.out 8
        have hfz15_9 := blk_frozen BK168.out 9
        have hfz15_10 := blk_frozen BK168.out 10
        go_wp2_with (first | ((with_reducible refine gate_callee (f := 59) rfl ?_); refine goesL_ (some 12) rfl rfl Try.func59 (by kernel_rfl) rfl #[.int .i64 a0_0, .int .i64 255] rfl (by (try simp only [List.map_toArray, List.map_cons, List.map_nil]); first | done | rfl | (simp only [List.length_drop, List.length_take]; rfl)) ?_; (with_reducible refine (bailiwickref2_in.calls a0_0 255 true _ A4.out).mono ?_); rintro e w' ⟨rfl, ⟨nd, rfl⟩⟩; refine ⟨_, rfl, ?_⟩) | (go_at_call 59; (with_reducible refine (bailiwickref2_in.calls a0_5 255 true _ A6.out).mono ?_); rintro e w' ⟨rfl, ⟨nd, rfl⟩⟩) | (go_at_call 59; (with_reducible refine (bailiwickref2_in.calls a0_6 255 true _ A8.out).mono ?_); rintro e w' ⟨rfl, ⟨nd, rfl⟩⟩) | (go_at_call 59; (with_reducible refine (bailiwickref2_in.calls a0_1 65535 true _ A10.out).mono ?_); rintro e w' ⟨rfl, ⟨nd, rfl⟩⟩) | (go_at_call 59; (with_reducible refine (bailiwickref2_in.calls a0_4 8191 true _ A12.out).mono ?_); rintro e w' ⟨rfl, ⟨nd, rfl⟩⟩))
        go_meet
        case rel => exact ⟨_, (true), (by first | rfl | (simp; done) | (simp [*]; done)), H', ⟨by first | omega | exact Nat.le_refl _⟩, ⟨by (with_reducible repeat (first | refine blk_drewN ?_ _ | refine blk_drew ?_ | refine blk_alloc ?_ _)); exact BK168.out⟩, ⟨by repeat (first | (with_reducible first | exact HB.out | apply below_alloc | apply pw_below_drewN | apply below_drew1 | refine below_set ?_ GE168.out) | exact HB.out)⟩⟩
       ·rw [if_neg c14] at H
        have c14b0 : decide (40 < (l0_9.length : Int)) = false := decide_eq_false c14
        have c14b1 : decide (40 < l0_9.length) = false := decide_eq_false (by omega)
        clear c14
        (first | rw [c14b0] | (simp only [i64_w, i32_w]; rw [c14b0]) | skip)
        have H' := Aside0.mk H
        clear H
        have hcz16_0 : w3.cell? ⟨gb168, 0, none⟩ = some (.int .i64 a0_0) := (blk_cell BK168.out 0).trans rfl
        have hcz16_1 : w3.cell? ⟨gb168, 1, none⟩ = some (.int .i64 a0_1) := (blk_cell BK168.out 1).trans rfl
        have hcz16_2 : w3.cell? ⟨gb168, 2, none⟩ = some (.bool a0_2) := (blk_cell BK168.out 2).trans rfl
        have hcz16_3 : w3.cell? ⟨gb168, 3, none⟩ = some (.bool a0_3) := (blk_cell BK168.out 3).trans rfl
        have hcz16_4 : w3.cell? ⟨gb168, 4, none⟩ = some (.int .i64 a0_4) := (blk_cell BK168.out 4).trans rfl
        have hcz16_5 : w3.cell? ⟨gb168, 5, none⟩ = some (.int .i64 a0_5) := (blk_cell BK168.out 5).trans rfl
        have hcz16_6 : w3.cell? ⟨gb168, 6, none⟩ = some (.int .i64 a0_6) := (blk_cell BK168.out 6).trans rfl
        have hcz16_7 : w3.cell? ⟨gb168, 7, none⟩ = some (.int .u32 a0_7) := (blk_cell BK168.out 7).trans rfl
        have hcz16_8 : w3.cell? ⟨gb168, 8, none⟩ = some (.int .u32 a0_8) := (blk_cell BK168.out 8).trans rfl
        have hcz16_9 : w3.cell? ⟨gb168, 9, none⟩ = some (.slice A0_9 l0_9.length c0_9) := (blk_cell BK168.out 9).trans rfl
        have hcz16_10 : w3.cell? ⟨gb168, 10, none⟩ = some (.slice A0_10 l0_10.length c0_10) := (blk_cell BK168.out 10).trans rfl
        have hfz16_0 := blk_frozen BK168.out 0
        have hfz16_1 := blk_frozen BK168.out 1
        have hfz16_2 := blk_frozen BK168.out 2
        have hfz16_3 := blk_frozen BK168.out 3
        have hfz16_4 := blk_frozen BK168.out 4
        have hfz16_5 := blk_frozen BK168.out 5
        have hfz16_6 := blk_frozen BK168.out 6
        have hfz16_7 := blk_frozen BK168.out 7
        have hfz16_8 := blk_frozen BK168.out 8
        have hfz16_9 := blk_frozen BK168.out 9
        have hfz16_10 := blk_frozen BK168.out 10
        go_wp2_with (first | ((with_reducible refine gate_callee (f := 59) rfl ?_); refine goesL_ (some 12) rfl rfl Try.func59 (by kernel_rfl) rfl #[.int .i64 a0_0, .int .i64 255] rfl (by (try simp only [List.map_toArray, List.map_cons, List.map_nil]); first | done | rfl | (simp only [List.length_drop, List.length_take]; rfl)) ?_; (with_reducible refine (bailiwickref2_in.calls a0_0 255 true _ A4.out).mono ?_); rintro e w' ⟨rfl, ⟨nd, rfl⟩⟩; refine ⟨_, rfl, ?_⟩) | (go_at_call 59; (with_reducible refine (bailiwickref2_in.calls a0_5 255 true _ A6.out).mono ?_); rintro e w' ⟨rfl, ⟨nd, rfl⟩⟩) | (go_at_call 59; (with_reducible refine (bailiwickref2_in.calls a0_6 255 true _ A8.out).mono ?_); rintro e w' ⟨rfl, ⟨nd, rfl⟩⟩) | (go_at_call 59; (with_reducible refine (bailiwickref2_in.calls a0_1 65535 true _ A10.out).mono ?_); rintro e w' ⟨rfl, ⟨nd, rfl⟩⟩) | (go_at_call 59; (with_reducible refine (bailiwickref2_in.calls a0_4 8191 true _ A12.out).mono ?_); rintro e w' ⟨rfl, ⟨nd, rfl⟩⟩))
        go_meet
        case rel => exact ⟨_, ((((l0_9.length : Int) % 4) != 0)), (by first | rfl | (simp; done) | (simp [*]; done)), H', ⟨by first | omega | exact Nat.le_refl _⟩, ⟨by (with_reducible repeat (first | refine blk_drewN ?_ _ | refine blk_drew ?_ | refine blk_alloc ?_ _)); exact BK168.out⟩, ⟨by repeat (first | (with_reducible first | exact HB.out | apply below_alloc | apply pw_below_drewN | apply below_drew1 | refine below_set ?_ GE168.out) | exact HB.out)⟩⟩
      ·replace c13 := Bool.eq_false_iff.mpr c13
       subst c13
       have H1 : (bailiwickref2_Build.j0 k true a0_0 a0_1 a0_2 a0_3 a0_4 a0_5 a0_6 a0_7 a0_8 l0_9 l0_10) = some (r1, r2) := by rw [if_neg (show ¬ (false = true) by decide)] at H; exact H
       clear H
       have H := H1
       clear H1
       have H' := Aside0.mk H
       clear H
       have hcz17_0 : w3.cell? ⟨gb168, 0, none⟩ = some (.int .i64 a0_0) := (blk_cell BK168.out 0).trans rfl
       have hcz17_1 : w3.cell? ⟨gb168, 1, none⟩ = some (.int .i64 a0_1) := (blk_cell BK168.out 1).trans rfl
       have hcz17_2 : w3.cell? ⟨gb168, 2, none⟩ = some (.bool a0_2) := (blk_cell BK168.out 2).trans rfl
       have hcz17_3 : w3.cell? ⟨gb168, 3, none⟩ = some (.bool a0_3) := (blk_cell BK168.out 3).trans rfl
       have hcz17_4 : w3.cell? ⟨gb168, 4, none⟩ = some (.int .i64 a0_4) := (blk_cell BK168.out 4).trans rfl
       have hcz17_5 : w3.cell? ⟨gb168, 5, none⟩ = some (.int .i64 a0_5) := (blk_cell BK168.out 5).trans rfl
       have hcz17_6 : w3.cell? ⟨gb168, 6, none⟩ = some (.int .i64 a0_6) := (blk_cell BK168.out 6).trans rfl
       have hcz17_7 : w3.cell? ⟨gb168, 7, none⟩ = some (.int .u32 a0_7) := (blk_cell BK168.out 7).trans rfl
       have hcz17_8 : w3.cell? ⟨gb168, 8, none⟩ = some (.int .u32 a0_8) := (blk_cell BK168.out 8).trans rfl
       have hcz17_9 : w3.cell? ⟨gb168, 9, none⟩ = some (.slice A0_9 l0_9.length c0_9) := (blk_cell BK168.out 9).trans rfl
       have hcz17_10 : w3.cell? ⟨gb168, 10, none⟩ = some (.slice A0_10 l0_10.length c0_10) := (blk_cell BK168.out 10).trans rfl
       have hfz17_0 := blk_frozen BK168.out 0
       have hfz17_1 := blk_frozen BK168.out 1
       have hfz17_2 := blk_frozen BK168.out 2
       have hfz17_3 := blk_frozen BK168.out 3
       have hfz17_4 := blk_frozen BK168.out 4
       have hfz17_5 := blk_frozen BK168.out 5
       have hfz17_6 := blk_frozen BK168.out 6
       have hfz17_7 := blk_frozen BK168.out 7
       have hfz17_8 := blk_frozen BK168.out 8
       have hfz17_9 := blk_frozen BK168.out 9
       have hfz17_10 := blk_frozen BK168.out 10
       go_wp2_with (first | ((with_reducible refine gate_callee (f := 59) rfl ?_); refine goesL_ (some 12) rfl rfl Try.func59 (by kernel_rfl) rfl #[.int .i64 a0_0, .int .i64 255] rfl (by (try simp only [List.map_toArray, List.map_cons, List.map_nil]); first | done | rfl | (simp only [List.length_drop, List.length_take]; rfl)) ?_; (with_reducible refine (bailiwickref2_in.calls a0_0 255 true _ A4.out).mono ?_); rintro e w' ⟨rfl, ⟨nd, rfl⟩⟩; refine ⟨_, rfl, ?_⟩) | (go_at_call 59; (with_reducible refine (bailiwickref2_in.calls a0_5 255 true _ A6.out).mono ?_); rintro e w' ⟨rfl, ⟨nd, rfl⟩⟩) | (go_at_call 59; (with_reducible refine (bailiwickref2_in.calls a0_6 255 true _ A8.out).mono ?_); rintro e w' ⟨rfl, ⟨nd, rfl⟩⟩) | (go_at_call 59; (with_reducible refine (bailiwickref2_in.calls a0_1 65535 true _ A10.out).mono ?_); rintro e w' ⟨rfl, ⟨nd, rfl⟩⟩) | (go_at_call 59; (with_reducible refine (bailiwickref2_in.calls a0_4 8191 false _ A12.out).mono ?_); rintro e w' ⟨rfl, ⟨nd, rfl⟩⟩))
       go_meet
       case rel => exact ⟨_, (true), (by first | rfl | (simp; done) | (simp [*]; done)), H', ⟨by first | omega | exact Nat.le_refl _⟩, ⟨by (with_reducible repeat (first | refine blk_drewN ?_ _ | refine blk_drew ?_ | refine blk_alloc ?_ _)); exact BK168.out⟩, ⟨by repeat (first | (with_reducible first | exact HB.out | apply below_alloc | apply pw_below_drewN | apply below_drew1 | refine below_set ?_ GE168.out) | exact HB.out)⟩⟩
     ·replace c11 := Bool.eq_false_iff.mpr c11
      subst c11
      have H1 : (bailiwickref2_Build.j0 k true a0_0 a0_1 a0_2 a0_3 a0_4 a0_5 a0_6 a0_7 a0_8 l0_9 l0_10) = some (r1, r2) := by rw [if_neg (show ¬ (false = true) by decide)] at H; exact H
      clear H
      have H := H1
      clear H1
      have H' := Aside0.mk H
      clear H
      have hcz18_0 : w3.cell? ⟨gb168, 0, none⟩ = some (.int .i64 a0_0) := (blk_cell BK168.out 0).trans rfl
      have hcz18_1 : w3.cell? ⟨gb168, 1, none⟩ = some (.int .i64 a0_1) := (blk_cell BK168.out 1).trans rfl
      have hcz18_2 : w3.cell? ⟨gb168, 2, none⟩ = some (.bool a0_2) := (blk_cell BK168.out 2).trans rfl
      have hcz18_3 : w3.cell? ⟨gb168, 3, none⟩ = some (.bool a0_3) := (blk_cell BK168.out 3).trans rfl
      have hcz18_4 : w3.cell? ⟨gb168, 4, none⟩ = some (.int .i64 a0_4) := (blk_cell BK168.out 4).trans rfl
      have hcz18_5 : w3.cell? ⟨gb168, 5, none⟩ = some (.int .i64 a0_5) := (blk_cell BK168.out 5).trans rfl
      have hcz18_6 : w3.cell? ⟨gb168, 6, none⟩ = some (.int .i64 a0_6) := (blk_cell BK168.out 6).trans rfl
      have hcz18_7 : w3.cell? ⟨gb168, 7, none⟩ = some (.int .u32 a0_7) := (blk_cell BK168.out 7).trans rfl
      have hcz18_8 : w3.cell? ⟨gb168, 8, none⟩ = some (.int .u32 a0_8) := (blk_cell BK168.out 8).trans rfl
      have hcz18_9 : w3.cell? ⟨gb168, 9, none⟩ = some (.slice A0_9 l0_9.length c0_9) := (blk_cell BK168.out 9).trans rfl
      have hcz18_10 : w3.cell? ⟨gb168, 10, none⟩ = some (.slice A0_10 l0_10.length c0_10) := (blk_cell BK168.out 10).trans rfl
      have hfz18_0 := blk_frozen BK168.out 0
      have hfz18_1 := blk_frozen BK168.out 1
      have hfz18_2 := blk_frozen BK168.out 2
      have hfz18_3 := blk_frozen BK168.out 3
      have hfz18_4 := blk_frozen BK168.out 4
      have hfz18_5 := blk_frozen BK168.out 5
      have hfz18_6 := blk_frozen BK168.out 6
      have hfz18_7 := blk_frozen BK168.out 7
      have hfz18_8 := blk_frozen BK168.out 8
      have hfz18_9 := blk_frozen BK168.out 9
      have hfz18_10 := blk_frozen BK168.out 10
      go_wp2_with (first | ((with_reducible refine gate_callee (f := 59) rfl ?_); refine goesL_ (some 12) rfl rfl Try.func59 (by kernel_rfl) rfl #[.int .i64 a0_0, .int .i64 255] rfl (by (try simp only [List.map_toArray, List.map_cons, List.map_nil]); first | done | rfl | (simp only [List.length_drop, List.length_take]; rfl)) ?_; (with_reducible refine (bailiwickref2_in.calls a0_0 255 true _ A4.out).mono ?_); rintro e w' ⟨rfl, ⟨nd, rfl⟩⟩; refine ⟨_, rfl, ?_⟩) | (go_at_call 59; (with_reducible refine (bailiwickref2_in.calls a0_5 255 true _ A6.out).mono ?_); rintro e w' ⟨rfl, ⟨nd, rfl⟩⟩) | (go_at_call 59; (with_reducible refine (bailiwickref2_in.calls a0_6 255 true _ A8.out).mono ?_); rintro e w' ⟨rfl, ⟨nd, rfl⟩⟩) | (go_at_call 59; (with_reducible refine (bailiwickref2_in.calls a0_1 65535 false _ A10.out).mono ?_); rintro e w' ⟨rfl, ⟨nd, rfl⟩⟩))
      go_meet
      case rel => exact ⟨_, (true), (by first | rfl | (simp; done) | (simp [*]; done)), H', ⟨by first | omega | exact Nat.le_refl _⟩, ⟨by (with_reducible repeat (first | refine blk_drewN ?_ _ | refine blk_drew ?_ | refine blk_alloc ?_ _)); exact BK168.out⟩, ⟨by repeat (first | (with_reducible first | exact HB.out | apply below_alloc | apply pw_below_drewN | apply below_drew1 | refine below_set ?_ GE168.out) | exact HB.out)⟩⟩
    ·replace c9 := Bool.eq_false_iff.mpr c9
     subst c9
     have H1 : (bailiwickref2_Build.j0 k true a0_0 a0_1 a0_2 a0_3 a0_4 a0_5 a0_6 a0_7 a0_8 l0_9 l0_10) = some (r1, r2) := by rw [if_neg (show ¬ (false = true) by decide)] at H; exact H
     clear H
     have H := H1
     clear H1
     have H' := Aside0.mk H
     clear H
     have hcz19_0 : w3.cell? ⟨gb168, 0, none⟩ = some (.int .i64 a0_0) := (blk_cell BK168.out 0).trans rfl
     have hcz19_1 : w3.cell? ⟨gb168, 1, none⟩ = some (.int .i64 a0_1) := (blk_cell BK168.out 1).trans rfl
     have hcz19_2 : w3.cell? ⟨gb168, 2, none⟩ = some (.bool a0_2) := (blk_cell BK168.out 2).trans rfl
     have hcz19_3 : w3.cell? ⟨gb168, 3, none⟩ = some (.bool a0_3) := (blk_cell BK168.out 3).trans rfl
     have hcz19_4 : w3.cell? ⟨gb168, 4, none⟩ = some (.int .i64 a0_4) := (blk_cell BK168.out 4).trans rfl
     have hcz19_5 : w3.cell? ⟨gb168, 5, none⟩ = some (.int .i64 a0_5) := (blk_cell BK168.out 5).trans rfl
     have hcz19_6 : w3.cell? ⟨gb168, 6, none⟩ = some (.int .i64 a0_6) := (blk_cell BK168.out 6).trans rfl
     have hcz19_7 : w3.cell? ⟨gb168, 7, none⟩ = some (.int .u32 a0_7) := (blk_cell BK168.out 7).trans rfl
     have hcz19_8 : w3.cell? ⟨gb168, 8, none⟩ = some (.int .u32 a0_8) := (blk_cell BK168.out 8).trans rfl
     have hcz19_9 : w3.cell? ⟨gb168, 9, none⟩ = some (.slice A0_9 l0_9.length c0_9) := (blk_cell BK168.out 9).trans rfl
     have hcz19_10 : w3.cell? ⟨gb168, 10, none⟩ = some (.slice A0_10 l0_10.length c0_10) := (blk_cell BK168.out 10).trans rfl
     have hfz19_0 := blk_frozen BK168.out 0
     have hfz19_1 := blk_frozen BK168.out 1
     have hfz19_2 := blk_frozen BK168.out 2
     have hfz19_3 := blk_frozen BK168.out 3
     have hfz19_4 := blk_frozen BK168.out 4
     have hfz19_5 := blk_frozen BK168.out 5
     have hfz19_6 := blk_frozen BK168.out 6
     have hfz19_7 := blk_frozen BK168.out 7
     have hfz19_8 := blk_frozen BK168.out 8
     have hfz19_9 := blk_frozen BK168.out 9
     have hfz19_10 := blk_frozen BK168.out 10
     go_wp2_with (first | ((with_reducible refine gate_callee (f := 59) rfl ?_); refine goesL_ (some 12) rfl rfl Try.func59 (by kernel_rfl) rfl #[.int .i64 a0_0, .int .i64 255] rfl (by (try simp only [List.map_toArray, List.map_cons, List.map_nil]); first | done | rfl | (simp only [List.length_drop, List.length_take]; rfl)) ?_; (with_reducible refine (bailiwickref2_in.calls a0_0 255 true _ A4.out).mono ?_); rintro e w' ⟨rfl, ⟨nd, rfl⟩⟩; refine ⟨_, rfl, ?_⟩) | (go_at_call 59; (with_reducible refine (bailiwickref2_in.calls a0_5 255 true _ A6.out).mono ?_); rintro e w' ⟨rfl, ⟨nd, rfl⟩⟩) | (go_at_call 59; (with_reducible refine (bailiwickref2_in.calls a0_6 255 false _ A8.out).mono ?_); rintro e w' ⟨rfl, ⟨nd, rfl⟩⟩))
     go_meet
     case rel => exact ⟨_, (true), (by first | rfl | (simp; done) | (simp [*]; done)), H', ⟨by first | omega | exact Nat.le_refl _⟩, ⟨by (with_reducible repeat (first | refine blk_drewN ?_ _ | refine blk_drew ?_ | refine blk_alloc ?_ _)); exact BK168.out⟩, ⟨by repeat (first | (with_reducible first | exact HB.out | apply below_alloc | apply pw_below_drewN | apply below_drew1 | refine below_set ?_ GE168.out) | exact HB.out)⟩⟩
   ·replace c7 := Bool.eq_false_iff.mpr c7
    subst c7
    have H1 : (bailiwickref2_Build.j0 k true a0_0 a0_1 a0_2 a0_3 a0_4 a0_5 a0_6 a0_7 a0_8 l0_9 l0_10) = some (r1, r2) := by rw [if_neg (show ¬ (false = true) by decide)] at H; exact H
    clear H
    have H := H1
    clear H1
    have H' := Aside0.mk H
    clear H
    have hcz20_0 : w3.cell? ⟨gb168, 0, none⟩ = some (.int .i64 a0_0) := (blk_cell BK168.out 0).trans rfl
    have hcz20_1 : w3.cell? ⟨gb168, 1, none⟩ = some (.int .i64 a0_1) := (blk_cell BK168.out 1).trans rfl
    have hcz20_2 : w3.cell? ⟨gb168, 2, none⟩ = some (.bool a0_2) := (blk_cell BK168.out 2).trans rfl
    have hcz20_3 : w3.cell? ⟨gb168, 3, none⟩ = some (.bool a0_3) := (blk_cell BK168.out 3).trans rfl
    have hcz20_4 : w3.cell? ⟨gb168, 4, none⟩ = some (.int .i64 a0_4) := (blk_cell BK168.out 4).trans rfl
    have hcz20_5 : w3.cell? ⟨gb168, 5, none⟩ = some (.int .i64 a0_5) := (blk_cell BK168.out 5).trans rfl
    have hcz20_6 : w3.cell? ⟨gb168, 6, none⟩ = some (.int .i64 a0_6) := (blk_cell BK168.out 6).trans rfl
    have hcz20_7 : w3.cell? ⟨gb168, 7, none⟩ = some (.int .u32 a0_7) := (blk_cell BK168.out 7).trans rfl
    have hcz20_8 : w3.cell? ⟨gb168, 8, none⟩ = some (.int .u32 a0_8) := (blk_cell BK168.out 8).trans rfl
    have hcz20_9 : w3.cell? ⟨gb168, 9, none⟩ = some (.slice A0_9 l0_9.length c0_9) := (blk_cell BK168.out 9).trans rfl
    have hcz20_10 : w3.cell? ⟨gb168, 10, none⟩ = some (.slice A0_10 l0_10.length c0_10) := (blk_cell BK168.out 10).trans rfl
    have hfz20_0 := blk_frozen BK168.out 0
    have hfz20_1 := blk_frozen BK168.out 1
    have hfz20_2 := blk_frozen BK168.out 2
    have hfz20_3 := blk_frozen BK168.out 3
    have hfz20_4 := blk_frozen BK168.out 4
    have hfz20_5 := blk_frozen BK168.out 5
    have hfz20_6 := blk_frozen BK168.out 6
    have hfz20_7 := blk_frozen BK168.out 7
    have hfz20_8 := blk_frozen BK168.out 8
    have hfz20_9 := blk_frozen BK168.out 9
    have hfz20_10 := blk_frozen BK168.out 10
    go_wp2_with (first | ((with_reducible refine gate_callee (f := 59) rfl ?_); refine goesL_ (some 12) rfl rfl Try.func59 (by kernel_rfl) rfl #[.int .i64 a0_0, .int .i64 255] rfl (by (try simp only [List.map_toArray, List.map_cons, List.map_nil]); first | done | rfl | (simp only [List.length_drop, List.length_take]; rfl)) ?_; (with_reducible refine (bailiwickref2_in.calls a0_0 255 true _ A4.out).mono ?_); rintro e w' ⟨rfl, ⟨nd, rfl⟩⟩; refine ⟨_, rfl, ?_⟩) | (go_at_call 59; (with_reducible refine (bailiwickref2_in.calls a0_5 255 false _ A6.out).mono ?_); rintro e w' ⟨rfl, ⟨nd, rfl⟩⟩))
    go_meet
    case rel => exact ⟨_, (true), (by first | rfl | (simp; done) | (simp [*]; done)), H', ⟨by first | omega | exact Nat.le_refl _⟩, ⟨by (with_reducible repeat (first | refine blk_drewN ?_ _ | refine blk_drew ?_ | refine blk_alloc ?_ _)); exact BK168.out⟩, ⟨by repeat (first | (with_reducible first | exact HB.out | apply below_alloc | apply pw_below_drewN | apply below_drew1 | refine below_set ?_ GE168.out) | exact HB.out)⟩⟩
  ·replace c5 := Bool.eq_false_iff.mpr c5
   subst c5
   have H1 : (bailiwickref2_Build.j0 k true a0_0 a0_1 a0_2 a0_3 a0_4 a0_5 a0_6 a0_7 a0_8 l0_9 l0_10) = some (r1, r2) := by rw [if_neg (show ¬ (false = true) by decide)] at H; exact H
   clear H
   have H := H1
   clear H1
   have H' := Aside0.mk H
   clear H
   have hcz21_0 : w3.cell? ⟨gb168, 0, none⟩ = some (.int .i64 a0_0) := (blk_cell BK168.out 0).trans rfl
   have hcz21_1 : w3.cell? ⟨gb168, 1, none⟩ = some (.int .i64 a0_1) := (blk_cell BK168.out 1).trans rfl
   have hcz21_2 : w3.cell? ⟨gb168, 2, none⟩ = some (.bool a0_2) := (blk_cell BK168.out 2).trans rfl
   have hcz21_3 : w3.cell? ⟨gb168, 3, none⟩ = some (.bool a0_3) := (blk_cell BK168.out 3).trans rfl
   have hcz21_4 : w3.cell? ⟨gb168, 4, none⟩ = some (.int .i64 a0_4) := (blk_cell BK168.out 4).trans rfl
   have hcz21_5 : w3.cell? ⟨gb168, 5, none⟩ = some (.int .i64 a0_5) := (blk_cell BK168.out 5).trans rfl
   have hcz21_6 : w3.cell? ⟨gb168, 6, none⟩ = some (.int .i64 a0_6) := (blk_cell BK168.out 6).trans rfl
   have hcz21_7 : w3.cell? ⟨gb168, 7, none⟩ = some (.int .u32 a0_7) := (blk_cell BK168.out 7).trans rfl
   have hcz21_8 : w3.cell? ⟨gb168, 8, none⟩ = some (.int .u32 a0_8) := (blk_cell BK168.out 8).trans rfl
   have hcz21_9 : w3.cell? ⟨gb168, 9, none⟩ = some (.slice A0_9 l0_9.length c0_9) := (blk_cell BK168.out 9).trans rfl
   have hcz21_10 : w3.cell? ⟨gb168, 10, none⟩ = some (.slice A0_10 l0_10.length c0_10) := (blk_cell BK168.out 10).trans rfl
   have hfz21_0 := blk_frozen BK168.out 0
   have hfz21_1 := blk_frozen BK168.out 1
   have hfz21_2 := blk_frozen BK168.out 2
   have hfz21_3 := blk_frozen BK168.out 3
   have hfz21_4 := blk_frozen BK168.out 4
   have hfz21_5 := blk_frozen BK168.out 5
   have hfz21_6 := blk_frozen BK168.out 6
   have hfz21_7 := blk_frozen BK168.out 7
   have hfz21_8 := blk_frozen BK168.out 8
   have hfz21_9 := blk_frozen BK168.out 9
   have hfz21_10 := blk_frozen BK168.out 10
   go_wp2_with (first | ((with_reducible refine gate_callee (f := 59) rfl ?_); refine goesL_ (some 12) rfl rfl Try.func59 (by kernel_rfl) rfl #[.int .i64 a0_0, .int .i64 255] rfl (by (try simp only [List.map_toArray, List.map_cons, List.map_nil]); first | done | rfl | (simp only [List.length_drop, List.length_take]; rfl)) ?_; (with_reducible refine (bailiwickref2_in.calls a0_0 255 false _ A4.out).mono ?_); rintro e w' ⟨rfl, ⟨nd, rfl⟩⟩; refine ⟨_, rfl, ?_⟩))
   go_meet
   case rel => exact ⟨_, (true), (by first | rfl | (simp; done) | (simp [*]; done)), H', ⟨by first | omega | exact Nat.le_refl _⟩, ⟨by (with_reducible repeat (first | refine blk_drewN ?_ _ | refine blk_drew ?_ | refine blk_alloc ?_ _)); exact BK168.out⟩, ⟨by repeat (first | (with_reducible first | exact HB.out | apply below_alloc | apply pw_below_drewN | apply below_drew1 | refine below_set ?_ GE168.out) | exact HB.out)⟩⟩
 case rest =>
  clear HC2
  try clear c1
  try clear c2
  try clear p2
  try clear c5
  try clear c7
  try clear c9
  try clear c11
  try clear c13
  try clear c14
  try clear c14b0
  try clear c14b1
  try clear hcz15_0
  try clear hcz15_1
  try clear hcz15_10
  try clear hcz15_2
  try clear hcz15_3
  try clear hcz15_4
  try clear hcz15_5
  try clear hcz15_6
  try clear hcz15_7
  try clear hcz15_8
  try clear hcz15_9
  try clear hcz16_0
  try clear hcz16_1
  try clear hcz16_10
  try clear hcz16_2
  try clear hcz16_3
  try clear hcz16_4
  try clear hcz16_5
  try clear hcz16_6
  try clear hcz16_7
  try clear hcz16_8
  try clear hcz16_9
  try clear hcz17_0
  try clear hcz17_1
  try clear hcz17_10
  try clear hcz17_2
  try clear hcz17_3
  try clear hcz17_4
  try clear hcz17_5
  try clear hcz17_6
  try clear hcz17_7
  try clear hcz17_8
  try clear hcz17_9
  try clear hcz18_0
  try clear hcz18_1
  try clear hcz18_10
  try clear hcz18_2
  try clear hcz18_3
  try clear hcz18_4
  try clear hcz18_5
  try clear hcz18_6
  try clear hcz18_7
  try clear hcz18_8
  try clear hcz18_9
  try clear hcz19_0
  try clear hcz19_1
  try clear hcz19_10
  try clear hcz19_2
  try clear hcz19_3
  try clear hcz19_4
  try clear hcz19_5
  try clear hcz19_6
  try clear hcz19_7
  try clear hcz19_8
  try clear hcz19_9
  try clear hcz20_0
  try clear hcz20_1
  try clear hcz20_10
  try clear hcz20_2
  try clear hcz20_3
  try clear hcz20_4
  try clear hcz20_5
  try clear hcz20_6
  try clear hcz20_7
  try clear hcz20_8
  try clear hcz20_9
  try clear hcz21_0
  try clear hcz21_1
  try clear hcz21_10
  try clear hcz21_2
  try clear hcz21_3
  try clear hcz21_4
  try clear hcz21_5
  try clear hcz21_6
  try clear hcz21_7
  try clear hcz21_8
  try clear hcz21_9
  try clear hfz15_0
  try clear hfz15_1
  try clear hfz15_10
  try clear hfz15_2
  try clear hfz15_3
  try clear hfz15_4
  try clear hfz15_5
  try clear hfz15_6
  try clear hfz15_7
  try clear hfz15_8
  try clear hfz15_9
  try clear hfz16_0
  try clear hfz16_1
  try clear hfz16_10
  try clear hfz16_2
  try clear hfz16_3
  try clear hfz16_4
  try clear hfz16_5
  try clear hfz16_6
  try clear hfz16_7
  try clear hfz16_8
  try clear hfz16_9
  try clear hfz17_0
  try clear hfz17_1
  try clear hfz17_10
  try clear hfz17_2
  try clear hfz17_3
  try clear hfz17_4
  try clear hfz17_5
  try clear hfz17_6
  try clear hfz17_7
  try clear hfz17_8
  try clear hfz17_9
  try clear hfz18_0
  try clear hfz18_1
  try clear hfz18_10
  try clear hfz18_2
  try clear hfz18_3
  try clear hfz18_4
  try clear hfz18_5
  try clear hfz18_6
  try clear hfz18_7
  try clear hfz18_8
  try clear hfz18_9
  try clear hfz19_0
  try clear hfz19_1
  try clear hfz19_10
  try clear hfz19_2
  try clear hfz19_3
  try clear hfz19_4
  try clear hfz19_5
  try clear hfz19_6
  try clear hfz19_7
  try clear hfz19_8
  try clear hfz19_9
  try clear hfz20_0
  try clear hfz20_1
  try clear hfz20_10
  try clear hfz20_2
  try clear hfz20_3
  try clear hfz20_4
  try clear hfz20_5
  try clear hfz20_6
  try clear hfz20_7
  try clear hfz20_8
  try clear hfz20_9
  try clear hfz21_0
  try clear hfz21_1
  try clear hfz21_10
  try clear hfz21_2
  try clear hfz21_3
  try clear hfz21_4
  try clear hfz21_5
  try clear hfz21_6
  try clear hfz21_7
  try clear hfz21_8
  try clear hfz21_9
  obtain ⟨kq, x50_1, rfl, HA, HJ1, BK168, HB⟩ := hcut
  cases kq with
  | zero => exact absurd HA.out (by simp [bailiwickref2_Build.j0])
  | succ kj1 =>
   have H := HA.out
   clear HA
   simp only [bailiwickref2_Build.j0] at H
   by_cases c22 : x50_1 = true
   ·subst c22
    have H1 : (some (([] : List Int), 1)) = some (r1, r2) := by rw [if_pos rfl] at H; exact H
    clear H
    have H := H1
    clear H1
    simp only [Option.some.injEq, Prod.mk.injEq] at H
    obtain ⟨rfl, rfl⟩ := H
    go_wp2
    go_ret2
    exact ⟨_, by first | rfl | (simp [errW_none, errW_some] <;> rfl) | (simp [*, errW_none, errW_some] <;> rfl), by first | exact Kd.R_nil _ _ _ _ _ | exact Kd.N_nil _ _ _ _ _ | exact Kd.V_nil _ _ _ _ _ | exact Kd.Q_nil _ _ _ _ _ | exact Kd.S_nil _ _ _ _ _, by repeat (first | (with_reducible first | exact HB.out | apply below_alloc | apply pw_below_drewN | apply below_drew1 | refine below_set ?_ GE168.out) | exact HB.out)⟩
   ·replace c22 := Bool.eq_false_iff.mpr c22
    subst c22
    have H1 : (if (l0_10.length : Int) > (wrap64 (2048 - (wrap64 (20 + (l0_9.length : Int))))) then (some (([] : List Int), 3)) else (if a0_2 = true then (bailiwickref2_Build.j1 kj1 (wrap64 (20 + (l0_9.length : Int))) (Go.bits .or .i64 a0_4 16384) a0_0 a0_1 a0_2 a0_3 a0_4 a0_5 a0_6 a0_7 a0_8 l0_9 l0_10) else (bailiwickref2_Build.j1 kj1 (wrap64 (20 + (l0_9.length : Int))) a0_4 a0_0 a0_1 a0_2 a0_3 a0_4 a0_5 a0_6 a0_7 a0_8 l0_9 l0_10))) = some (r1, r2) := by rw [if_neg (show ¬ (false = true) by decide)] at H; exact H
    clear H
    have H := H1
    clear H1
    by_cases c23 : (l0_10.length : Int) > (wrap64 (2048 - (wrap64 (20 + (l0_9.length : Int)))))
    ·rw [if_pos c23] at H
     have c23b0 : decide ((wrap64 (2048 - (wrap64 (20 + (l0_9.length : Int))))) < (l0_10.length : Int)) = true := decide_eq_true c23
     clear c23
     simp only [Option.some.injEq, Prod.mk.injEq] at H
     obtain ⟨rfl, rfl⟩ := H
     have hcz24_0 : wc.cell? ⟨gb168, 0, none⟩ = some (.int .i64 a0_0) := (blk_cell BK168.out 0).trans rfl
     have hcz24_1 : wc.cell? ⟨gb168, 1, none⟩ = some (.int .i64 a0_1) := (blk_cell BK168.out 1).trans rfl
     have hcz24_2 : wc.cell? ⟨gb168, 2, none⟩ = some (.bool a0_2) := (blk_cell BK168.out 2).trans rfl
     have hcz24_3 : wc.cell? ⟨gb168, 3, none⟩ = some (.bool a0_3) := (blk_cell BK168.out 3).trans rfl
     have hcz24_4 : wc.cell? ⟨gb168, 4, none⟩ = some (.int .i64 a0_4) := (blk_cell BK168.out 4).trans rfl
     have hcz24_5 : wc.cell? ⟨gb168, 5, none⟩ = some (.int .i64 a0_5) := (blk_cell BK168.out 5).trans rfl
     have hcz24_6 : wc.cell? ⟨gb168, 6, none⟩ = some (.int .i64 a0_6) := (blk_cell BK168.out 6).trans rfl
     have hcz24_7 : wc.cell? ⟨gb168, 7, none⟩ = some (.int .u32 a0_7) := (blk_cell BK168.out 7).trans rfl
     have hcz24_8 : wc.cell? ⟨gb168, 8, none⟩ = some (.int .u32 a0_8) := (blk_cell BK168.out 8).trans rfl
     have hcz24_9 : wc.cell? ⟨gb168, 9, none⟩ = some (.slice A0_9 l0_9.length c0_9) := (blk_cell BK168.out 9).trans rfl
     have hcz24_10 : wc.cell? ⟨gb168, 10, none⟩ = some (.slice A0_10 l0_10.length c0_10) := (blk_cell BK168.out 10).trans rfl
     have hfz24_0 := blk_frozen BK168.out 0
     have hfz24_1 := blk_frozen BK168.out 1
     have hfz24_2 := blk_frozen BK168.out 2
     have hfz24_3 := blk_frozen BK168.out 3
     have hfz24_4 := blk_frozen BK168.out 4
     have hfz24_5 := blk_frozen BK168.out 5
     have hfz24_6 := blk_frozen BK168.out 6
     have hfz24_7 := blk_frozen BK168.out 7
     have hfz24_8 := blk_frozen BK168.out 8
     have hfz24_9 := blk_frozen BK168.out 9
     have hfz24_10 := blk_frozen BK168.out 10
     go_wp2
     go_ret2
     exact ⟨_, by first | rfl | (simp [errW_none, errW_some] <;> rfl) | (simp [*, errW_none, errW_some] <;> rfl), by first | exact Kd.R_nil _ _ _ _ _ | exact Kd.N_nil _ _ _ _ _ | exact Kd.V_nil _ _ _ _ _ | exact Kd.Q_nil _ _ _ _ _ | exact Kd.S_nil _ _ _ _ _, by repeat (first | (with_reducible first | exact HB.out | apply below_alloc | apply pw_below_drewN | apply below_drew1 | refine below_set ?_ GE168.out) | exact HB.out)⟩
    ·rw [if_neg c23] at H
     have c23b0 : decide ((wrap64 (2048 - (wrap64 (20 + (l0_9.length : Int))))) < (l0_10.length : Int)) = false := decide_eq_false c23
     clear c23
     have HC25 := Aside0.mk H
     clear H
     have hcz26_0 : wc.cell? ⟨gb168, 0, none⟩ = some (.int .i64 a0_0) := (blk_cell BK168.out 0).trans rfl
     have hcz26_1 : wc.cell? ⟨gb168, 1, none⟩ = some (.int .i64 a0_1) := (blk_cell BK168.out 1).trans rfl
     have hcz26_2 : wc.cell? ⟨gb168, 2, none⟩ = some (.bool a0_2) := (blk_cell BK168.out 2).trans rfl
     have hcz26_3 : wc.cell? ⟨gb168, 3, none⟩ = some (.bool a0_3) := (blk_cell BK168.out 3).trans rfl
     have hcz26_4 : wc.cell? ⟨gb168, 4, none⟩ = some (.int .i64 a0_4) := (blk_cell BK168.out 4).trans rfl
     have hcz26_5 : wc.cell? ⟨gb168, 5, none⟩ = some (.int .i64 a0_5) := (blk_cell BK168.out 5).trans rfl
     have hcz26_6 : wc.cell? ⟨gb168, 6, none⟩ = some (.int .i64 a0_6) := (blk_cell BK168.out 6).trans rfl
     have hcz26_7 : wc.cell? ⟨gb168, 7, none⟩ = some (.int .u32 a0_7) := (blk_cell BK168.out 7).trans rfl
     have hcz26_8 : wc.cell? ⟨gb168, 8, none⟩ = some (.int .u32 a0_8) := (blk_cell BK168.out 8).trans rfl
     have hcz26_9 : wc.cell? ⟨gb168, 9, none⟩ = some (.slice A0_9 l0_9.length c0_9) := (blk_cell BK168.out 9).trans rfl
     have hcz26_10 : wc.cell? ⟨gb168, 10, none⟩ = some (.slice A0_10 l0_10.length c0_10) := (blk_cell BK168.out 10).trans rfl
     have hfz26_0 := blk_frozen BK168.out 0
     have hfz26_1 := blk_frozen BK168.out 1
     have hfz26_2 := blk_frozen BK168.out 2
     have hfz26_3 := blk_frozen BK168.out 3
     have hfz26_4 := blk_frozen BK168.out 4
     have hfz26_5 := blk_frozen BK168.out 5
     have hfz26_6 := blk_frozen BK168.out 6
     have hfz26_7 := blk_frozen BK168.out 7
     have hfz26_8 := blk_frozen BK168.out 8
     have hfz26_9 := blk_frozen BK168.out 9
     have hfz26_10 := blk_frozen BK168.out 10
     go_upto_if 64 with (fail)
     go_cut [5] (fun v5 wc => ∃ (kq : Nat) (x5_24 : Int), v5 = .int .i64 x5_24 ∧ Aside0 (bailiwickref2_Build.j1 kq (wrap64 (20 + (l0_9.length : Int))) x5_24 a0_0 a0_1 a0_2 a0_3 a0_4 a0_5 a0_6 a0_7 a0_8 l0_9 l0_10 = some (r1, r2)) ∧ Aside0 (kq ≤ kj1) ∧ Aside0 (wc.heap[gb168]? = some (.cells #[.int .i64 a0_0, .int .i64 a0_1, .bool a0_2, .bool a0_3, .int .i64 a0_4, .int .i64 a0_5, .int .i64 a0_6, .int .u32 a0_7, .int .u32 a0_8, (.slice A0_9 l0_9.length c0_9), (.slice A0_10 l0_10.length c0_10)] 29 (0, 0))) ∧ Aside0 (Below w.heap.size w wc))
     case first =>
      have H := HC25.out
      clear HC25
      by_cases c27 : a0_2 = true
      ·subst c27
       have H1 : (bailiwickref2_Build.j1 kj1 (wrap64 (20 + (l0_9.length : Int))) (Go.bits .or .i64 a0_4 16384) a0_0 a0_1 true a0_3 a0_4 a0_5 a0_6 a0_7 a0_8 l0_9 l0_10) = some (r1, r2) := by rw [if_pos rfl] at H; exact H
       clear H
       have H := H1
       clear H1
       have H' := Aside0.mk H
       clear H
       go_wp2
       go_meet
       case rel => exact ⟨_, (Go.bits .or .i64 a0_4 16384), (by first | rfl | (simp; done) | (simp [*]; done)), H', ⟨by have := HJ1.out; first | omega | exact Nat.le_refl _⟩, ⟨by (with_reducible repeat (first | refine blk_drewN ?_ _ | refine blk_drew ?_ | refine blk_alloc ?_ _)); exact BK168.out⟩, ⟨by repeat (first | (with_reducible first | exact HB.out | apply below_alloc | apply pw_below_drewN | apply below_drew1 | refine below_set ?_ GE168.out) | exact HB.out)⟩⟩
      ·replace c27 := Bool.eq_false_iff.mpr c27
       subst c27
       have H1 : (bailiwickref2_Build.j1 kj1 (wrap64 (20 + (l0_9.length : Int))) a0_4 a0_0 a0_1 false a0_3 a0_4 a0_5 a0_6 a0_7 a0_8 l0_9 l0_10) = some (r1, r2) := by rw [if_neg (show ¬ (false = true) by decide)] at H; exact H
       clear H
       have H := H1
       clear H1
       have H' := Aside0.mk H
       clear H
       go_wp2
       go_meet
       case rel => exact ⟨_, (a0_4), (by first | rfl | (simp; done) | (simp [*]; done)), H', ⟨by have := HJ1.out; first | omega | exact Nat.le_refl _⟩, ⟨by (with_reducible repeat (first | refine blk_drewN ?_ _ | refine blk_drew ?_ | refine blk_alloc ?_ _)); exact BK168.out⟩, ⟨by repeat (first | (with_reducible first | exact HB.out | apply below_alloc | apply pw_below_drewN | apply below_drew1 | refine below_set ?_ GE168.out) | exact HB.out)⟩⟩
     case rest =>
      clear HC25
      try clear c1
      try clear c2
      try clear p2
      try clear c5
      try clear p6
      try clear c7
      try clear c9
      try clear c11
      try clear c13
      try clear c14
      try clear c14b0
      try clear c14b1
      try clear c22
      try clear c23
      try clear c23b0
      try clear c24
      try clear c27
      try clear hcz15_0
      try clear hcz15_1
      try clear hcz15_10
      try clear hcz15_2
      try clear hcz15_3
      try clear hcz15_4
      try clear hcz15_5
      try clear hcz15_6
      try clear hcz15_7
      try clear hcz15_8
      try clear hcz15_9
      try clear hcz16_0
      try clear hcz16_1
      try clear hcz16_10
      try clear hcz16_2
      try clear hcz16_3
      try clear hcz16_4
      try clear hcz16_5
      try clear hcz16_6
      try clear hcz16_7
      try clear hcz16_8
      try clear hcz16_9
      try clear hcz17_0
      try clear hcz17_1
      try clear hcz17_10
      try clear hcz17_2
      try clear hcz17_3
      try clear hcz17_4
      try clear hcz17_5
      try clear hcz17_6
      try clear hcz17_7
      try clear hcz17_8
      try clear hcz17_9
      try clear hcz18_0
      try clear hcz18_1
      try clear hcz18_10
      try clear hcz18_2
      try clear hcz18_3
      try clear hcz18_4
      try clear hcz18_5
      try clear hcz18_6
      try clear hcz18_7
      try clear hcz18_8
      try clear hcz18_9
      try clear hcz19_0
      try clear hcz19_1
      try clear hcz19_10
      try clear hcz19_2
      try clear hcz19_3
      try clear hcz19_4
      try clear hcz19_5
      try clear hcz19_6
      try clear hcz19_7
      try clear hcz19_8
      try clear hcz19_9
      try clear hcz20_0
      try clear hcz20_1
      try clear hcz20_10
      try clear hcz20_2
      try clear hcz20_3
      try clear hcz20_4
      try clear hcz20_5
      try clear hcz20_6
      try clear hcz20_7
      try clear hcz20_8
      try clear hcz20_9
      try clear hcz21_0
      try clear hcz21_1
      try clear hcz21_10
      try clear hcz21_2
      try clear hcz21_3
      try clear hcz21_4
      try clear hcz21_5
      try clear hcz21_6
      try clear hcz21_7
      try clear hcz21_8
      try clear hcz21_9
      try clear hcz24_0
      try clear hcz24_1
      try clear hcz24_10
      try clear hcz24_2
      try clear hcz24_3
      try clear hcz24_4
      try clear hcz24_5
      try clear hcz24_6
      try clear hcz24_7
      try clear hcz24_8
      try clear hcz24_9
      try clear hcz26_0
      try clear hcz26_1
      try clear hcz26_10
      try clear hcz26_2
      try clear hcz26_3
      try clear hcz26_4
      try clear hcz26_5
      try clear hcz26_6
      try clear hcz26_7
      try clear hcz26_8
      try clear hcz26_9
      try clear hfz15_0
      try clear hfz15_1
      try clear hfz15_10
      try clear hfz15_2
      try clear hfz15_3
      try clear hfz15_4
      try clear hfz15_5
      try clear hfz15_6
      try clear hfz15_7
      try clear hfz15_8
      try clear hfz15_9
      try clear hfz16_0
      try clear hfz16_1
      try clear hfz16_10
      try clear hfz16_2
      try clear hfz16_3
      try clear hfz16_4
      try clear hfz16_5
      try clear hfz16_6
      try clear hfz16_7
      try clear hfz16_8
      try clear hfz16_9
      try clear hfz17_0
      try clear hfz17_1
      try clear hfz17_10
      try clear hfz17_2
      try clear hfz17_3
      try clear hfz17_4
      try clear hfz17_5
      try clear hfz17_6
      try clear hfz17_7
      try clear hfz17_8
      try clear hfz17_9
      try clear hfz18_0
      try clear hfz18_1
      try clear hfz18_10
      try clear hfz18_2
      try clear hfz18_3
      try clear hfz18_4
      try clear hfz18_5
      try clear hfz18_6
      try clear hfz18_7
      try clear hfz18_8
      try clear hfz18_9
      try clear hfz19_0
      try clear hfz19_1
      try clear hfz19_10
      try clear hfz19_2
      try clear hfz19_3
      try clear hfz19_4
      try clear hfz19_5
      try clear hfz19_6
      try clear hfz19_7
      try clear hfz19_8
      try clear hfz19_9
      try clear hfz20_0
      try clear hfz20_1
      try clear hfz20_10
      try clear hfz20_2
      try clear hfz20_3
      try clear hfz20_4
      try clear hfz20_5
      try clear hfz20_6
      try clear hfz20_7
      try clear hfz20_8
      try clear hfz20_9
      try clear hfz21_0
      try clear hfz21_1
      try clear hfz21_10
      try clear hfz21_2
      try clear hfz21_3
      try clear hfz21_4
      try clear hfz21_5
      try clear hfz21_6
      try clear hfz21_7
      try clear hfz21_8
      try clear hfz21_9
      try clear hfz24_0
      try clear hfz24_1
      try clear hfz24_10
      try clear hfz24_2
      try clear hfz24_3
      try clear hfz24_4
      try clear hfz24_5
      try clear hfz24_6
      try clear hfz24_7
      try clear hfz24_8
      try clear hfz24_9
      try clear hfz26_0
      try clear hfz26_1
      try clear hfz26_10
      try clear hfz26_2
      try clear hfz26_3
      try clear hfz26_4
      try clear hfz26_5
      try clear hfz26_6
      try clear hfz26_7
      try clear hfz26_8
      try clear hfz26_9
      try clear p2
      obtain ⟨kq, x5_24, rfl, HA, HJ24, BK168, HB⟩ := hcut
      cases kq with
      | zero => exact absurd HA.out (by simp [bailiwickref2_Build.j1])
      | succ kj24 =>
       have H := HA.out
       clear HA
       simp only [bailiwickref2_Build.j1] at H
       have HC28 := Aside0.mk H
       clear H
       have hcz29_0 : wc.cell? ⟨gb168, 0, none⟩ = some (.int .i64 a0_0) := (blk_cell BK168.out 0).trans rfl
       have hcz29_1 : wc.cell? ⟨gb168, 1, none⟩ = some (.int .i64 a0_1) := (blk_cell BK168.out 1).trans rfl
       have hcz29_2 : wc.cell? ⟨gb168, 2, none⟩ = some (.bool a0_2) := (blk_cell BK168.out 2).trans rfl
       have hcz29_3 : wc.cell? ⟨gb168, 3, none⟩ = some (.bool a0_3) := (blk_cell BK168.out 3).trans rfl
       have hcz29_4 : wc.cell? ⟨gb168, 4, none⟩ = some (.int .i64 a0_4) := (blk_cell BK168.out 4).trans rfl
       have hcz29_5 : wc.cell? ⟨gb168, 5, none⟩ = some (.int .i64 a0_5) := (blk_cell BK168.out 5).trans rfl
       have hcz29_6 : wc.cell? ⟨gb168, 6, none⟩ = some (.int .i64 a0_6) := (blk_cell BK168.out 6).trans rfl
       have hcz29_7 : wc.cell? ⟨gb168, 7, none⟩ = some (.int .u32 a0_7) := (blk_cell BK168.out 7).trans rfl
       have hcz29_8 : wc.cell? ⟨gb168, 8, none⟩ = some (.int .u32 a0_8) := (blk_cell BK168.out 8).trans rfl
       have hcz29_9 : wc.cell? ⟨gb168, 9, none⟩ = some (.slice A0_9 l0_9.length c0_9) := (blk_cell BK168.out 9).trans rfl
       have hcz29_10 : wc.cell? ⟨gb168, 10, none⟩ = some (.slice A0_10 l0_10.length c0_10) := (blk_cell BK168.out 10).trans rfl
       have hfz29_0 := blk_frozen BK168.out 0
       have hfz29_1 := blk_frozen BK168.out 1
       have hfz29_2 := blk_frozen BK168.out 2
       have hfz29_3 := blk_frozen BK168.out 3
       have hfz29_4 := blk_frozen BK168.out 4
       have hfz29_5 := blk_frozen BK168.out 5
       have hfz29_6 := blk_frozen BK168.out 6
       have hfz29_7 := blk_frozen BK168.out 7
       have hfz29_8 := blk_frozen BK168.out 8
       have hfz29_9 := blk_frozen BK168.out 9
       have hfz29_10 := blk_frozen BK168.out 10
       go_upto_if 68 with (fail)
       go_cut [5] (fun v5 wc => ∃ (kq : Nat) (x5_27 : Int), v5 = .int .i64 x5_27 ∧ Aside0 (bailiwickref2_Build.j2 kq (wrap64 (20 + (l0_9.length : Int))) x5_27 a0_0 a0_1 a0_2 a0_3 a0_4 a0_5 a0_6 a0_7 a0_8 l0_9 l0_10 = some (r1, r2)) ∧ Aside0 (kq ≤ kj24) ∧ Aside0 (wc.heap[gb168]? = some (.cells #[.int .i64 a0_0, .int .i64 a0_1, .bool a0_2, .bool a0_3, .int .i64 a0_4, .int .i64 a0_5, .int .i64 a0_6, .int .u32 a0_7, .int .u32 a0_8, (.slice A0_9 l0_9.length c0_9), (.slice A0_10 l0_10.length c0_10)] 29 (0, 0))) ∧ Aside0 (Below w.heap.size w wc))
       case first =>
        have H := HC28.out
        clear HC28
        by_cases c30 : a0_3 = true
        ·subst c30
         have H1 : (bailiwickref2_Build.j2 kj24 (wrap64 (20 + (l0_9.length : Int))) (Go.bits .or .i64 x5_24 8192) a0_0 a0_1 a0_2 true a0_4 a0_5 a0_6 a0_7 a0_8 l0_9 l0_10) = some (r1, r2) := by rw [if_pos rfl] at H; exact H
         clear H
         have H := H1
         clear H1
         have H' := Aside0.mk H
         clear H
         go_wp2
         go_meet
         case rel => exact ⟨_, (Go.bits .or .i64 x5_24 8192), (by first | rfl | (simp; done) | (simp [*]; done)), H', ⟨by have := HJ1.out; have := HJ24.out; first | omega | exact Nat.le_refl _⟩, ⟨by (with_reducible repeat (first | refine blk_drewN ?_ _ | refine blk_drew ?_ | refine blk_alloc ?_ _)); exact BK168.out⟩, ⟨by repeat (first | (with_reducible first | exact HB.out | apply below_alloc | apply pw_below_drewN | apply below_drew1 | refine below_set ?_ GE168.out) | exact HB.out)⟩⟩
        ·replace c30 := Bool.eq_false_iff.mpr c30
         subst c30
         have H1 : (bailiwickref2_Build.j2 kj24 (wrap64 (20 + (l0_9.length : Int))) x5_24 a0_0 a0_1 a0_2 false a0_4 a0_5 a0_6 a0_7 a0_8 l0_9 l0_10) = some (r1, r2) := by rw [if_neg (show ¬ (false = true) by decide)] at H; exact H
         clear H
         have H := H1
         clear H1
         have H' := Aside0.mk H
         clear H
         go_wp2
         go_meet
         case rel => exact ⟨_, (x5_24), (by first | rfl | (simp; done) | (simp [*]; done)), H', ⟨by have := HJ1.out; have := HJ24.out; first | omega | exact Nat.le_refl _⟩, ⟨by (with_reducible repeat (first | refine blk_drewN ?_ _ | refine blk_drew ?_ | refine blk_alloc ?_ _)); exact BK168.out⟩, ⟨by repeat (first | (with_reducible first | exact HB.out | apply below_alloc | apply pw_below_drewN | apply below_drew1 | refine below_set ?_ GE168.out) | exact HB.out)⟩⟩
       case rest =>
        clear HC28
        try clear c1
        try clear c2
        try clear p2
        try clear c3
        try clear c5
        try clear p6
        try clear c7
        try clear c9
        try clear c11
        try clear c13
        try clear c14
        try clear c14b0
        try clear c14b1
        try clear c22
        try clear c23
        try clear c23b0
        try clear c24
        try clear c27
        try clear c30
        try clear hcz15_0
        try clear hcz15_1
        try clear hcz15_10
        try clear hcz15_2
        try clear hcz15_3
        try clear hcz15_4
        try clear hcz15_5
        try clear hcz15_6
        try clear hcz15_7
        try clear hcz15_8
        try clear hcz15_9
        try clear hcz16_0
        try clear hcz16_1
        try clear hcz16_10
        try clear hcz16_2
        try clear hcz16_3
        try clear hcz16_4
        try clear hcz16_5
        try clear hcz16_6
        try clear hcz16_7
        try clear hcz16_8
        try clear hcz16_9
        try clear hcz17_0
        try clear hcz17_1
        try clear hcz17_10
        try clear hcz17_2
        try clear hcz17_3
        try clear hcz17_4
        try clear hcz17_5
        try clear hcz17_6
        try clear hcz17_7
        try clear hcz17_8
        try clear hcz17_9
        try clear hcz18_0
        try clear hcz18_1
        try clear hcz18_10
        try clear hcz18_2
        try clear hcz18_3
        try clear hcz18_4
        try clear hcz18_5
        try clear hcz18_6
        try clear hcz18_7
        try clear hcz18_8
        try clear hcz18_9
        try clear hcz19_0
        try clear hcz19_1
        try clear hcz19_10
        try clear hcz19_2
        try clear hcz19_3
        try clear hcz19_4
        try clear hcz19_5
        try clear hcz19_6
        try clear hcz19_7
        try clear hcz19_8
        try clear hcz19_9
        try clear hcz20_0
        try clear hcz20_1
        try clear hcz20_10
        try clear hcz20_2
        try clear hcz20_3
        try clear hcz20_4
        try clear hcz20_5
        try clear hcz20_6
        try clear hcz20_7
        try clear hcz20_8
        try clear hcz20_9
        try clear hcz21_0
        try clear hcz21_1
        try clear hcz21_10
        try clear hcz21_2
        try clear hcz21_3
        try clear hcz21_4
        try clear hcz21_5
        try clear hcz21_6
        try clear hcz21_7
        try clear hcz21_8
        try clear hcz21_9
        try clear hcz24_0
        try clear hcz24_1
        try clear hcz24_10
        try clear hcz24_2
        try clear hcz24_3
        try clear hcz24_4
        try clear hcz24_5
        try clear hcz24_6
        try clear hcz24_7
        try clear hcz24_8
        try clear hcz24_9
        try clear hcz26_0
        try clear hcz26_1
        try clear hcz26_10
        try clear hcz26_2
        try clear hcz26_3
        try clear hcz26_4
        try clear hcz26_5
        try clear hcz26_6
        try clear hcz26_7
        try clear hcz26_8
        try clear hcz26_9
        try clear hcz29_0
        try clear hcz29_1
        try clear hcz29_10
        try clear hcz29_2
        try clear hcz29_3
        try clear hcz29_4
        try clear hcz29_5
        try clear hcz29_6
        try clear hcz29_7
        try clear hcz29_8
        try clear hcz29_9
        try clear hfz15_0
        try clear hfz15_1
        try clear hfz15_10
        try clear hfz15_2
        try clear hfz15_3
        try clear hfz15_4
        try clear hfz15_5
        try clear hfz15_6
        try clear hfz15_7
        try clear hfz15_8
        try clear hfz15_9
        try clear hfz16_0
        try clear hfz16_1
        try clear hfz16_10
        try clear hfz16_2
        try clear hfz16_3
        try clear hfz16_4
        try clear hfz16_5
        try clear hfz16_6
        try clear hfz16_7
        try clear hfz16_8
        try clear hfz16_9
        try clear hfz17_0
        try clear hfz17_1
        try clear hfz17_10
        try clear hfz17_2
        try clear hfz17_3
        try clear hfz17_4
        try clear hfz17_5
        try clear hfz17_6
        try clear hfz17_7
        try clear hfz17_8
        try clear hfz17_9
        try clear hfz18_0
        try clear hfz18_1
        try clear hfz18_10
        try clear hfz18_2
        try clear hfz18_3
        try clear hfz18_4
        try clear hfz18_5
        try clear hfz18_6
        try clear hfz18_7
        try clear hfz18_8
        try clear hfz18_9
        try clear hfz19_0
        try clear hfz19_1
        try clear hfz19_10
        try clear hfz19_2
        try clear hfz19_3
        try clear hfz19_4
        try clear hfz19_5
        try clear hfz19_6
        try clear hfz19_7
        try clear hfz19_8
        try clear hfz19_9
        try clear hfz20_0
        try clear hfz20_1
        try clear hfz20_10
        try clear hfz20_2
        try clear hfz20_3
        try clear hfz20_4
        try clear hfz20_5
        try clear hfz20_6
        try clear hfz20_7
        try clear hfz20_8
        try clear hfz20_9
        try clear hfz21_0
        try clear hfz21_1
        try clear hfz21_10
        try clear hfz21_2
        try clear hfz21_3
        try clear hfz21_4
        try clear hfz21_5
        try clear hfz21_6
        try clear hfz21_7
        try clear hfz21_8
        try clear hfz21_9
        try clear hfz24_0
        try clear hfz24_1
        try clear hfz24_10
        try clear hfz24_2
        try clear hfz24_3
        try clear hfz24_4
        try clear hfz24_5
        try clear hfz24_6
        try clear hfz24_7
        try clear hfz24_8
        try clear hfz24_9
        try clear hfz26_0
        try clear hfz26_1
        try clear hfz26_10
        try clear hfz26_2
        try clear hfz26_3
        try clear hfz26_4
        try clear hfz26_5
        try clear hfz26_6
        try clear hfz26_7
        try clear hfz26_8
        try clear hfz26_9
        try clear hfz29_0
        try clear hfz29_1
        try clear hfz29_10
        try clear hfz29_2
        try clear hfz29_3
        try clear hfz29_4
        try clear hfz29_5
        try clear hfz29_6
        try clear hfz29_7
        try clear hfz29_8
        try clear hfz29_9
        try clear p2
        try clear p6
        obtain ⟨kq, x5_27, rfl, HA, HJ27, BK168, HB⟩ := hcut
        cases kq with
        | zero => exact absurd HA.out (by simp [bailiwickref2_Build.j2])
        | succ kj27 =>
         have H := HA.out
         clear HA
         simp only [bailiwickref2_Build.j2] at H
         obtain ⟨y174, hy174⟩ : ∃ y_ : List Int, y_ = (([(Go.bits .or .i64 64 (wrap64 (Int.tdiv (wrap64 (20 + (l0_9.length : Int))) 4))) % 256, (a0_0) % 256] : List Int)) := ⟨_, rfl⟩
         replace H : ((bailiwickref1_Lay.f kj27 y174 2 (IntKind.u64.wrap (wrap64 ((wrap64 (20 + (l0_9.length : Int))) + (l0_10.length : Int))))).bind fun t177 => ((bailiwickref1_Lay.f kj27 t177 2 (IntKind.u64.wrap (a0_1))).bind fun t180 => ((bailiwickref1_Lay.f kj27 t180 2 (IntKind.u64.wrap (x5_27))).bind fun t183 => ((some (([(a0_5) % 256, (a0_6) % 256, 0, 0] : List Int) : List Int)).bind fun y186 => (if t183.length + y186.length < 140737488355328 then ((bailiwickref1_Lay.f kj27 (t183 ++ y186) 4 (IntKind.u64.wrap (a0_7))).bind fun t192 => ((bailiwickref1_Lay.f kj27 t192 4 (IntKind.u64.wrap (a0_8))).bind fun t195 => (bailiwickref2_Build.l0 kj27 t195 0 a0_0 a0_1 a0_2 a0_3 a0_4 a0_5 a0_6 a0_7 a0_8 l0_9 l0_10))) else (none)))))) = some (r1, r2) := by first | (rw [hy174]; with_reducible exact H) | (have H2_ := (Option.bind_some _ _).symm.trans H; rw [hy174]; with_reducible exact H2_) | (have H2_ := (Option.bind_some _ _).symm.trans H; with_reducible exact H2_) | with_reducible exact H | (rw [hy174]; exact H) | exact H
         have Ny174 := Aside0.mk hy174
         clear hy174
         replace H := Option.bind_eq_some_iff.mp H
         obtain ⟨t177, A310, H⟩ := H
         replace H : ((bailiwickref1_Lay.f kj27 t177 2 (IntKind.u64.wrap (a0_1))).bind fun t180 => ((bailiwickref1_Lay.f kj27 t180 2 (IntKind.u64.wrap (x5_27))).bind fun t183 => ((some (([(a0_5) % 256, (a0_6) % 256, 0, 0] : List Int) : List Int)).bind fun y186 => (if t183.length + y186.length < 140737488355328 then ((bailiwickref1_Lay.f kj27 (t183 ++ y186) 4 (IntKind.u64.wrap (a0_7))).bind fun t192 => ((bailiwickref1_Lay.f kj27 t192 4 (IntKind.u64.wrap (a0_8))).bind fun t195 => (bailiwickref2_Build.l0 kj27 t195 0 a0_0 a0_1 a0_2 a0_3 a0_4 a0_5 a0_6 a0_7 a0_8 l0_9 l0_10))) else (none))))) = some (r1, r2) := H
         have A31 := Aside0.mk A310
         clear A310
         replace H := Option.bind_eq_some_iff.mp H
         obtain ⟨t180, A320, H⟩ := H
         replace H : ((bailiwickref1_Lay.f kj27 t180 2 (IntKind.u64.wrap (x5_27))).bind fun t183 => ((some (([(a0_5) % 256, (a0_6) % 256, 0, 0] : List Int) : List Int)).bind fun y186 => (if t183.length + y186.length < 140737488355328 then ((bailiwickref1_Lay.f kj27 (t183 ++ y186) 4 (IntKind.u64.wrap (a0_7))).bind fun t192 => ((bailiwickref1_Lay.f kj27 t192 4 (IntKind.u64.wrap (a0_8))).bind fun t195 => (bailiwickref2_Build.l0 kj27 t195 0 a0_0 a0_1 a0_2 a0_3 a0_4 a0_5 a0_6 a0_7 a0_8 l0_9 l0_10))) else (none)))) = some (r1, r2) := H
         have A32 := Aside0.mk A320
         clear A320
         replace H := Option.bind_eq_some_iff.mp H
         obtain ⟨t183, A330, H⟩ := H
         replace H : ((some (([(a0_5) % 256, (a0_6) % 256, 0, 0] : List Int) : List Int)).bind fun y186 => (if t183.length + y186.length < 140737488355328 then ((bailiwickref1_Lay.f kj27 (t183 ++ y186) 4 (IntKind.u64.wrap (a0_7))).bind fun t192 => ((bailiwickref1_Lay.f kj27 t192 4 (IntKind.u64.wrap (a0_8))).bind fun t195 => (bailiwickref2_Build.l0 kj27 t195 0 a0_0 a0_1 a0_2 a0_3 a0_4 a0_5 a0_6 a0_7 a0_8 l0_9 l0_10))) else (none))) = some (r1, r2) := H
         have A33 := Aside0.mk A330
         clear A330
         obtain ⟨y186, hy186⟩ : ∃ y_ : List Int, y_ = (([(a0_5) % 256, (a0_6) % 256, 0, 0] : List Int)) := ⟨_, rfl⟩
         replace H : (if t183.length + y186.length < 140737488355328 then ((bailiwickref1_Lay.f kj27 (t183 ++ y186) 4 (IntKind.u64.wrap (a0_7))).bind fun t192 => ((bailiwickref1_Lay.f kj27 t192 4 (IntKind.u64.wrap (a0_8))).bind fun t195 => (bailiwickref2_Build.l0 kj27 t195 0 a0_0 a0_1 a0_2 a0_3 a0_4 a0_5 a0_6 a0_7 a0_8 l0_9 l0_10))) else (none)) = some (r1, r2) := by first | (rw [hy186]; with_reducible exact H) | (have H2_ := (Option.bind_some _ _).symm.trans H; rw [hy186]; with_reducible exact H2_) | (have H2_ := (Option.bind_some _ _).symm.trans H; with_reducible exact H2_) | with_reducible exact H | (rw [hy186]; exact H) | exact H
         have Ny186 := Aside0.mk hy186
         clear hy186
         by_cases c34 : t183.length + y186.length < 140737488355328
         ·rw [if_pos c34] at H
          have LMc34 := Aside0.mk c34
          clear c34
          obtain ⟨y189, hy189⟩ : ∃ y_ : List Int, y_ = (t183 ++ y186) := ⟨_, rfl⟩
          replace H : ((bailiwickref1_Lay.f kj27 y189 4 (IntKind.u64.wrap (a0_7))).bind fun t192 => ((bailiwickref1_Lay.f kj27 t192 4 (IntKind.u64.wrap (a0_8))).bind fun t195 => (bailiwickref2_Build.l0 kj27 t195 0 a0_0 a0_1 a0_2 a0_3 a0_4 a0_5 a0_6 a0_7 a0_8 l0_9 l0_10))) = some (r1, r2) := by first | (rw [hy189]; with_reducible exact H) | (have H2_ := (Option.bind_some _ _).symm.trans H; rw [hy189]; with_reducible exact H2_) | (have H2_ := (Option.bind_some _ _).symm.trans H; with_reducible exact H2_) | with_reducible exact H | (rw [hy189]; exact H) | exact H
          have Ny189 := Aside0.mk hy189
          clear hy189
          replace H := Option.bind_eq_some_iff.mp H
          obtain ⟨t192, A350, H⟩ := H
          replace H : ((bailiwickref1_Lay.f kj27 t192 4 (IntKind.u64.wrap (a0_8))).bind fun t195 => (bailiwickref2_Build.l0 kj27 t195 0 a0_0 a0_1 a0_2 a0_3 a0_4 a0_5 a0_6 a0_7 a0_8 l0_9 l0_10)) = some (r1, r2) := H
          have A35 := Aside0.mk A350
          clear A350
          replace H := Option.bind_eq_some_iff.mp H
          obtain ⟨t195, A360, H⟩ := H
          replace H : (bailiwickref2_Build.l0 kj27 t195 0 a0_0 a0_1 a0_2 a0_3 a0_4 a0_5 a0_6 a0_7 a0_8 l0_9 l0_10) = some (r1, r2) := H
          have A36 := Aside0.mk A360
          clear A360
          have H' := Aside0.mk H
          clear H
          have hcz37_0 : wc.cell? ⟨gb168, 0, none⟩ = some (.int .i64 a0_0) := (blk_cell BK168.out 0).trans rfl
          have hcz37_1 : wc.cell? ⟨gb168, 1, none⟩ = some (.int .i64 a0_1) := (blk_cell BK168.out 1).trans rfl
          have hcz37_2 : wc.cell? ⟨gb168, 2, none⟩ = some (.bool a0_2) := (blk_cell BK168.out 2).trans rfl
          have hcz37_3 : wc.cell? ⟨gb168, 3, none⟩ = some (.bool a0_3) := (blk_cell BK168.out 3).trans rfl
          have hcz37_4 : wc.cell? ⟨gb168, 4, none⟩ = some (.int .i64 a0_4) := (blk_cell BK168.out 4).trans rfl
          have hcz37_5 : wc.cell? ⟨gb168, 5, none⟩ = some (.int .i64 a0_5) := (blk_cell BK168.out 5).trans rfl
          have hcz37_6 : wc.cell? ⟨gb168, 6, none⟩ = some (.int .i64 a0_6) := (blk_cell BK168.out 6).trans rfl
          have hcz37_7 : wc.cell? ⟨gb168, 7, none⟩ = some (.int .u32 a0_7) := (blk_cell BK168.out 7).trans rfl
          have hcz37_8 : wc.cell? ⟨gb168, 8, none⟩ = some (.int .u32 a0_8) := (blk_cell BK168.out 8).trans rfl
          have hcz37_9 : wc.cell? ⟨gb168, 9, none⟩ = some (.slice A0_9 l0_9.length c0_9) := (blk_cell BK168.out 9).trans rfl
          have hcz37_10 : wc.cell? ⟨gb168, 10, none⟩ = some (.slice A0_10 l0_10.length c0_10) := (blk_cell BK168.out 10).trans rfl
          have hfz37_0 := blk_frozen BK168.out 0
          have hfz37_1 := blk_frozen BK168.out 1
          have hfz37_2 := blk_frozen BK168.out 2
          have hfz37_3 := blk_frozen BK168.out 3
          have hfz37_4 := blk_frozen BK168.out 4
          have hfz37_5 := blk_frozen BK168.out 5
          have hfz37_6 := blk_frozen BK168.out 6
          have hfz37_7 := blk_frozen BK168.out 7
          have hfz37_8 := blk_frozen BK168.out 8
          have hfz37_9 := blk_frozen BK168.out 9
          have hfz37_10 := blk_frozen BK168.out 10
          go_wp2_with (first | ((with_reducible refine gate_dst (N := 78) rfl ?_); refine Kd.R_lit (Kd.int .u8) _ 5 ?hg (N := 78) ?hd (xs := ([(Go.bits .or .i64 64 (wrap64 (Int.tdiv (wrap64 (20 + (l0_9.length : Int))) 4))) % 256, (a0_0) % 256] : List Int)) (inner := [.int .u8 ((Go.bits .or .i64 64 (wrap64 (Int.tdiv (wrap64 (20 + (l0_9.length : Int))) 4))) % 256), .int .u8 ((a0_0) % 256)]) (ok := fun _ => True) (okp := fun _ => True) ?hr ?hp (fun _ hk => hk) trivial (Below.refl _ _) (Nat.le_refl _) (by simp) ?_; (case hd => rfl); (case hg => rfl); (case hr => first | (go_simp; done) | (go_simp; rfl)); (case hp => exact (Reps.one (show Kd.M (Kd.int .u8) _ _ _ ((Go.bits .or .i64 64 (wrap64 (Int.tdiv (wrap64 (20 + (l0_9.length : Int))) 4))) % 256) [.int .u8 ((Go.bits .or .i64 64 (wrap64 (Int.tdiv (wrap64 (20 + (l0_9.length : Int))) 4))) % 256)] from rfl) (Reps.one (show Kd.M (Kd.int .u8) _ _ _ ((a0_0) % 256) [.int .u8 ((a0_0) % 256)] from rfl) (Reps.none _ _)))); intro v175 w38 ho39 hb hg_ hnew_; clear hg_ hnew_; (first | rw [← Ny174.out] at ho39 | (simp only [Int.reduceToNat] at ho39; rw [← Ny174.out] at ho39)); have n0_ := Aside0.mk (Kd.R_lower ho39 (below_size (by repeat (first | (with_reducible first | exact HB.out | apply below_alloc | apply pw_below_drewN | apply below_drew1 | refine below_set ?_ GE168.out) | exact HB.out)))); have n1_ := Aside0.mk (blk_below (g := gb168) (o := .cells #[.int .i64 a0_0, .int .i64 a0_1, .bool a0_2, .bool a0_3, .int .i64 a0_4, .int .i64 a0_5, .int .i64 a0_6, .int .u32 a0_7, .int .u32 a0_8, .slice A0_9 l0_9.length c0_9, .slice A0_10 l0_10.length c0_10] 29 (0, 0)) (by (with_reducible repeat (first | refine blk_drewN ?_ _ | refine blk_drew ?_ | refine blk_alloc ?_ _)); exact BK168.out) hb); have n2_ := Aside0.mk (below_step (by repeat (first | (with_reducible first | exact HB.out | apply below_alloc | apply pw_below_drewN | apply below_drew1 | refine below_set ?_ GE168.out) | exact HB.out)) hb); clear BK168; clear HB; have HO176 := n0_; have BK168 := n1_; have HB := n2_; clear n0_ n1_ n2_; clear hb ho39; have hcz40_0 : w38.cell? ⟨gb168, 0, none⟩ = some (.int .i64 a0_0) := (blk_cell BK168.out 0).trans rfl; have hcz40_1 : w38.cell? ⟨gb168, 1, none⟩ = some (.int .i64 a0_1) := (blk_cell BK168.out 1).trans rfl; have hcz40_2 : w38.cell? ⟨gb168, 2, none⟩ = some (.bool a0_2) := (blk_cell BK168.out 2).trans rfl; have hcz40_3 : w38.cell? ⟨gb168, 3, none⟩ = some (.bool a0_3) := (blk_cell BK168.out 3).trans rfl; have hcz40_4 : w38.cell? ⟨gb168, 4, none⟩ = some (.int .i64 a0_4) := (blk_cell BK168.out 4).trans rfl; have hcz40_5 : w38.cell? ⟨gb168, 5, none⟩ = some (.int .i64 a0_5) := (blk_cell BK168.out 5).trans rfl; have hcz40_6 : w38.cell? ⟨gb168, 6, none⟩ = some (.int .i64 a0_6) := (blk_cell BK168.out 6).trans rfl; have hcz40_7 : w38.cell? ⟨gb168, 7, none⟩ = some (.int .u32 a0_7) := (blk_cell BK168.out 7).trans rfl; have hcz40_8 : w38.cell? ⟨gb168, 8, none⟩ = some (.int .u32 a0_8) := (blk_cell BK168.out 8).trans rfl; have hcz40_9 : w38.cell? ⟨gb168, 9, none⟩ = some (.slice A0_9 l0_9.length c0_9) := (blk_cell BK168.out 9).trans rfl; have hcz40_10 : w38.cell? ⟨gb168, 10, none⟩ = some (.slice A0_10 l0_10.length c0_10) := (blk_cell BK168.out 10).trans rfl; have hfz40_0 := blk_frozen BK168.out 0; have hfz40_1 := blk_frozen BK168.out 1; have hfz40_2 := blk_frozen BK168.out 2; have hfz40_3 := blk_frozen BK168.out 3; have hfz40_4 := blk_frozen BK168.out 4; have hfz40_5 := blk_frozen BK168.out 5; have hfz40_6 := blk_frozen BK168.out 6; have hfz40_7 := blk_frozen BK168.out 7; have hfz40_8 := blk_frozen BK168.out 8; have hfz40_9 := blk_frozen BK168.out 9; have hfz40_10 := blk_frozen BK168.out 10; obtain ⟨Ao41, co41, eo41⟩ := Kd.R_slice HO176.out; subst eo41) | ((with_reducible refine gate_callee (f := 60) rfl ?_); refine goesL_ (some 86) rfl rfl Try.func60 (by kernel_rfl) rfl #[.slice Ao41 y174.length co41, .int .i64 2, .int .u64 (IntKind.u64.wrap (wrap64 ((wrap64 (20 + (l0_9.length : Int))) + (l0_10.length : Int))))] rfl (by (try simp only [List.map_toArray, List.map_cons, List.map_nil]); first | done | rfl | (simp only [List.length_drop, List.length_take]; rfl)) ?_; (with_reducible refine (bailiwickref1_Lay.calls kj27 (fun k_ => some k_ = (.slice Ao41 y174.length co41 : Value).ownBlock) (.slice Ao41 y174.length co41) y174 2 (IntKind.u64.wrap (wrap64 ((wrap64 (20 + (l0_9.length : Int))) + (l0_10.length : Int)))) t177 w _ ?side1 ?side2 A31.out).mono ?_); (case side1 => repeat (first | (with_reducible first | exact HB.out | apply below_alloc | apply pw_below_drewN | apply below_drew1 | refine below_set ?_ GE168.out) | exact HB.out)); (case side2 => exact Kd.R_tight rfl HO176.out); rintro e w42 ⟨v178, rfl, ho0, hb, hkp⟩; refine ⟨_, rfl, ?_⟩; have n0_ := Aside0.mk (blk_kept (by (with_reducible repeat (first | refine blk_drewN ?_ _ | refine blk_drew ?_ | refine blk_alloc ?_ _)); exact BK168.out) hkp (fun hs_ => (fun e_ => (Kd.R_ne HO176.out BK168.out (by decide)) e_) hs_)); have n1_ := Aside0.mk (Kd.R_mono (ok' := fun k_ => True) ho0 (fun k_ hk_ => trivial)); have n2_ := Aside0.mk (hb); clear BK168; clear HB; clear HO176; have BK168 := n0_; have HO179 := n1_; have HB := n2_; clear n0_ n1_ n2_; (try clear hb); (try clear hkp); (try clear ho0); have hcz43_0 : w42.cell? ⟨gb168, 0, none⟩ = some (.int .i64 a0_0) := (blk_cell BK168.out 0).trans rfl; have hcz43_1 : w42.cell? ⟨gb168, 1, none⟩ = some (.int .i64 a0_1) := (blk_cell BK168.out 1).trans rfl; have hcz43_2 : w42.cell? ⟨gb168, 2, none⟩ = some (.bool a0_2) := (blk_cell BK168.out 2).trans rfl; have hcz43_3 : w42.cell? ⟨gb168, 3, none⟩ = some (.bool a0_3) := (blk_cell BK168.out 3).trans rfl; have hcz43_4 : w42.cell? ⟨gb168, 4, none⟩ = some (.int .i64 a0_4) := (blk_cell BK168.out 4).trans rfl; have hcz43_5 : w42.cell? ⟨gb168, 5, none⟩ = some (.int .i64 a0_5) := (blk_cell BK168.out 5).trans rfl; have hcz43_6 : w42.cell? ⟨gb168, 6, none⟩ = some (.int .i64 a0_6) := (blk_cell BK168.out 6).trans rfl; have hcz43_7 : w42.cell? ⟨gb168, 7, none⟩ = some (.int .u32 a0_7) := (blk_cell BK168.out 7).trans rfl; have hcz43_8 : w42.cell? ⟨gb168, 8, none⟩ = some (.int .u32 a0_8) := (blk_cell BK168.out 8).trans rfl; have hcz43_9 : w42.cell? ⟨gb168, 9, none⟩ = some (.slice A0_9 l0_9.length c0_9) := (blk_cell BK168.out 9).trans rfl; have hcz43_10 : w42.cell? ⟨gb168, 10, none⟩ = some (.slice A0_10 l0_10.length c0_10) := (blk_cell BK168.out 10).trans rfl; have hfz43_0 := blk_frozen BK168.out 0; have hfz43_1 := blk_frozen BK168.out 1; have hfz43_2 := blk_frozen BK168.out 2; have hfz43_3 := blk_frozen BK168.out 3; have hfz43_4 := blk_frozen BK168.out 4; have hfz43_5 := blk_frozen BK168.out 5; have hfz43_6 := blk_frozen BK168.out 6; have hfz43_7 := blk_frozen BK168.out 7; have hfz43_8 := blk_frozen BK168.out 8; have hfz43_9 := blk_frozen BK168.out 9; have hfz43_10 := blk_frozen BK168.out 10; obtain ⟨Ao44, co44, eo44⟩ := Kd.R_slice HO179.out; subst eo44) | ((with_reducible refine gate_callee (f := 60) rfl ?_); refine goesL_ (some 91) rfl rfl Try.func60 (by kernel_rfl) rfl #[.slice Ao44 t177.length co44, .int .i64 2, .int .u64 (IntKind.u64.wrap (a0_1))] rfl (by (try simp only [List.map_toArray, List.map_cons, List.map_nil]); first | done | rfl | (simp only [List.length_drop, List.length_take]; rfl)) ?_; (with_reducible refine (bailiwickref1_Lay.calls kj27 (fun k_ => some k_ = (.slice Ao44 t177.length co44 : Value).ownBlock) (.slice Ao44 t177.length co44) t177 2 (IntKind.u64.wrap (a0_1)) t180 w _ ?side1 ?side2 A32.out).mono ?_); (case side1 => repeat (first | (with_reducible first | exact HB.out | apply below_alloc | apply pw_below_drewN | apply below_drew1 | refine below_set ?_ GE168.out) | exact HB.out)); (case side2 => exact Kd.R_tight rfl HO179.out); rintro e w45 ⟨v181, rfl, ho0, hb, hkp⟩; refine ⟨_, rfl, ?_⟩; have n0_ := Aside0.mk (blk_kept (by (with_reducible repeat (first | refine blk_drewN ?_ _ | refine blk_drew ?_ | refine blk_alloc ?_ _)); exact BK168.out) hkp (fun hs_ => (fun e_ => (Kd.R_ne HO179.out BK168.out (by decide)) e_) hs_)); have n1_ := Aside0.mk (Kd.R_mono (ok' := fun k_ => True) ho0 (fun k_ hk_ => trivial)); have n2_ := Aside0.mk (hb); clear BK168; clear HB; clear HO179; have BK168 := n0_; have HO182 := n1_; have HB := n2_; clear n0_ n1_ n2_; (try clear hb); (try clear hkp); (try clear ho0); obtain ⟨Ao46, co46, eo46⟩ := Kd.R_slice HO182.out; subst eo46) | ((with_reducible refine gate_callee (f := 60) rfl ?_); refine goesL_ (some 95) rfl rfl Try.func60 (by kernel_rfl) rfl #[.slice Ao46 t180.length co46, .int .i64 2, .int .u64 (IntKind.u64.wrap (x5_27))] rfl (by (try simp only [List.map_toArray, List.map_cons, List.map_nil]); first | done | rfl | (simp only [List.length_drop, List.length_take]; rfl)) ?_; (with_reducible refine (bailiwickref1_Lay.calls kj27 (fun k_ => some k_ = (.slice Ao46 t180.length co46 : Value).ownBlock) (.slice Ao46 t180.length co46) t180 2 (IntKind.u64.wrap (x5_27)) t183 w _ ?side1 ?side2 A33.out).mono ?_); (case side1 => repeat (first | (with_reducible first | exact HB.out | apply below_alloc | apply pw_below_drewN | apply below_drew1 | refine below_set ?_ GE168.out) | exact HB.out)); (case side2 => exact Kd.R_tight rfl HO182.out); rintro e w47 ⟨v184, rfl, ho0, hb, hkp⟩; refine ⟨_, rfl, ?_⟩; have n0_ := Aside0.mk (blk_kept (by (with_reducible repeat (first | refine blk_drewN ?_ _ | refine blk_drew ?_ | refine blk_alloc ?_ _)); exact BK168.out) hkp (fun hs_ => (fun e_ => (Kd.R_ne HO182.out BK168.out (by decide)) e_) hs_)); have n1_ := Aside0.mk (Kd.R_mono (ok' := fun k_ => True) ho0 (fun k_ hk_ => trivial)); have n2_ := Aside0.mk (hb); clear BK168; clear HB; clear HO182; have BK168 := n0_; have HO185 := n1_; have HB := n2_; clear n0_ n1_ n2_; (try clear hb); (try clear hkp); (try clear ho0); have hcz48_0 : w47.cell? ⟨gb168, 0, none⟩ = some (.int .i64 a0_0) := (blk_cell BK168.out 0).trans rfl; have hcz48_1 : w47.cell? ⟨gb168, 1, none⟩ = some (.int .i64 a0_1) := (blk_cell BK168.out 1).trans rfl; have hcz48_2 : w47.cell? ⟨gb168, 2, none⟩ = some (.bool a0_2) := (blk_cell BK168.out 2).trans rfl; have hcz48_3 : w47.cell? ⟨gb168, 3, none⟩ = some (.bool a0_3) := (blk_cell BK168.out 3).trans rfl; have hcz48_4 : w47.cell? ⟨gb168, 4, none⟩ = some (.int .i64 a0_4) := (blk_cell BK168.out 4).trans rfl; have hcz48_5 : w47.cell? ⟨gb168, 5, none⟩ = some (.int .i64 a0_5) := (blk_cell BK168.out 5).trans rfl; have hcz48_6 : w47.cell? ⟨gb168, 6, none⟩ = some (.int .i64 a0_6) := (blk_cell BK168.out 6).trans rfl; have hcz48_7 : w47.cell? ⟨gb168, 7, none⟩ = some (.int .u32 a0_7) := (blk_cell BK168.out 7).trans rfl; have hcz48_8 : w47.cell? ⟨gb168, 8, none⟩ = some (.int .u32 a0_8) := (blk_cell BK168.out 8).trans rfl; have hcz48_9 : w47.cell? ⟨gb168, 9, none⟩ = some (.slice A0_9 l0_9.length c0_9) := (blk_cell BK168.out 9).trans rfl; have hcz48_10 : w47.cell? ⟨gb168, 10, none⟩ = some (.slice A0_10 l0_10.length c0_10) := (blk_cell BK168.out 10).trans rfl; have hfz48_0 := blk_frozen BK168.out 0; have hfz48_1 := blk_frozen BK168.out 1; have hfz48_2 := blk_frozen BK168.out 2; have hfz48_3 := blk_frozen BK168.out 3; have hfz48_4 := blk_frozen BK168.out 4; have hfz48_5 := blk_frozen BK168.out 5; have hfz48_6 := blk_frozen BK168.out 6; have hfz48_7 := blk_frozen BK168.out 7; have hfz48_8 := blk_frozen BK168.out 8; have hfz48_9 := blk_frozen BK168.out 9; have hfz48_10 := blk_frozen BK168.out 10) | ((with_reducible refine gate_dst (N := 103) rfl ?_); refine Kd.R_lit (Kd.int .u8) _ 5 ?hg (N := 103) ?hd (xs := ([(a0_5) % 256, (a0_6) % 256, 0, 0] : List Int)) (inner := [.int .u8 ((a0_5) % 256), .int .u8 ((a0_6) % 256), .int .u8 0, .int .u8 0]) (ok := fun _ => True) (okp := fun _ => True) ?hr ?hp (fun _ hk => hk) trivial (Below.refl _ _) (Nat.le_refl _) (by simp) ?_; (case hd => rfl); (case hg => rfl); (case hr => first | (go_simp; done) | (go_simp; rfl)); (case hp => exact (Reps.one (show Kd.M (Kd.int .u8) _ _ _ ((a0_5) % 256) [.int .u8 ((a0_5) % 256)] from rfl) (Reps.one (show Kd.M (Kd.int .u8) _ _ _ ((a0_6) % 256) [.int .u8 ((a0_6) % 256)] from rfl) (Reps.one (show Kd.M (Kd.int .u8) _ _ _ 0 [.int .u8 0] from rfl) (Reps.one (show Kd.M (Kd.int .u8) _ _ _ 0 [.int .u8 0] from rfl) (Reps.none _ _)))))); intro v187 w49 ho50 hb hg_ hnew_; clear hg_ hnew_; (first | rw [← Ny186.out] at ho50 | (simp only [Int.reduceToNat] at ho50; rw [← Ny186.out] at ho50)); have n0_ := Aside0.mk (Kd.R_elder' (by (with_reducible repeat (first | apply Kd.R_alloc | apply Kd.R_drewN | apply Kd.R_drew)); exact HO185.out) (Kd.R_base ho50) hb); have n1_ := Aside0.mk (Kd.R_lower (Kd.R_new' ho50 (Kd.R_lt (by (with_reducible repeat (first | apply Kd.R_alloc | apply Kd.R_drewN | apply Kd.R_drew)); exact HO185.out))) (below_size (by repeat (first | (with_reducible first | exact HB.out | apply below_alloc | apply pw_below_drewN | apply below_drew1 | refine below_set ?_ GE168.out) | exact HB.out)))); have n2_ := Aside0.mk (blk_below (g := gb168) (o := .cells #[.int .i64 a0_0, .int .i64 a0_1, .bool a0_2, .bool a0_3, .int .i64 a0_4, .int .i64 a0_5, .int .i64 a0_6, .int .u32 a0_7, .int .u32 a0_8, .slice A0_9 l0_9.length c0_9, .slice A0_10 l0_10.length c0_10] 29 (0, 0)) (by (with_reducible repeat (first | refine blk_drewN ?_ _ | refine blk_drew ?_ | refine blk_alloc ?_ _)); exact BK168.out) hb); have n3_ := Aside0.mk (below_step (by repeat (first | (with_reducible first | exact HB.out | apply below_alloc | apply pw_below_drewN | apply below_drew1 | refine below_set ?_ GE168.out) | exact HB.out)) hb); clear HO185; clear BK168; clear HB; have HO185 := n0_; have HO188 := n1_; have BK168 := n2_; have HB := n3_; clear n0_ n1_ n2_ n3_; clear hb ho50; obtain ⟨Ao52, co52, eo52⟩ := Kd.R_slice HO188.out; subst eo52) | ((with_reducible refine gate_builtin (b := .append) (xs := #[.tmp 96, .tmp 103]) rfl ?_); at_builtin; refine Kd.R_append_rows (Kd.int .u8) (w0 := w) w.heap.size rfl (.tmp 96) (.tmp 103) 23 5 (.int .u8 0) 1 rfl Try.underlying23 info5 rfl (by decide) (by omega) v184 t183 y186 _ _ _ (fun k_ => some k_ ≠ (.slice Ao52 y186.length co52 : Value).ownBlock) (fun _ => False) rfl rfl ?aO ?aR (fun _ _ h => h) (fun _ h => h.elim) ?aF ?aB ?aS ?aL ?_; (case aR => repeat (first | exact (Kd.R_reads' HO188.out).2.2 | (with_reducible refine Kd.C_alloc ?_ _) | (with_reducible refine Kd.C_drewN ?_ _) | (with_reducible refine Kd.C_drew ?_))); (case aB => exact (by repeat (first | (with_reducible first | exact HB.out | apply below_alloc | apply pw_below_drewN | apply below_drew1 | refine below_set ?_ GE168.out) | exact HB.out))); (case aF => exact (fun k_ hk => Kd.fresh' (Kd.R_lt (by (with_reducible repeat (first | apply Kd.R_alloc | apply Kd.R_drewN | apply Kd.R_drew)); exact HO188.out)) k_ hk)); (case aO => exact (by (with_reducible repeat (first | apply Kd.R_alloc | apply Kd.R_drewN | apply Kd.R_drew)); exact Kd.R_mono HO185.out (fun _ hk => hk.2))); (case aS => exact (below_size (by repeat (first | (with_reducible first | exact HB.out | apply below_alloc | apply pw_below_drewN | apply below_drew1 | refine below_set ?_ GE168.out) | exact HB.out)))); (case aL => have := LMc34.out; omega); intro v190 w51 ho hb hg hat; rw [← Ny189.out] at ho; have n0_ := Aside0.mk (blk_grown (g := gb168) (o := .cells #[.int .i64 a0_0, .int .i64 a0_1, .bool a0_2, .bool a0_3, .int .i64 a0_4, .int .i64 a0_5, .int .i64 a0_6, .int .u32 a0_7, .int .u32 a0_8, .slice A0_9 l0_9.length c0_9, .slice A0_10 l0_10.length c0_10] 29 (0, 0)) (by (with_reducible repeat (first | refine blk_drewN ?_ _ | refine blk_drew ?_ | refine blk_alloc ?_ _)); exact BK168.out) hg (Kd.R_ne HO185.out BK168.out (by decide))); have n1_ := Aside0.mk (Kd.R_after (ok := (fun _ => True)) (by (with_reducible repeat (first | apply Kd.R_alloc | apply Kd.R_drewN | apply Kd.R_drew)); exact HO188.out) hg hat); have n2_ := Aside0.mk (hb); have n3_ := Aside0.mk (ho); clear BK168; clear HO188; clear HB; clear HO185; have BK168 := n0_; have HO188 := n1_; have HB := n2_; have HO191 := n3_; clear n0_ n1_ n2_ n3_; clear ho hb hg hat; have hcz53_0 : w51.cell? ⟨gb168, 0, none⟩ = some (.int .i64 a0_0) := (blk_cell BK168.out 0).trans rfl; have hcz53_1 : w51.cell? ⟨gb168, 1, none⟩ = some (.int .i64 a0_1) := (blk_cell BK168.out 1).trans rfl; have hcz53_2 : w51.cell? ⟨gb168, 2, none⟩ = some (.bool a0_2) := (blk_cell BK168.out 2).trans rfl; have hcz53_3 : w51.cell? ⟨gb168, 3, none⟩ = some (.bool a0_3) := (blk_cell BK168.out 3).trans rfl; have hcz53_4 : w51.cell? ⟨gb168, 4, none⟩ = some (.int .i64 a0_4) := (blk_cell BK168.out 4).trans rfl; have hcz53_5 : w51.cell? ⟨gb168, 5, none⟩ = some (.int .i64 a0_5) := (blk_cell BK168.out 5).trans rfl; have hcz53_6 : w51.cell? ⟨gb168, 6, none⟩ = some (.int .i64 a0_6) := (blk_cell BK168.out 6).trans rfl; have hcz53_7 : w51.cell? ⟨gb168, 7, none⟩ = some (.int .u32 a0_7) := (blk_cell BK168.out 7).trans rfl; have hcz53_8 : w51.cell? ⟨gb168, 8, none⟩ = some (.int .u32 a0_8) := (blk_cell BK168.out 8).trans rfl; have hcz53_9 : w51.cell? ⟨gb168, 9, none⟩ = some (.slice A0_9 l0_9.length c0_9) := (blk_cell BK168.out 9).trans rfl; have hcz53_10 : w51.cell? ⟨gb168, 10, none⟩ = some (.slice A0_10 l0_10.length c0_10) := (blk_cell BK168.out 10).trans rfl; have hfz53_0 := blk_frozen BK168.out 0; have hfz53_1 := blk_frozen BK168.out 1; have hfz53_2 := blk_frozen BK168.out 2; have hfz53_3 := blk_frozen BK168.out 3; have hfz53_4 := blk_frozen BK168.out 4; have hfz53_5 := blk_frozen BK168.out 5; have hfz53_6 := blk_frozen BK168.out 6; have hfz53_7 := blk_frozen BK168.out 7; have hfz53_8 := blk_frozen BK168.out 8; have hfz53_9 := blk_frozen BK168.out 9; have hfz53_10 := blk_frozen BK168.out 10; obtain ⟨Ao54, co54, eo54⟩ := Kd.R_slice HO191.out; subst eo54) | ((with_reducible refine gate_callee (f := 60) rfl ?_); refine goesL_ (some 109) rfl rfl Try.func60 (by kernel_rfl) rfl #[.slice Ao54 y189.length co54, .int .i64 4, .int .u64 (IntKind.u64.wrap (a0_7))] rfl (by (try simp only [List.map_toArray, List.map_cons, List.map_nil]); first | done | rfl | (simp only [List.length_drop, List.length_take]; rfl)) ?_; (with_reducible refine (bailiwickref1_Lay.calls kj27 (fun k_ => some k_ = (.slice Ao54 y189.length co54 : Value).ownBlock) (.slice Ao54 y189.length co54) y189 4 (IntKind.u64.wrap (a0_7)) t192 w _ ?side1 ?side2 A35.out).mono ?_); (case side1 => repeat (first | (with_reducible first | exact HB.out | apply below_alloc | apply pw_below_drewN | apply below_drew1 | refine below_set ?_ GE168.out) | exact HB.out)); (case side2 => exact Kd.R_tight rfl HO191.out); rintro e w55 ⟨v193, rfl, ho0, hb, hkp⟩; refine ⟨_, rfl, ?_⟩; have n0_ := Aside0.mk (blk_kept (by (with_reducible repeat (first | refine blk_drewN ?_ _ | refine blk_drew ?_ | refine blk_alloc ?_ _)); exact BK168.out) hkp (fun hs_ => (fun e_ => (Kd.R_ne HO191.out BK168.out (by decide)) e_) hs_)); have n1_ := Aside0.mk (Kd.R_mono (ok' := fun k_ => some k_ ≠ (v193 : Value).ownBlock) (Kd.R_keptB (HO188.out) hkp (fun k_ hk_ hs_ => (hk_.2) hs_)) (fun k_ hk_ => fun e_ => Or.elim (ho0.1 k_ e_.symm) (fun hs_ => hk_.2.1 hs_) (fun hn_ => Nat.not_le.2 hk_.2.2 hn_))); have n2_ := Aside0.mk (Kd.R_mono (ok' := fun k_ => some k_ ≠ (.slice Ao52 y186.length co52 : Value).ownBlock) ho0 (fun k_ hk_ => Or.elim hk_ (fun hs_ => fun e_ => (((HO188.out).1 k_ e_.symm).2) hs_) (fun hn_ => (Kd.fresh' (Kd.R_lt (by (with_reducible repeat (first | apply Kd.R_alloc | apply Kd.R_drewN | apply Kd.R_drew)); exact HO188.out)) k_ hn_)))); have n3_ := Aside0.mk (hb); clear BK168; clear HO188; clear HB; clear HO191; have BK168 := n0_; have HO188 := n1_; have HO194 := n2_; have HB := n3_; clear n0_ n1_ n2_ n3_; (try clear hb); (try clear hkp); (try clear ho0); have hcz56_0 : w55.cell? ⟨gb168, 0, none⟩ = some (.int .i64 a0_0) := (blk_cell BK168.out 0).trans rfl; have hcz56_1 : w55.cell? ⟨gb168, 1, none⟩ = some (.int .i64 a0_1) := (blk_cell BK168.out 1).trans rfl; have hcz56_2 : w55.cell? ⟨gb168, 2, none⟩ = some (.bool a0_2) := (blk_cell BK168.out 2).trans rfl; have hcz56_3 : w55.cell? ⟨gb168, 3, none⟩ = some (.bool a0_3) := (blk_cell BK168.out 3).trans rfl; have hcz56_4 : w55.cell? ⟨gb168, 4, none⟩ = some (.int .i64 a0_4) := (blk_cell BK168.out 4).trans rfl; have hcz56_5 : w55.cell? ⟨gb168, 5, none⟩ = some (.int .i64 a0_5) := (blk_cell BK168.out 5).trans rfl; have hcz56_6 : w55.cell? ⟨gb168, 6, none⟩ = some (.int .i64 a0_6) := (blk_cell BK168.out 6).trans rfl; have hcz56_7 : w55.cell? ⟨gb168, 7, none⟩ = some (.int .u32 a0_7) := (blk_cell BK168.out 7).trans rfl; have hcz56_8 : w55.cell? ⟨gb168, 8, none⟩ = some (.int .u32 a0_8) := (blk_cell BK168.out 8).trans rfl; have hcz56_9 : w55.cell? ⟨gb168, 9, none⟩ = some (.slice A0_9 l0_9.length c0_9) := (blk_cell BK168.out 9).trans rfl; have hcz56_10 : w55.cell? ⟨gb168, 10, none⟩ = some (.slice A0_10 l0_10.length c0_10) := (blk_cell BK168.out 10).trans rfl; have hfz56_0 := blk_frozen BK168.out 0; have hfz56_1 := blk_frozen BK168.out 1; have hfz56_2 := blk_frozen BK168.out 2; have hfz56_3 := blk_frozen BK168.out 3; have hfz56_4 := blk_frozen BK168.out 4; have hfz56_5 := blk_frozen BK168.out 5; have hfz56_6 := blk_frozen BK168.out 6; have hfz56_7 := blk_frozen BK168.out 7; have hfz56_8 := blk_frozen BK168.out 8; have hfz56_9 := blk_frozen BK168.out 9; have hfz56_10 := blk_frozen BK168.out 10; obtain ⟨Ao57, co57, eo57⟩ := Kd.R_slice HO194.out; subst eo57) | ((with_reducible refine gate_callee (f := 60) rfl ?_); refine goesL_ (some 114) rfl rfl Try.func60 (by kernel_rfl) rfl #[.slice Ao57 t192.length co57, .int .i64 4, .int .u64 (IntKind.u64.wrap (a0_8))] rfl (by (try simp only [List.map_toArray, List.map_cons, List.map_nil]); first | done | rfl | (simp only [List.length_drop, List.length_take]; rfl)) ?_; (with_reducible refine (bailiwickref1_Lay.calls kj27 (fun k_ => some k_ = (.slice Ao57 t192.length co57 : Value).ownBlock) (.slice Ao57 t192.length co57) t192 4 (IntKind.u64.wrap (a0_8)) t195 w _ ?side1 ?side2 A36.out).mono ?_); (case side1 => repeat (first | (with_reducible first | exact HB.out | apply below_alloc | apply pw_below_drewN | apply below_drew1 | refine below_set ?_ GE168.out) | exact HB.out)); (case side2 => exact Kd.R_tight rfl HO194.out); rintro e w58 ⟨v196, rfl, ho0, hb, hkp⟩; refine ⟨_, rfl, ?_⟩; have n0_ := Aside0.mk (blk_kept (by (with_reducible repeat (first | refine blk_drewN ?_ _ | refine blk_drew ?_ | refine blk_alloc ?_ _)); exact BK168.out) hkp (fun hs_ => (fun e_ => (Kd.R_ne HO194.out BK168.out (by decide)) e_) hs_)); have n1_ := Aside0.mk (Kd.R_mono (ok' := fun k_ => some k_ ≠ (v196 : Value).ownBlock) (Kd.R_keptB (HO188.out) hkp (fun k_ hk_ hs_ => (hk_) hs_)) (fun k_ hk_ => fun e_ => Or.elim (ho0.1 k_ e_.symm) (fun hs_ => hk_.2.1 hs_) (fun hn_ => Nat.not_le.2 hk_.2.2 hn_))); have n2_ := Aside0.mk (Kd.R_mono (ok' := fun k_ => some k_ ≠ (.slice Ao52 y186.length co52 : Value).ownBlock) ho0 (fun k_ hk_ => Or.elim hk_ (fun hs_ => fun e_ => (((HO188.out).1 k_ e_.symm)) hs_) (fun hn_ => (Kd.fresh' (Kd.R_lt (by (with_reducible repeat (first | apply Kd.R_alloc | apply Kd.R_drewN | apply Kd.R_drew)); exact HO188.out)) k_ hn_)))); have n3_ := Aside0.mk (hb); clear BK168; clear HO188; clear HB; clear HO194; have BK168 := n0_; have HO188 := n1_; have HO197 := n2_; have HB := n3_; clear n0_ n1_ n2_ n3_; (try clear hb); (try clear hkp); (try clear ho0)))
          go_loopg [6, 7] kj27 (fun kq v6 v7 w' => ∃ (x6_4 : List Int) (x7_4 : Int), v7 = .int .i64 x7_4 ∧ Aside0 (bailiwickref2_Build.l0 kq x6_4 x7_4 a0_0 a0_1 a0_2 a0_3 a0_4 a0_5 a0_6 a0_7 a0_8 l0_9 l0_10 = some (r1, r2)) ∧ Aside0 (kq ≤ kj27) ∧ Aside0 (Kd.R (Kd.int .u8) 5 w' w.heap.size (fun _ => True) v6 x6_4) ∧ Aside0 (w'.heap[gb168]? = some (.cells #[.int .i64 a0_0, .int .i64 a0_1, .bool a0_2, .bool a0_3, .int .i64 a0_4, .int .i64 a0_5, .int .i64 a0_6, .int .u32 a0_7, .int .u32 a0_8, (.slice A0_9 l0_9.length c0_9), (.slice A0_10 l0_10.length c0_10)] 29 (0, 0))) ∧ Aside0 (Below w.heap.size w w'))
          case atStart => exact ⟨(t195), (0), (by first | rfl | (simp; done) | (simp [*]; done)), H', ⟨Nat.le_refl _⟩, ⟨by (with_reducible repeat (first | apply Kd.R_alloc | apply Kd.R_drewN | apply Kd.R_drew)); exact Kd.R_mono HO197.out (fun _ hk => trivial)⟩, ⟨by (with_reducible repeat (first | refine blk_drewN ?_ _ | refine blk_drew ?_ | refine blk_alloc ?_ _)); exact BK168.out⟩, ⟨by repeat (first | (with_reducible first | exact HB.out | apply below_alloc | apply pw_below_drewN | apply below_drew1 | refine below_set ?_ GE168.out) | exact HB.out)⟩⟩
          case round =>
           clear H'
           try clear c1
           try clear c2
           try clear p2
           try clear c3
           try clear c5
           try clear c6
           try clear p6
           try clear c7
           try clear c9
           try clear c11
           try clear c13
           try clear c14
           try clear c14b0
           try clear c14b1
           try clear c22
           try clear c23
           try clear c23b0
           try clear c24
           try clear c27
           try clear c30
           try clear c34
           try clear hcz15_0
           try clear hcz15_1
           try clear hcz15_10
           try clear hcz15_2
           try clear hcz15_3
           try clear hcz15_4
           try clear hcz15_5
           try clear hcz15_6
           try clear hcz15_7
           try clear hcz15_8
           try clear hcz15_9
           try clear hcz16_0
           try clear hcz16_1
           try clear hcz16_10
           try clear hcz16_2
           try clear hcz16_3
           try clear hcz16_4
           try clear hcz16_5
           try clear hcz16_6
           try clear hcz16_7
           try clear hcz16_8
           try clear hcz16_9
           try clear hcz17_0
           try clear hcz17_1
           try clear hcz17_10
           try clear hcz17_2
           try clear hcz17_3
           try clear hcz17_4
           try clear hcz17_5
           try clear hcz17_6
           try clear hcz17_7
           try clear hcz17_8
           try clear hcz17_9
           try clear hcz18_0
           try clear hcz18_1
           try clear hcz18_10
           try clear hcz18_2
           try clear hcz18_3
           try clear hcz18_4
           try clear hcz18_5
           try clear hcz18_6
           try clear hcz18_7
           try clear hcz18_8
           try clear hcz18_9
           try clear hcz19_0
           try clear hcz19_1
           try clear hcz19_10
           try clear hcz19_2
           try clear hcz19_3
           try clear hcz19_4
           try clear hcz19_5
           try clear hcz19_6
           try clear hcz19_7
           try clear hcz19_8
           try clear hcz19_9
           try clear hcz20_0
           try clear hcz20_1
           try clear hcz20_10
           try clear hcz20_2
           try clear hcz20_3
           try clear hcz20_4
           try clear hcz20_5
           try clear hcz20_6
           try clear hcz20_7
           try clear hcz20_8
           try clear hcz20_9
           try clear hcz21_0
           try clear hcz21_1
           try clear hcz21_10
           try clear hcz21_2
           try clear hcz21_3
           try clear hcz21_4
           try clear hcz21_5
           try clear hcz21_6
           try clear hcz21_7
           try clear hcz21_8
           try clear hcz21_9
           try clear hcz24_0
           try clear hcz24_1
           try clear hcz24_10
           try clear hcz24_2
           try clear hcz24_3
           try clear hcz24_4
           try clear hcz24_5
           try clear hcz24_6
           try clear hcz24_7
           try clear hcz24_8
           try clear hcz24_9
           try clear hcz26_0
           try clear hcz26_1
           try clear hcz26_10
           try clear hcz26_2
           try clear hcz26_3
           try clear hcz26_4
           try clear hcz26_5
           try clear hcz26_6
           try clear hcz26_7
           try clear hcz26_8
           try clear hcz26_9
           try clear hcz29_0
           try clear hcz29_1
           try clear hcz29_10
           try clear hcz29_2
           try clear hcz29_3
           try clear hcz29_4
           try clear hcz29_5
           try clear hcz29_6
           try clear hcz29_7
           try clear hcz29_8
           try clear hcz29_9
           try clear hcz37_0
           try clear hcz37_1
           try clear hcz37_10
           try clear hcz37_2
           try clear hcz37_3
           try clear hcz37_4
           try clear hcz37_5
           try clear hcz37_6
           try clear hcz37_7
           try clear hcz37_8
           try clear hcz37_9
           try clear hcz40_0
           try clear hcz40_1
           try clear hcz40_10
           try clear hcz40_2
           try clear hcz40_3
           try clear hcz40_4
           try clear hcz40_5
           try clear hcz40_6
           try clear hcz40_7
           try clear hcz40_8
           try clear hcz40_9
           try clear hcz43_0
           try clear hcz43_1
           try clear hcz43_10
           try clear hcz43_2
           try clear hcz43_3
           try clear hcz43_4
           try clear hcz43_5
           try clear hcz43_6
           try clear hcz43_7
           try clear hcz43_8
           try clear hcz43_9
           try clear hcz48_0
           try clear hcz48_1
           try clear hcz48_10
           try clear hcz48_2
           try clear hcz48_3
           try clear hcz48_4
           try clear hcz48_5
           try clear hcz48_6
           try clear hcz48_7
           try clear hcz48_8
           try clear hcz48_9
           try clear hcz53_0
           try clear hcz53_1
           try clear hcz53_10
           try clear hcz53_2
           try clear hcz53_3
           try clear hcz53_4
           try clear hcz53_5
           try clear hcz53_6
           try clear hcz53_7
           try clear hcz53_8
           try clear hcz53_9
           try clear hcz56_0
           try clear hcz56_1
           try clear hcz56_10
           try clear hcz56_2
           try clear hcz56_3
           try clear hcz56_4
           try clear hcz56_5
           try clear hcz56_6
           try clear hcz56_7
           try clear hcz56_8
           try clear hcz56_9
           try clear hfz15_0
           try clear hfz15_1
           try clear hfz15_10
           try clear hfz15_2
           try clear hfz15_3
           try clear hfz15_4
           try clear hfz15_5
           try clear hfz15_6
           try clear hfz15_7
           try clear hfz15_8
           try clear hfz15_9
           try clear hfz16_0
           try clear hfz16_1
           try clear hfz16_10
           try clear hfz16_2
           try clear hfz16_3
           try clear hfz16_4
           try clear hfz16_5
           try clear hfz16_6
           try clear hfz16_7
           try clear hfz16_8
           try clear hfz16_9
           try clear hfz17_0
           try clear hfz17_1
           try clear hfz17_10
           try clear hfz17_2
           try clear hfz17_3
           try clear hfz17_4
           try clear hfz17_5
           try clear hfz17_6
           try clear hfz17_7
           try clear hfz17_8
           try clear hfz17_9
           try clear hfz18_0
           try clear hfz18_1
           try clear hfz18_10
           try clear hfz18_2
           try clear hfz18_3
           try clear hfz18_4
           try clear hfz18_5
           try clear hfz18_6
           try clear hfz18_7
           try clear hfz18_8
           try clear hfz18_9
           try clear hfz19_0
           try clear hfz19_1
           try clear hfz19_10
           try clear hfz19_2
           try clear hfz19_3
           try clear hfz19_4
           try clear hfz19_5
           try clear hfz19_6
           try clear hfz19_7
           try clear hfz19_8
           try clear hfz19_9
           try clear hfz20_0
           try clear hfz20_1
           try clear hfz20_10
           try clear hfz20_2
           try clear hfz20_3
           try clear hfz20_4
           try clear hfz20_5
           try clear hfz20_6
           try clear hfz20_7
           try clear hfz20_8
           try clear hfz20_9
           try clear hfz21_0
           try clear hfz21_1
           try clear hfz21_10
           try clear hfz21_2
           try clear hfz21_3
           try clear hfz21_4
           try clear hfz21_5
           try clear hfz21_6
           try clear hfz21_7
           try clear hfz21_8
           try clear hfz21_9
           try clear hfz24_0
           try clear hfz24_1
           try clear hfz24_10
           try clear hfz24_2
           try clear hfz24_3
           try clear hfz24_4
           try clear hfz24_5
           try clear hfz24_6
           try clear hfz24_7
           try clear hfz24_8
           try clear hfz24_9
           try clear hfz26_0
           try clear hfz26_1
           try clear hfz26_10
           try clear hfz26_2
           try clear hfz26_3
           try clear hfz26_4
           try clear hfz26_5
           try clear hfz26_6
           try clear hfz26_7
           try clear hfz26_8
           try clear hfz26_9
           try clear hfz29_0
           try clear hfz29_1
           try clear hfz29_10
           try clear hfz29_2
           try clear hfz29_3
           try clear hfz29_4
           try clear hfz29_5
           try clear hfz29_6
           try clear hfz29_7
           try clear hfz29_8
           try clear hfz29_9
           try clear hfz37_0
           try clear hfz37_1
           try clear hfz37_10
           try clear hfz37_2
           try clear hfz37_3
           try clear hfz37_4
           try clear hfz37_5
           try clear hfz37_6
           try clear hfz37_7
           try clear hfz37_8
           try clear hfz37_9
           try clear hfz40_0
           try clear hfz40_1
           try clear hfz40_10
           try clear hfz40_2
           try clear hfz40_3
           try clear hfz40_4
           try clear hfz40_5
           try clear hfz40_6
           try clear hfz40_7
           try clear hfz40_8
           try clear hfz40_9
           try clear hfz43_0
           try clear hfz43_1
           try clear hfz43_10
           try clear hfz43_2
           try clear hfz43_3
           try clear hfz43_4
           try clear hfz43_5
           try clear hfz43_6
           try clear hfz43_7
           try clear hfz43_8
           try clear hfz43_9
           try clear hfz48_0
           try clear hfz48_1
           try clear hfz48_10
           try clear hfz48_2
           try clear hfz48_3
           try clear hfz48_4
           try clear hfz48_5
           try clear hfz48_6
           try clear hfz48_7
           try clear hfz48_8
           try clear hfz48_9
           try clear hfz53_0
           try clear hfz53_1
           try clear hfz53_10
           try clear hfz53_2
           try clear hfz53_3
           try clear hfz53_4
           try clear hfz53_5
           try clear hfz53_6
           try clear hfz53_7
           try clear hfz53_8
           try clear hfz53_9
           try clear hfz56_0
           try clear hfz56_1
           try clear hfz56_10
           try clear hfz56_2
           try clear hfz56_3
           try clear hfz56_4
           try clear hfz56_5
           try clear hfz56_6
           try clear hfz56_7
           try clear hfz56_8
           try clear hfz56_9
           try clear p2
           try clear p6
           obtain ⟨x6_4, x7_4, rfl, HA, HK4, HO_6, BK168, HB⟩ := hrel
           cases gk with
           | zero => exact absurd HA.out (by simp [bailiwickref2_Build.l0])
           | succ k4 =>
            have H := HA.out
            clear HA
            simp only [bailiwickref2_Build.l0] at H
            by_cases c59 : x7_4 < (l0_9.length : Int)
            ·rw [if_pos c59] at H
             have c59b0 : decide (x7_4 < (l0_9.length : Int)) = true := decide_eq_true c59
             clear c59
             by_cases c60 : 0 ≤ x7_4
             ·rw [if_pos c60] at H
              have c60b0 : decide (0 ≤ x7_4) = true := decide_eq_true c60
              clear c60
              by_cases c61 : x6_4.length < 140737488355328
              ·rw [if_pos c61] at H
               have LMc61 := Aside0.mk c61
               clear c61
               obtain ⟨y199, hy199⟩ : ∃ y_ : List Int, y_ = (x6_4 ++ [rd l0_9 x7_4]) := ⟨_, rfl⟩
               replace H : (bailiwickref2_Build.l0 k4 y199 (wrap64 (x7_4 + 1)) a0_0 a0_1 a0_2 a0_3 a0_4 a0_5 a0_6 a0_7 a0_8 l0_9 l0_10) = some (r1, r2) := by first | (rw [hy199]; with_reducible exact H) | (have H2_ := (Option.bind_some _ _).symm.trans H; rw [hy199]; with_reducible exact H2_) | (have H2_ := (Option.bind_some _ _).symm.trans H; with_reducible exact H2_) | with_reducible exact H | (rw [hy199]; exact H) | exact H
               have Ny199 := Aside0.mk hy199
               clear hy199
               have H' := Aside0.mk H
               clear H
               have hcz62_0 : wr.cell? ⟨gb168, 0, none⟩ = some (.int .i64 a0_0) := (blk_cell BK168.out 0).trans rfl
               have hcz62_1 : wr.cell? ⟨gb168, 1, none⟩ = some (.int .i64 a0_1) := (blk_cell BK168.out 1).trans rfl
               have hcz62_2 : wr.cell? ⟨gb168, 2, none⟩ = some (.bool a0_2) := (blk_cell BK168.out 2).trans rfl
               have hcz62_3 : wr.cell? ⟨gb168, 3, none⟩ = some (.bool a0_3) := (blk_cell BK168.out 3).trans rfl
               have hcz62_4 : wr.cell? ⟨gb168, 4, none⟩ = some (.int .i64 a0_4) := (blk_cell BK168.out 4).trans rfl
               have hcz62_5 : wr.cell? ⟨gb168, 5, none⟩ = some (.int .i64 a0_5) := (blk_cell BK168.out 5).trans rfl
               have hcz62_6 : wr.cell? ⟨gb168, 6, none⟩ = some (.int .i64 a0_6) := (blk_cell BK168.out 6).trans rfl
               have hcz62_7 : wr.cell? ⟨gb168, 7, none⟩ = some (.int .u32 a0_7) := (blk_cell BK168.out 7).trans rfl
               have hcz62_8 : wr.cell? ⟨gb168, 8, none⟩ = some (.int .u32 a0_8) := (blk_cell BK168.out 8).trans rfl
               have hcz62_9 : wr.cell? ⟨gb168, 9, none⟩ = some (.slice A0_9 l0_9.length c0_9) := (blk_cell BK168.out 9).trans rfl
               have hcz62_10 : wr.cell? ⟨gb168, 10, none⟩ = some (.slice A0_10 l0_10.length c0_10) := (blk_cell BK168.out 10).trans rfl
               have hfz62_0 := blk_frozen BK168.out 0
               have hfz62_1 := blk_frozen BK168.out 1
               have hfz62_2 := blk_frozen BK168.out 2
               have hfz62_3 := blk_frozen BK168.out 3
               have hfz62_4 := blk_frozen BK168.out 4
               have hfz62_5 := blk_frozen BK168.out 5
               have hfz62_6 := blk_frozen BK168.out 6
               have hfz62_7 := blk_frozen BK168.out 7
               have hfz62_8 := blk_frozen BK168.out 8
               have hfz62_9 := blk_frozen BK168.out 9
               have hfz62_10 := blk_frozen BK168.out 10
               have p198 : 0 ≤ (x7_4 : Int) := of_decide_eq_true (by first | (with_reducible assumption) | assumption)
               have q198 : x7_4 < (l0_9.length : Int) := of_decide_eq_true (by first | (with_reducible assumption) | assumption)
               obtain ⟨ad198, e198, hx198_0⟩ := Kd.at_int HR0_9.out x7_4 p198 q198
               cases e198
               replace hx198_0 := (HB.out.cell (World.block_lt_of_cell? w _ hx198_0)).trans hx198_0
               replace p198 := eq_true p198
               replace q198 := eq_true q198
               go_wp2_with (first | ((with_reducible refine gate_builtin (b := .append) (xs := #[.tmp 122, .tmp 128]) rfl ?_); at_builtin; refine Kd.R_append (Kd.int .u8) (w0 := w) w.heap.size rfl (.tmp 122) (.tmp 128) 23 5 (.int .u8 0) 1 rfl Try.underlying23 info5 rfl (by decide) (by omega) u6 x6_4 (rd l0_9 x7_4) [.int .u8 (rd l0_9 x7_4)] (fun _ => True) (fun _ => False) rfl rfl ?aP (fun _ hk => hk.elim) ?aF ?aO ?aB ?aS ?aL ?_; (case aP => exact rfl); (case aB => exact (by repeat (first | (with_reducible first | exact HB.out | apply below_alloc | apply pw_below_drewN | apply below_drew1 | refine below_set ?_ GE168.out) | exact HB.out))); (case aF => exact (fun _ _ => trivial)); (case aO => exact (by (with_reducible repeat (first | apply Kd.R_alloc | apply Kd.R_drewN | apply Kd.R_drew)); exact HO_6.out)); (case aS => exact (below_size (by repeat (first | (with_reducible first | exact HB.out | apply below_alloc | apply pw_below_drewN | apply below_drew1 | refine below_set ?_ GE168.out) | exact HB.out)))); (case aL => have := LMc61.out; omega); intro v200 w63 ho hb hg hat; rw [← Ny199.out] at ho; have n0_ := Aside0.mk (blk_grown (g := gb168) (o := .cells #[.int .i64 a0_0, .int .i64 a0_1, .bool a0_2, .bool a0_3, .int .i64 a0_4, .int .i64 a0_5, .int .i64 a0_6, .int .u32 a0_7, .int .u32 a0_8, .slice (some ad198) l0_9.length c0_9, .slice A0_10 l0_10.length c0_10] 29 (0, 0)) (by (with_reducible repeat (first | refine blk_drewN ?_ _ | refine blk_drew ?_ | refine blk_alloc ?_ _)); exact BK168.out) hg (Kd.R_ne HO_6.out BK168.out (by decide))); have n1_ := Aside0.mk (hb); have n2_ := Aside0.mk (ho); clear BK168; clear HB; clear HO_6; have BK168 := n0_; have HB := n1_; have HO201 := n2_; clear n0_ n1_ n2_; clear ho hb hg hat))
               go_roundg k4
               case measure => have := HJ1.out; have := HJ24.out; have := HJ27.out; have := HK4.out; omega
               case rel => exact ⟨(y199), (wrap64 (x7_4 + 1)), (by first | rfl | (simp; done) | (simp [*]; done)), H', ⟨by have := HJ1.out; have := HJ24.out; have := HJ27.out; have := HK4.out; omega⟩, ⟨by (with_reducible repeat (first | apply Kd.R_alloc | apply Kd.R_drewN | apply Kd.R_drew)); exact HO201.out⟩, ⟨by (with_reducible repeat (first | refine blk_drewN ?_ _ | refine blk_drew ?_ | refine blk_alloc ?_ _)); exact BK168.out⟩, ⟨by repeat (first | (with_reducible first | exact HB.out | apply below_alloc | apply pw_below_drewN | apply below_drew1 | refine below_set ?_ GE168.out) | exact HB.out)⟩⟩
              ·rw [if_neg c61] at H
               exact absurd H (by simp)
             ·rw [if_neg c60] at H
              exact absurd H (by simp)
            ·rw [if_neg c59] at H
             have c59b0 : decide (x7_4 < (l0_9.length : Int)) = false := decide_eq_false c59
             clear c59
             replace H := Option.bind_eq_some_iff.mp H
             obtain ⟨t202, A640, H⟩ := H
             replace H : (if 10 < (x6_4.length : Int) then (if 11 < (x6_4.length : Int) then (bailiwickref2_Build.l1 k4 ((x6_4.set (10 : Int).toNat (((wrap64 (65535 - t202)) / 256) % 256)).set (11 : Int).toNat ((wrap64 (65535 - t202)) % 256)) 0 a0_0 a0_1 a0_2 a0_3 a0_4 a0_5 a0_6 a0_7 a0_8 l0_9 l0_10) else (none)) else (none)) = some (r1, r2) := H
             have A64 := Aside0.mk A640
             clear A640
             by_cases c65 : 10 < (x6_4.length : Int)
             ·rw [if_pos c65] at H
              have c65b0 : decide (10 < (x6_4.length : Int)) = true := decide_eq_true c65
              have c65b1 : decide (10 < x6_4.length) = true := decide_eq_true (by omega)
              clear c65
              obtain ⟨y203, hy203⟩ : ∃ y_ : List Int, y_ = (x6_4.set (10 : Int).toNat (((wrap64 (65535 - t202)) / 256) % 256)) := ⟨_, rfl⟩
              replace H : (if 11 < (x6_4.length : Int) then (bailiwickref2_Build.l1 k4 (y203.set (11 : Int).toNat ((wrap64 (65535 - t202)) % 256)) 0 a0_0 a0_1 a0_2 a0_3 a0_4 a0_5 a0_6 a0_7 a0_8 l0_9 l0_10) else (none)) = some (r1, r2) := by first | (rw [hy203]; with_reducible exact H) | (have H2_ := (Option.bind_some _ _).symm.trans H; rw [hy203]; with_reducible exact H2_) | (have H2_ := (Option.bind_some _ _).symm.trans H; with_reducible exact H2_) | with_reducible exact H | (rw [hy203]; exact H) | exact H
              have Ny203 := Aside0.mk hy203
              clear hy203
              by_cases c67 : 11 < (x6_4.length : Int)
              ·rw [if_pos c67] at H
               have c67b0 : decide (11 < (x6_4.length : Int)) = true := decide_eq_true c67
               have c67b1 : decide (11 < x6_4.length) = true := decide_eq_true (by omega)
               clear c67
               obtain ⟨y204, hy204⟩ : ∃ y_ : List Int, y_ = (y203.set (11 : Int).toNat ((wrap64 (65535 - t202)) % 256)) := ⟨_, rfl⟩
               replace H : (bailiwickref2_Build.l1 k4 y204 0 a0_0 a0_1 a0_2 a0_3 a0_4 a0_5 a0_6 a0_7 a0_8 l0_9 l0_10) = some (r1, r2) := by first | (rw [hy204]; with_reducible exact H) | (have H2_ := (Option.bind_some _ _).symm.trans H; rw [hy204]; with_reducible exact H2_) | (have H2_ := (Option.bind_some _ _).symm.trans H; with_reducible exact H2_) | with_reducible exact H | (rw [hy204]; exact H) | exact H
               have Ny204 := Aside0.mk hy204
               clear hy204
               have H' := Aside0.mk H
               clear H
               have hcz69_0 : wr.cell? ⟨gb168, 0, none⟩ = some (.int .i64 a0_0) := (blk_cell BK168.out 0).trans rfl
               have hcz69_1 : wr.cell? ⟨gb168, 1, none⟩ = some (.int .i64 a0_1) := (blk_cell BK168.out 1).trans rfl
               have hcz69_2 : wr.cell? ⟨gb168, 2, none⟩ = some (.bool a0_2) := (blk_cell BK168.out 2).trans rfl
               have hcz69_3 : wr.cell? ⟨gb168, 3, none⟩ = some (.bool a0_3) := (blk_cell BK168.out 3).trans rfl
               have hcz69_4 : wr.cell? ⟨gb168, 4, none⟩ = some (.int .i64 a0_4) := (blk_cell BK168.out 4).trans rfl
               have hcz69_5 : wr.cell? ⟨gb168, 5, none⟩ = some (.int .i64 a0_5) := (blk_cell BK168.out 5).trans rfl
               have hcz69_6 : wr.cell? ⟨gb168, 6, none⟩ = some (.int .i64 a0_6) := (blk_cell BK168.out 6).trans rfl
               have hcz69_7 : wr.cell? ⟨gb168, 7, none⟩ = some (.int .u32 a0_7) := (blk_cell BK168.out 7).trans rfl
               have hcz69_8 : wr.cell? ⟨gb168, 8, none⟩ = some (.int .u32 a0_8) := (blk_cell BK168.out 8).trans rfl
               have hcz69_9 : wr.cell? ⟨gb168, 9, none⟩ = some (.slice A0_9 l0_9.length c0_9) := (blk_cell BK168.out 9).trans rfl
               have hcz69_10 : wr.cell? ⟨gb168, 10, none⟩ = some (.slice A0_10 l0_10.length c0_10) := (blk_cell BK168.out 10).trans rfl
               have hfz69_0 := blk_frozen BK168.out 0
               have hfz69_1 := blk_frozen BK168.out 1
               have hfz69_2 := blk_frozen BK168.out 2
               have hfz69_3 := blk_frozen BK168.out 3
               have hfz69_4 := blk_frozen BK168.out 4
               have hfz69_5 := blk_frozen BK168.out 5
               have hfz69_6 := blk_frozen BK168.out 6
               have hfz69_7 := blk_frozen BK168.out 7
               have hfz69_8 := blk_frozen BK168.out 8
               have hfz69_9 := blk_frozen BK168.out 9
               have hfz69_10 := blk_frozen BK168.out 10
               obtain ⟨Ao70, co70, eo70⟩ := Kd.R_slice HO_6.out
               subst eo70
               go_wp2_with (first | ((with_reducible refine gate_callee (f := 56) rfl ?_); refine goesL_ (some 131) rfl rfl Try.func56 (by kernel_rfl) rfl #[.slice Ao70 x6_4.length co70] rfl (by (try simp only [List.map_toArray, List.map_cons, List.map_nil]); first | done | rfl | (simp only [List.length_drop, List.length_take]; rfl)) ?_; (with_reducible refine (bailiwickref1_One.calls k4 _ _ x6_4 t202 _ ?side1 ?side2 A64.out).mono ?_); (case side1 => repeat (first | exact (Kd.R_reads' HO_6.out).2.2 | (with_reducible refine Kd.C_alloc ?_ _) | (with_reducible refine Kd.C_drewN ?_ _) | (with_reducible refine Kd.C_drew ?_))); (case side2 => exact (Kd.R_reads' HO_6.out).2.1); rintro e w71 ⟨rfl, hb⟩; refine ⟨_, rfl, ?_⟩; have n0_ := Aside0.mk (Kd.R_below (by (with_reducible repeat (first | apply Kd.R_alloc | apply Kd.R_drewN | apply Kd.R_drew)); exact HO_6.out) hb); have n1_ := Aside0.mk (blk_below (g := gb168) (o := .cells #[.int .i64 a0_0, .int .i64 a0_1, .bool a0_2, .bool a0_3, .int .i64 a0_4, .int .i64 a0_5, .int .i64 a0_6, .int .u32 a0_7, .int .u32 a0_8, .slice A0_9 l0_9.length c0_9, .slice A0_10 l0_10.length c0_10] 29 (0, 0)) (by (with_reducible repeat (first | refine blk_drewN ?_ _ | refine blk_drew ?_ | refine blk_alloc ?_ _)); exact BK168.out) hb); have n2_ := Aside0.mk (below_step (by repeat (first | (with_reducible first | exact HB.out | apply below_alloc | apply pw_below_drewN | apply below_drew1 | refine below_set ?_ GE168.out) | exact HB.out)) hb); clear HO_6; clear BK168; clear HB; have HO_6 := n0_; have BK168 := n1_; have HB := n2_; clear n0_ n1_ n2_; (try clear hb); (try clear hb2); (try clear hk); (try clear hi); have p66 : 0 ≤ (10 : Int) := (by omega); have q66 : (10 : Int) < ((x6_4.length : Int) : Int) := of_decide_eq_true (by first | (with_reducible assumption) | assumption); have qi66 : (10 < x6_4.length) = True := eq_true (by omega); obtain ⟨go66, co66, eo66, gb66, gl66, cl66, HG66⟩ := Kd.R_form HO_6.out (by omega); (first | cases eo66 | (injection eo66 with ea_ en_ ec_; (first | subst ea_ | (injection ea_ with ea_; subst ea_)); subst ec_; clear en_)); have GB66 := Aside0.mk gb66; have GG66 := Aside0.mk HG66; clear gb66 gl66 HG66; obtain ⟨hx66_0, hf66_0⟩ := Kd.R_celln 0 HO_6.out (10 : Int) p66 q66; (try rw [show ((10 : Int)).toNat = 10 from rfl] at hx66_0); (try simp only [Nat.reduceMul, Nat.zero_mul, Nat.zero_add, Nat.reduceAdd] at hx66_0); (try rw [show ((10 : Int)).toNat = 10 from rfl] at hf66_0); (try simp only [Nat.reduceMul, Nat.zero_mul, Nat.zero_add, Nat.reduceAdd] at hf66_0); replace p66 := eq_true p66; replace q66 := eq_true q66; obtain ⟨hy72_, hz72_⟩ := Kd.R_celln 0 HO_6.out (10 : Int) (by omega) (of_decide_eq_true (by first | (with_reducible assumption) | assumption)); (try simp only [Int.reduceToNat, Int.toNat_zero, Int.toNat_ofNat, Nat.reduceMul, Nat.zero_mul, Nat.zero_add] at hy72_ hz72_); (try rw [show ((10 : Int)).toNat = 10 from rfl] at hy72_); (try rw [show ((10 : Int)).toNat = 10 from rfl] at hz72_); have HP72 := Kd.R_putg HO_6.out (10 : Int) (((wrap64 (65535 - t202)) / 256) % 256)) | ((with_reducible refine gate_store (t := 5) (p := 137) rfl ?_); refine store_event (t := 5) (p := 137) (v := ?vo_w73) (w1 := (w71.setCell ⟨go66, (10 : Int).toNat, none⟩ (.int .u8 (((wrap64 (65535 - t202)) / 256) % 256)))) ?hg ?ho ?hn ?hr ?_; (case ho => rfl); (case hg => rfl); (case hn => rfl); (case hr => first | (go_simp; done) | (go_simp; rfl)); intro w73 hw; have hg : w71.grownBy w73 (some go66) := (by rw [hw]; exact HP72.2); have hp_ : Kd.R (Kd.int .u8) 5 w73 w.heap.size (fun _ => True) (.slice (some ⟨go66, 0, none⟩) x6_4.length co70) y203 := (by rw [hw, Ny203.out]; exact HP72.1); clear HP72; have n0_ := Aside0.mk (hp_); have n1_ := Aside0.mk (blk_grown (g := gb168) (o := .cells #[.int .i64 a0_0, .int .i64 a0_1, .bool a0_2, .bool a0_3, .int .i64 a0_4, .int .i64 a0_5, .int .i64 a0_6, .int .u32 a0_7, .int .u32 a0_8, .slice A0_9 l0_9.length c0_9, .slice A0_10 l0_10.length c0_10] 29 (0, 0)) (by (with_reducible repeat (first | refine blk_drewN ?_ _ | refine blk_drew ?_ | refine blk_alloc ?_ _)); exact BK168.out) hg (Kd.R_ne HO_6.out BK168.out (by decide))); have n2_ := Aside0.mk ((by rw [hw]; exact below_set (HB.out) GB66.out : Below w.heap.size w w73)); clear HO_6; clear BK168; clear HB; have HO_6 := n0_; have BK168 := n1_; have HB := n2_; clear n0_ n1_ n2_; clear hg hw hp_; have p68 : 0 ≤ (11 : Int) := (by omega); have q68 : (11 : Int) < ((x6_4.length : Int) : Int) := of_decide_eq_true (by first | (with_reducible assumption) | assumption); have qi68 : (11 < x6_4.length) = True := eq_true (by omega); obtain ⟨hx68_0, hf68_0⟩ := Kd.R_celln 0 HO_6.out (11 : Int) p68 q68; (try rw [show ((11 : Int)).toNat = 11 from rfl] at hx68_0); (try simp only [Nat.reduceMul, Nat.zero_mul, Nat.zero_add, Nat.reduceAdd] at hx68_0); (try rw [show ((11 : Int)).toNat = 11 from rfl] at hf68_0); (try simp only [Nat.reduceMul, Nat.zero_mul, Nat.zero_add, Nat.reduceAdd] at hf68_0); replace p68 := eq_true p68; replace q68 := eq_true q68; obtain ⟨hy74_, hz74_⟩ := Kd.R_celln 0 HO_6.out (11 : Int) (by omega) (of_decide_eq_true (by first | (with_reducible assumption) | assumption)); (try simp only [Int.reduceToNat, Int.toNat_zero, Int.toNat_ofNat, Nat.reduceMul, Nat.zero_mul, Nat.zero_add] at hy74_ hz74_); (try rw [show ((11 : Int)).toNat = 11 from rfl] at hy74_); (try rw [show ((11 : Int)).toNat = 11 from rfl] at hz74_); have HP74 := Kd.R_putg HO_6.out (11 : Int) ((wrap64 (65535 - t202)) % 256)) | ((with_reducible refine gate_store (t := 5) (p := 141) rfl ?_); refine store_event (t := 5) (p := 141) (v := ?vo_w75) (w1 := (w73.setCell ⟨go66, (11 : Int).toNat, none⟩ (.int .u8 ((wrap64 (65535 - t202)) % 256)))) ?hg ?ho ?hn ?hr ?_; (case ho => rfl); (case hg => rfl); (case hn => rfl); (case hr => first | (go_simp; done) | (go_simp; rfl)); intro w75 hw; have hg : w73.grownBy w75 (some go66) := (by rw [hw]; exact HP74.2); have hp_ : Kd.R (Kd.int .u8) 5 w75 w.heap.size (fun _ => True) (.slice (some ⟨go66, 0, none⟩) x6_4.length co70) y204 := (by rw [hw, Ny204.out]; exact HP74.1); clear HP74; have n0_ := Aside0.mk (hp_); have n1_ := Aside0.mk (blk_grown (g := gb168) (o := .cells #[.int .i64 a0_0, .int .i64 a0_1, .bool a0_2, .bool a0_3, .int .i64 a0_4, .int .i64 a0_5, .int .i64 a0_6, .int .u32 a0_7, .int .u32 a0_8, .slice A0_9 l0_9.length c0_9, .slice A0_10 l0_10.length c0_10] 29 (0, 0)) (by (with_reducible repeat (first | refine blk_drewN ?_ _ | refine blk_drew ?_ | refine blk_alloc ?_ _)); exact BK168.out) hg (Kd.R_ne HO_6.out BK168.out (by decide))); have n2_ := Aside0.mk ((by rw [hw]; exact below_set (HB.out) GB66.out : Below w.heap.size w w75)); clear HO_6; clear BK168; clear HB; have HO_6 := n0_; have BK168 := n1_; have HB := n2_; clear n0_ n1_ n2_; clear hg hw hp_))
               go_loopg [6, 9] k4 (fun kq v6 v9 w' => ∃ (x6_5 : List Int) (x9_5 : Int), v9 = .int .i64 x9_5 ∧ Aside0 (bailiwickref2_Build.l1 kq x6_5 x9_5 a0_0 a0_1 a0_2 a0_3 a0_4 a0_5 a0_6 a0_7 a0_8 l0_9 l0_10 = some (r1, r2)) ∧ Aside0 (kq ≤ k4) ∧ Aside0 (Kd.R (Kd.int .u8) 5 w' w.heap.size (fun _ => True) v6 x6_5) ∧ Aside0 (w'.heap[gb168]? = some (.cells #[.int .i64 a0_0, .int .i64 a0_1, .bool a0_2, .bool a0_3, .int .i64 a0_4, .int .i64 a0_5, .int .i64 a0_6, .int .u32 a0_7, .int .u32 a0_8, (.slice A0_9 l0_9.length c0_9), (.slice A0_10 l0_10.length c0_10)] 29 (0, 0))) ∧ Aside0 (Below w.heap.size w w'))
               case atStart => exact ⟨(y204), (0), (by first | rfl | (simp; done) | (simp [*]; done)), H', ⟨Nat.le_refl _⟩, ⟨by (with_reducible repeat (first | apply Kd.R_alloc | apply Kd.R_drewN | apply Kd.R_drew)); exact HO_6.out⟩, ⟨by (with_reducible repeat (first | refine blk_drewN ?_ _ | refine blk_drew ?_ | refine blk_alloc ?_ _)); exact BK168.out⟩, ⟨by repeat (first | (with_reducible first | exact HB.out | apply below_alloc | apply pw_below_drewN | apply below_drew1 | refine below_set ?_ GE168.out) | exact HB.out)⟩⟩
               case round =>
                clear H'
                try clear c1
                try clear p1
                try clear q1
                try clear hx1
                try clear c2
                try clear p2
                try clear c3
                try clear c5
                try clear c6
                try clear p6
                try clear q6
                try clear hx6
                try clear qi6
                try clear hf6
                try clear c7
                try clear c9
                try clear c11
                try clear c13
                try clear c14
                try clear c14b0
                try clear c14b1
                try clear p19
                try clear q19
                try clear hx19
                try clear c22
                try clear c23
                try clear c23b0
                try clear c24
                try clear c27
                try clear c30
                try clear c34
                try clear c56
                try clear c59
                try clear c59b0
                try clear c60
                try clear c60b0
                try clear c61
                try clear p64
                try clear c65
                try clear c65b0
                try clear c65b1
                try clear p66
                try clear q66
                try clear hx66
                try clear qi66
                try clear hf66
                try clear c67
                try clear c67b0
                try clear c67b1
                try clear p68
                try clear q68
                try clear hx68
                try clear qi68
                try clear hf68
                try clear hcz15_0
                try clear hcz15_1
                try clear hcz15_10
                try clear hcz15_2
                try clear hcz15_3
                try clear hcz15_4
                try clear hcz15_5
                try clear hcz15_6
                try clear hcz15_7
                try clear hcz15_8
                try clear hcz15_9
                try clear hcz16_0
                try clear hcz16_1
                try clear hcz16_10
                try clear hcz16_2
                try clear hcz16_3
                try clear hcz16_4
                try clear hcz16_5
                try clear hcz16_6
                try clear hcz16_7
                try clear hcz16_8
                try clear hcz16_9
                try clear hcz17_0
                try clear hcz17_1
                try clear hcz17_10
                try clear hcz17_2
                try clear hcz17_3
                try clear hcz17_4
                try clear hcz17_5
                try clear hcz17_6
                try clear hcz17_7
                try clear hcz17_8
                try clear hcz17_9
                try clear hcz18_0
                try clear hcz18_1
                try clear hcz18_10
                try clear hcz18_2
                try clear hcz18_3
                try clear hcz18_4
                try clear hcz18_5
                try clear hcz18_6
                try clear hcz18_7
                try clear hcz18_8
                try clear hcz18_9
                try clear hcz19_0
                try clear hcz19_1
                try clear hcz19_10
                try clear hcz19_2
                try clear hcz19_3
                try clear hcz19_4
                try clear hcz19_5
                try clear hcz19_6
                try clear hcz19_7
                try clear hcz19_8
                try clear hcz19_9
                try clear hcz20_0
                try clear hcz20_1
                try clear hcz20_10
                try clear hcz20_2
                try clear hcz20_3
                try clear hcz20_4
                try clear hcz20_5
                try clear hcz20_6
                try clear hcz20_7
                try clear hcz20_8
                try clear hcz20_9
                try clear hcz21_0
                try clear hcz21_1
                try clear hcz21_10
                try clear hcz21_2
                try clear hcz21_3
                try clear hcz21_4
                try clear hcz21_5
                try clear hcz21_6
                try clear hcz21_7
                try clear hcz21_8
                try clear hcz21_9
                try clear hcz24_0
                try clear hcz24_1
                try clear hcz24_10
                try clear hcz24_2
                try clear hcz24_3
                try clear hcz24_4
                try clear hcz24_5
                try clear hcz24_6
                try clear hcz24_7
                try clear hcz24_8
                try clear hcz24_9
                try clear hcz26_0
                try clear hcz26_1
                try clear hcz26_10
                try clear hcz26_2
                try clear hcz26_3
                try clear hcz26_4
                try clear hcz26_5
                try clear hcz26_6
                try clear hcz26_7
                try clear hcz26_8
                try clear hcz26_9
                try clear hcz29_0
                try clear hcz29_1
                try clear hcz29_10
                try clear hcz29_2
                try clear hcz29_3
                try clear hcz29_4
                try clear hcz29_5
                try clear hcz29_6
                try clear hcz29_7
                try clear hcz29_8
                try clear hcz29_9
                try clear hcz37_0
                try clear hcz37_1
                try clear hcz37_10
                try clear hcz37_2
                try clear hcz37_3
                try clear hcz37_4
                try clear hcz37_5
                try clear hcz37_6
                try clear hcz37_7
                try clear hcz37_8
                try clear hcz37_9
                try clear hcz40_0
                try clear hcz40_1
                try clear hcz40_10
                try clear hcz40_2
                try clear hcz40_3
                try clear hcz40_4
                try clear hcz40_5
                try clear hcz40_6
                try clear hcz40_7
                try clear hcz40_8
                try clear hcz40_9
                try clear hcz43_0
                try clear hcz43_1
                try clear hcz43_10
                try clear hcz43_2
                try clear hcz43_3
                try clear hcz43_4
                try clear hcz43_5
                try clear hcz43_6
                try clear hcz43_7
                try clear hcz43_8
                try clear hcz43_9
                try clear hcz48_0
                try clear hcz48_1
                try clear hcz48_10
                try clear hcz48_2
                try clear hcz48_3
                try clear hcz48_4
                try clear hcz48_5
                try clear hcz48_6
                try clear hcz48_7
                try clear hcz48_8
                try clear hcz48_9
                try clear hcz53_0
                try clear hcz53_1
                try clear hcz53_10
                try clear hcz53_2
                try clear hcz53_3
                try clear hcz53_4
                try clear hcz53_5
                try clear hcz53_6
                try clear hcz53_7
                try clear hcz53_8
                try clear hcz53_9
                try clear hcz56_0
                try clear hcz56_1
                try clear hcz56_10
                try clear hcz56_2
                try clear hcz56_3
                try clear hcz56_4
                try clear hcz56_5
                try clear hcz56_6
                try clear hcz56_7
                try clear hcz56_8
                try clear hcz56_9
                try clear hcz62_0
                try clear hcz62_1
                try clear hcz62_10
                try clear hcz62_2
                try clear hcz62_3
                try clear hcz62_4
                try clear hcz62_5
                try clear hcz62_6
                try clear hcz62_7
                try clear hcz62_8
                try clear hcz62_9
                try clear hcz69_0
                try clear hcz69_1
                try clear hcz69_10
                try clear hcz69_2
                try clear hcz69_3
                try clear hcz69_4
                try clear hcz69_5
                try clear hcz69_6
                try clear hcz69_7
                try clear hcz69_8
                try clear hcz69_9
                try clear hfz15_0
                try clear hfz15_1
                try clear hfz15_10
                try clear hfz15_2
                try clear hfz15_3
                try clear hfz15_4
                try clear hfz15_5
                try clear hfz15_6
                try clear hfz15_7
                try clear hfz15_8
                try clear hfz15_9
                try clear hfz16_0
                try clear hfz16_1
                try clear hfz16_10
                try clear hfz16_2
                try clear hfz16_3
                try clear hfz16_4
                try clear hfz16_5
                try clear hfz16_6
                try clear hfz16_7
                try clear hfz16_8
                try clear hfz16_9
                try clear hfz17_0
                try clear hfz17_1
                try clear hfz17_10
                try clear hfz17_2
                try clear hfz17_3
                try clear hfz17_4
                try clear hfz17_5
                try clear hfz17_6
                try clear hfz17_7
                try clear hfz17_8
                try clear hfz17_9
                try clear hfz18_0
                try clear hfz18_1
                try clear hfz18_10
                try clear hfz18_2
                try clear hfz18_3
                try clear hfz18_4
                try clear hfz18_5
                try clear hfz18_6
                try clear hfz18_7
                try clear hfz18_8
                try clear hfz18_9
                try clear hfz19_0
                try clear hfz19_1
                try clear hfz19_10
                try clear hfz19_2
                try clear hfz19_3
                try clear hfz19_4
                try clear hfz19_5
                try clear hfz19_6
                try clear hfz19_7
                try clear hfz19_8
                try clear hfz19_9
                try clear hfz20_0
                try clear hfz20_1
                try clear hfz20_10
                try clear hfz20_2
                try clear hfz20_3
                try clear hfz20_4
                try clear hfz20_5
                try clear hfz20_6
                try clear hfz20_7
                try clear hfz20_8
                try clear hfz20_9
                try clear hfz21_0
                try clear hfz21_1
                try clear hfz21_10
                try clear hfz21_2
                try clear hfz21_3
                try clear hfz21_4
                try clear hfz21_5
                try clear hfz21_6
                try clear hfz21_7
                try clear hfz21_8
                try clear hfz21_9
                try clear hfz24_0
                try clear hfz24_1
                try clear hfz24_10
                try clear hfz24_2
                try clear hfz24_3
                try clear hfz24_4
                try clear hfz24_5
                try clear hfz24_6
                try clear hfz24_7
                try clear hfz24_8
                try clear hfz24_9
                try clear hfz26_0
                try clear hfz26_1
                try clear hfz26_10
                try clear hfz26_2
                try clear hfz26_3
                try clear hfz26_4
                try clear hfz26_5
                try clear hfz26_6
                try clear hfz26_7
                try clear hfz26_8
                try clear hfz26_9
                try clear hfz29_0
                try clear hfz29_1
                try clear hfz29_10
                try clear hfz29_2
                try clear hfz29_3
                try clear hfz29_4
                try clear hfz29_5
                try clear hfz29_6
                try clear hfz29_7
                try clear hfz29_8
                try clear hfz29_9
                try clear hfz37_0
                try clear hfz37_1
                try clear hfz37_10
                try clear hfz37_2
                try clear hfz37_3
                try clear hfz37_4
                try clear hfz37_5
                try clear hfz37_6
                try clear hfz37_7
                try clear hfz37_8
                try clear hfz37_9
                try clear hfz40_0
                try clear hfz40_1
                try clear hfz40_10
                try clear hfz40_2
                try clear hfz40_3
                try clear hfz40_4
                try clear hfz40_5
                try clear hfz40_6
                try clear hfz40_7
                try clear hfz40_8
                try clear hfz40_9
                try clear hfz43_0
                try clear hfz43_1
                try clear hfz43_10
                try clear hfz43_2
                try clear hfz43_3
                try clear hfz43_4
                try clear hfz43_5
                try clear hfz43_6
                try clear hfz43_7
                try clear hfz43_8
                try clear hfz43_9
                try clear hfz48_0
                try clear hfz48_1
                try clear hfz48_10
                try clear hfz48_2
                try clear hfz48_3
                try clear hfz48_4
                try clear hfz48_5
                try clear hfz48_6
                try clear hfz48_7
                try clear hfz48_8
                try clear hfz48_9
                try clear hfz53_0
                try clear hfz53_1
                try clear hfz53_10
                try clear hfz53_2
                try clear hfz53_3
                try clear hfz53_4
                try clear hfz53_5
                try clear hfz53_6
                try clear hfz53_7
                try clear hfz53_8
                try clear hfz53_9
                try clear hfz56_0
                try clear hfz56_1
                try clear hfz56_10
                try clear hfz56_2
                try clear hfz56_3
                try clear hfz56_4
                try clear hfz56_5
                try clear hfz56_6
                try clear hfz56_7
                try clear hfz56_8
                try clear hfz56_9
                try clear hfz62_0
                try clear hfz62_1
                try clear hfz62_10
                try clear hfz62_2
                try clear hfz62_3
                try clear hfz62_4
                try clear hfz62_5
                try clear hfz62_6
                try clear hfz62_7
                try clear hfz62_8
                try clear hfz62_9
                try clear hfz69_0
                try clear hfz69_1
                try clear hfz69_10
                try clear hfz69_2
                try clear hfz69_3
                try clear hfz69_4
                try clear hfz69_5
                try clear hfz69_6
                try clear hfz69_7
                try clear hfz69_8
                try clear hfz69_9
                try clear hx198_0
                try clear hx66_0
                try clear hx68_0
                try clear p198
                try clear p2
                try clear p6
                try clear p66
                try clear p68
                try clear q198
                try clear q66
                try clear q68
                obtain ⟨x6_5, x9_5, rfl, HA, HK5, HO_6, BK168, HB⟩ := hrel
                cases gk with
                | zero => exact absurd HA.out (by simp [bailiwickref2_Build.l1])
                | succ k5 =>
                 have H := HA.out
                 clear HA
                 simp only [bailiwickref2_Build.l1] at H
                 by_cases c76 : x9_5 < (l0_10.length : Int)
                 ·rw [if_pos c76] at H
                  have c76b0 : decide (x9_5 < (l0_10.length : Int)) = true := decide_eq_true c76
                  clear c76
                  by_cases c77 : 0 ≤ x9_5
                  ·rw [if_pos c77] at H
                   have c77b0 : decide (0 ≤ x9_5) = true := decide_eq_true c77
                   clear c77
                   by_cases c78 : x6_5.length < 140737488355328
                   ·rw [if_pos c78] at H
                    have LMc78 := Aside0.mk c78
                    clear c78
                    obtain ⟨y206, hy206⟩ : ∃ y_ : List Int, y_ = (x6_5 ++ [rd l0_10 x9_5]) := ⟨_, rfl⟩
                    replace H : (bailiwickref2_Build.l1 k5 y206 (wrap64 (x9_5 + 1)) a0_0 a0_1 a0_2 a0_3 a0_4 a0_5 a0_6 a0_7 a0_8 l0_9 l0_10) = some (r1, r2) := by first | (rw [hy206]; with_reducible exact H) | (have H2_ := (Option.bind_some _ _).symm.trans H; rw [hy206]; with_reducible exact H2_) | (have H2_ := (Option.bind_some _ _).symm.trans H; with_reducible exact H2_) | with_reducible exact H | (rw [hy206]; exact H) | exact H
                    have Ny206 := Aside0.mk hy206
                    clear hy206
                    have H' := Aside0.mk H
                    clear H
                    have hcz79_0 : wr.cell? ⟨gb168, 0, none⟩ = some (.int .i64 a0_0) := (blk_cell BK168.out 0).trans rfl
                    have hcz79_1 : wr.cell? ⟨gb168, 1, none⟩ = some (.int .i64 a0_1) := (blk_cell BK168.out 1).trans rfl
                    have hcz79_2 : wr.cell? ⟨gb168, 2, none⟩ = some (.bool a0_2) := (blk_cell BK168.out 2).trans rfl
                    have hcz79_3 : wr.cell? ⟨gb168, 3, none⟩ = some (.bool a0_3) := (blk_cell BK168.out 3).trans rfl
                    have hcz79_4 : wr.cell? ⟨gb168, 4, none⟩ = some (.int .i64 a0_4) := (blk_cell BK168.out 4).trans rfl
                    have hcz79_5 : wr.cell? ⟨gb168, 5, none⟩ = some (.int .i64 a0_5) := (blk_cell BK168.out 5).trans rfl
                    have hcz79_6 : wr.cell? ⟨gb168, 6, none⟩ = some (.int .i64 a0_6) := (blk_cell BK168.out 6).trans rfl
                    have hcz79_7 : wr.cell? ⟨gb168, 7, none⟩ = some (.int .u32 a0_7) := (blk_cell BK168.out 7).trans rfl
                    have hcz79_8 : wr.cell? ⟨gb168, 8, none⟩ = some (.int .u32 a0_8) := (blk_cell BK168.out 8).trans rfl
                    have hcz79_9 : wr.cell? ⟨gb168, 9, none⟩ = some (.slice A0_9 l0_9.length c0_9) := (blk_cell BK168.out 9).trans rfl
                    have hcz79_10 : wr.cell? ⟨gb168, 10, none⟩ = some (.slice A0_10 l0_10.length c0_10) := (blk_cell BK168.out 10).trans rfl
                    have hfz79_0 := blk_frozen BK168.out 0
                    have hfz79_1 := blk_frozen BK168.out 1
                    have hfz79_2 := blk_frozen BK168.out 2
                    have hfz79_3 := blk_frozen BK168.out 3
                    have hfz79_4 := blk_frozen BK168.out 4
                    have hfz79_5 := blk_frozen BK168.out 5
                    have hfz79_6 := blk_frozen BK168.out 6
                    have hfz79_7 := blk_frozen BK168.out 7
                    have hfz79_8 := blk_frozen BK168.out 8
                    have hfz79_9 := blk_frozen BK168.out 9
                    have hfz79_10 := blk_frozen BK168.out 10
                    have p205 : 0 ≤ (x9_5 : Int) := of_decide_eq_true (by first | (with_reducible assumption) | assumption)
                    have q205 : x9_5 < (l0_10.length : Int) := of_decide_eq_true (by first | (with_reducible assumption) | assumption)
                    obtain ⟨ad205, e205, hx205_0⟩ := Kd.at_int HR0_10.out x9_5 p205 q205
                    cases e205
                    replace hx205_0 := (HB.out.cell (World.block_lt_of_cell? w _ hx205_0)).trans hx205_0
                    replace p205 := eq_true p205
                    replace q205 := eq_true q205
                    go_wp2_with (first | ((with_reducible refine gate_builtin (b := .append) (xs := #[.tmp 149, .tmp 155]) rfl ?_); at_builtin; refine Kd.R_append (Kd.int .u8) (w0 := w) w.heap.size rfl (.tmp 149) (.tmp 155) 23 5 (.int .u8 0) 1 rfl Try.underlying23 info5 rfl (by decide) (by omega) u6 x6_5 (rd l0_10 x9_5) [.int .u8 (rd l0_10 x9_5)] (fun _ => True) (fun _ => False) rfl rfl ?aP (fun _ hk => hk.elim) ?aF ?aO ?aB ?aS ?aL ?_; (case aP => exact rfl); (case aB => exact (by repeat (first | (with_reducible first | exact HB.out | apply below_alloc | apply pw_below_drewN | apply below_drew1 | refine below_set ?_ GE168.out) | exact HB.out))); (case aF => exact (fun _ _ => trivial)); (case aO => exact (by (with_reducible repeat (first | apply Kd.R_alloc | apply Kd.R_drewN | apply Kd.R_drew)); exact HO_6.out)); (case aS => exact (below_size (by repeat (first | (with_reducible first | exact HB.out | apply below_alloc | apply pw_below_drewN | apply below_drew1 | refine below_set ?_ GE168.out) | exact HB.out)))); (case aL => have := LMc78.out; omega); intro v207 w80 ho hb hg hat; rw [← Ny206.out] at ho; have n0_ := Aside0.mk (blk_grown (g := gb168) (o := .cells #[.int .i64 a0_0, .int .i64 a0_1, .bool a0_2, .bool a0_3, .int .i64 a0_4, .int .i64 a0_5, .int .i64 a0_6, .int .u32 a0_7, .int .u32 a0_8, .slice A0_9 l0_9.length c0_9, .slice (some ad205) l0_10.length c0_10] 29 (0, 0)) (by (with_reducible repeat (first | refine blk_drewN ?_ _ | refine blk_drew ?_ | refine blk_alloc ?_ _)); exact BK168.out) hg (Kd.R_ne HO_6.out BK168.out (by decide))); have n1_ := Aside0.mk (hb); have n2_ := Aside0.mk (ho); clear BK168; clear HB; clear HO_6; have BK168 := n0_; have HB := n1_; have HO208 := n2_; clear n0_ n1_ n2_; clear ho hb hg hat))
                    go_roundg k5
                    case measure => have := HJ1.out; have := HJ24.out; have := HJ27.out; have := HK4.out; have := HK5.out; omega
                    case rel => exact ⟨(y206), (wrap64 (x9_5 + 1)), (by first | rfl | (simp; done) | (simp [*]; done)), H', ⟨by have := HJ1.out; have := HJ24.out; have := HJ27.out; have := HK4.out; have := HK5.out; omega⟩, ⟨by (with_reducible repeat (first | apply Kd.R_alloc | apply Kd.R_drewN | apply Kd.R_drew)); exact HO208.out⟩, ⟨by (with_reducible repeat (first | refine blk_drewN ?_ _ | refine blk_drew ?_ | refine blk_alloc ?_ _)); exact BK168.out⟩, ⟨by repeat (first | (with_reducible first | exact HB.out | apply below_alloc | apply pw_below_drewN | apply below_drew1 | refine below_set ?_ GE168.out) | exact HB.out)⟩⟩
                   ·rw [if_neg c78] at H
                    exact absurd H (by simp)
                  ·rw [if_neg c77] at H
                   exact absurd H (by simp)
                 ·rw [if_neg c76] at H
                  have c76b0 : decide (x9_5 < (l0_10.length : Int)) = false := decide_eq_false c76
                  clear c76
                  simp only [Option.some.injEq, Prod.mk.injEq] at H
                  obtain ⟨rfl, rfl⟩ := H
                  have hcz81_0 : wr.cell? ⟨gb168, 0, none⟩ = some (.int .i64 a0_0) := (blk_cell BK168.out 0).trans rfl
                  have hcz81_1 : wr.cell? ⟨gb168, 1, none⟩ = some (.int .i64 a0_1) := (blk_cell BK168.out 1).trans rfl
                  have hcz81_2 : wr.cell? ⟨gb168, 2, none⟩ = some (.bool a0_2) := (blk_cell BK168.out 2).trans rfl
                  have hcz81_3 : wr.cell? ⟨gb168, 3, none⟩ = some (.bool a0_3) := (blk_cell BK168.out 3).trans rfl
                  have hcz81_4 : wr.cell? ⟨gb168, 4, none⟩ = some (.int .i64 a0_4) := (blk_cell BK168.out 4).trans rfl
                  have hcz81_5 : wr.cell? ⟨gb168, 5, none⟩ = some (.int .i64 a0_5) := (blk_cell BK168.out 5).trans rfl
                  have hcz81_6 : wr.cell? ⟨gb168, 6, none⟩ = some (.int .i64 a0_6) := (blk_cell BK168.out 6).trans rfl
                  have hcz81_7 : wr.cell? ⟨gb168, 7, none⟩ = some (.int .u32 a0_7) := (blk_cell BK168.out 7).trans rfl
                  have hcz81_8 : wr.cell? ⟨gb168, 8, none⟩ = some (.int .u32 a0_8) := (blk_cell BK168.out 8).trans rfl
                  have hcz81_9 : wr.cell? ⟨gb168, 9, none⟩ = some (.slice A0_9 l0_9.length c0_9) := (blk_cell BK168.out 9).trans rfl
                  have hcz81_10 : wr.cell? ⟨gb168, 10, none⟩ = some (.slice A0_10 l0_10.length c0_10) := (blk_cell BK168.out 10).trans rfl
                  have hfz81_0 := blk_frozen BK168.out 0
                  have hfz81_1 := blk_frozen BK168.out 1
                  have hfz81_2 := blk_frozen BK168.out 2
                  have hfz81_3 := blk_frozen BK168.out 3
                  have hfz81_4 := blk_frozen BK168.out 4
                  have hfz81_5 := blk_frozen BK168.out 5
                  have hfz81_6 := blk_frozen BK168.out 6
                  have hfz81_7 := blk_frozen BK168.out 7
                  have hfz81_8 := blk_frozen BK168.out 8
                  have hfz81_9 := blk_frozen BK168.out 9
                  have hfz81_10 := blk_frozen BK168.out 10
                  go_wp2
                  go_ret2
                  exact ⟨_, by first | rfl | (simp [errW_none, errW_some] <;> rfl) | (simp [*, errW_none, errW_some] <;> rfl), by (with_reducible repeat (first | apply Kd.R_alloc | apply Kd.R_drewN | apply Kd.R_drew)); exact HO_6.out, by repeat (first | (with_reducible first | exact HB.out | apply below_alloc | apply pw_below_drewN | apply below_drew1 | refine below_set ?_ GE168.out) | exact HB.out)⟩
              ·rw [if_neg c67] at H
               exact absurd H (by simp)
             ·rw [if_neg c65] at H
              exact absurd H (by simp)
         ·rw [if_neg c34] at H
          exact absurd H (by simp)

end Go.Proofs.Ytljnnhloinbjhaa.P
