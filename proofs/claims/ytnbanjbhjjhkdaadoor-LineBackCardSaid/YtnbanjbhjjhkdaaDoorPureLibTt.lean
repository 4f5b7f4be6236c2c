/- A walk of line.Text over the shelf's contracts. No statement of its own. -/
import Derived.Test.YtnbanjbhjjhkdaaDoorPureLibTx
namespace Go.Proofs.YtnbanjbhjjhkdaaDoor.P
open Go.RowKit Go.Proofs.YtnbanjbhjjhkdaaDoorW.PrintWords Go.Proofs.YtnbanjbhjjhkdaaDoorW.PrintLast Go.Proofs.YtnbanjbhjjhkdaaDoorW.PrintMore
set_option linter.unusedVariables false
set_option linter.unusedSimpArgs false
def toS (l : List UInt8) : ByteArray := ⟨l.toArray⟩
theorem toS_app (l m : List UInt8) : toS l ++ toS m = toS (l ++ m) := by
  apply ByteArray.ext
  rw [ByteArray.data_append]
  simp [toS]
def textL (kind a p : Int) : List UInt8 :=
  if p < 1 ∨ p > 65535 then [] else if kind = 1 ∨ kind = 3 then Lib.replaceAll (showL a) [46] [44] ++ [44] ++ Lib.itoa (p / 256) ++ [44] ++ Lib.itoa (p % 256) else if kind = 2 then [124, 49, 124] ++ showL a ++ [124] ++ Lib.itoa p ++ [124] else if kind = 4 then [124, 124, 124] ++ Lib.itoa p ++ [124] else []
def textE (kind p : Int) : Int := if p < 1 ∨ p > 65535 then 1 else if kind = 1 ∨ kind = 3 ∨ kind = 2 ∨ kind = 4 then 0 else 1
theorem dd_len5 (u : Nat) (h : u < 100000) : (Lib.decDigits u).length ≤ 5 := by
  rw [Lib.decDigits]
  split
  · simp
  · rw [List.length_append, Lib.decDigits]
    split
    · simp
    · rw [List.length_append]
      have := dd_len (u / 10 / 10) (by omega)
      simp only [List.length_cons, List.length_nil]
      omega
theorem itoa_len5 (x : Int) (h : 0 ≤ x ∧ x ≤ 65535) : (Lib.itoa x).length ≤ 5 := by
  unfold Lib.itoa
  rw [if_neg (by omega)]
  exact dd_len5 _ (by omega)
def dotC (c : UInt8) : UInt8 := if c = 46 then 44 else c
theorem index_mid (pre post : List UInt8) (h : (46 : UInt8) ∉ pre) : Lib.indexByte (pre ++ 46 :: post) 46 = (pre.length : Int) := by
  induction pre with
  | nil => rfl
  | cons x pre ih =>
    rw [List.mem_cons, not_or] at h
    show (if (x == 46) = true then (0 : Int) else if (Lib.indexByte (pre ++ 46 :: post) 46 == -1) = true then -1 else Lib.indexByte (pre ++ 46 :: post) 46 + 1) = _
    rw [ih h.2, if_neg (by rw [beq_iff_eq]; exact fun e => h.1 e.symm), if_neg (by rw [beq_iff_eq]; omega), List.length_cons]
    omega
theorem map_no (s : List UInt8) (h : (46 : UInt8) ∉ s) : s.map dotC = s := by
  conv => rhs; rw [← List.map_id s]
  refine List.map_congr_left fun x hx => ?_
  show (if x = 46 then 44 else x) = x
  rw [if_neg (fun e => h (by rw [← e]; exact hx))]
theorem replaceK_dots : ∀ (n : Nat) (s : List UInt8), s.length ≤ n → Lib.replaceK [46] [44] (s.count 46) s = s.map dotC
  | n, s, hn => by
    by_cases hm : (46 : UInt8) ∈ s
    · obtain ⟨pre, post, rfl, hp⟩ := List.eq_append_cons_of_mem hm
      have hc : (pre ++ 46 :: post).count 46 = post.count 46 + 1 := by
        rw [List.count_append, List.count_cons_self, List.count_eq_zero.mpr hp]
        omega
      rw [hc, Lib.replaceK_hit [46] [44] _ _ pre.length (by rw [Lib.index_one]; exact index_mid pre post hp)]
      have e1 : (pre ++ 46 :: post).take pre.length = pre := by simp
      have e2 : (pre ++ 46 :: post).drop (pre.length + ([46] : List UInt8).length) = post := by
        rw [← List.drop_drop]
        simp
      rw [List.length_append, List.length_cons] at hn
      match n, hn with
      | n + 1, hn =>
        rw [e1, e2, replaceK_dots n post (by omega), List.map_append, List.map_cons, map_no pre hp]
        simp [dotC]
    · rw [List.count_eq_zero.mpr hm, map_no s hm]
      rfl
theorem replace_dots (s : List UInt8) : Lib.replaceAll s [46] [44] = s.map dotC := by
  unfold Lib.replaceAll Lib.replace
  rw [if_neg (by decide)]
  unfold Lib.replaceNum
  rw [if_pos (.inl (by decide)), Lib.count_one]
  exact replaceK_dots s.length s (Nat.le_refl _)
set_option maxHeartbeats 4000000 in
set_option maxRecDepth 100000 in
theorem line_Text.calls (kind a p m : Int) (h0 : 0 ≤ a) (h1 : a < 4294967296) (w : World) (ht : Tab w) (hm : w.cell? ⟨0, 0, none⟩ = some (.int .i64 m)) :
    Calls Tryd.prog 8 #[.int .i64 kind, .agg #[.int .u32 a, .int .i64 p]] w fun e w' => e = .returned (.tuple #[.string (toS (textL kind a p)), .int .i64 (textE kind p)]) ∧ Below w.heap.size w w' := by
  have hu26 := Tryd.underlying24
  have HT := Aside0.mk ht
  have HM := Aside0.mk hm
  have HA := Aside0.mk (And.intro h0 h1)
  obtain ⟨W, hW⟩ : ∃ W, W = w.alloc (.cells #[.int .u32 a, .int .i64 p] 24 (0, 0)) := ⟨_, rfl⟩
  have HP : Aside0 (W.heap[w.heap.size]? = some (.cells #[.int .u32 a, .int .i64 p] 24 (0, 0))) := ⟨by rw [hW]; exact heap_alloc_new _ _⟩
  have HB : Aside0 (Below w.heap.size w W) := ⟨by rw [hW]; exact (Below.refl _ w).alloc (Nat.le_refl _) _⟩
  have hc0 : W.cell? ⟨w.heap.size, 0, none⟩ = some (.int .u32 a) := (blk_cell HP.out 0).trans rfl
  have hc1 : W.cell? ⟨w.heap.size, 1, none⟩ = some (.int .i64 p) := (blk_cell HP.out 1).trans rfl
  have HW := Aside0.mk hW
  clear ht hm h0 h1 hW
  by_cases hp1 : p < 1
  · have q1 : decide (p < 1) = true := decide_eq_true hp1
    have HE : Aside0 (textL kind a p = [] ∧ textE kind p = 1) := ⟨by unfold textL textE; rw [if_pos (.inl hp1), if_pos (.inl hp1)]; exact ⟨rfl, rfl⟩⟩
    clear hp1
    go_enter Tryd.func8, Tryd.ntmps8
    go_upto_region 1 with (fail)
    rw [← HW.out]
    go_wp2_with (fail)
    go_ret2
    exact ⟨by rw [HE.out.1, HE.out.2]; rfl, HB.out⟩
  have q1 : decide (p < 1) = false := decide_eq_false hp1
  by_cases hp2 : p > 65535
  · have q2 : decide (p > 65535) = true := decide_eq_true hp2
    have q2' : decide (65535 < p) = true := decide_eq_true hp2
    have HE : Aside0 (textL kind a p = [] ∧ textE kind p = 1) := ⟨by unfold textL textE; rw [if_pos (.inr hp2), if_pos (.inr hp2)]; exact ⟨rfl, rfl⟩⟩
    clear hp1 hp2
    go_enter Tryd.func8, Tryd.ntmps8
    go_upto_region 1 with (fail)
    rw [← HW.out]
    go_wp2_with (fail)
    go_ret2
    exact ⟨by rw [HE.out.1, HE.out.2]; rfl, HB.out⟩
  have q2 : decide (p > 65535) = false := decide_eq_false hp2
  have q2' : decide (65535 < p) = false := decide_eq_false hp2
  have HPR : Aside0 (1 ≤ p ∧ p ≤ 65535) := ⟨by omega⟩
  have HNB : Aside0 (¬ (p < 1 ∨ p > 65535)) := ⟨by omega⟩
  clear hp1 hp2
  by_cases k4 : kind = 4
  · have HE : Aside0 (textL kind a p = [124, 124, 124] ++ Lib.itoa p ++ [124] ∧ textE kind p = 0) := ⟨by unfold textL textE; subst k4; rw [if_neg HNB.out, if_neg HNB.out]; exact ⟨rfl, rfl⟩⟩
    have z1 : (kind == 1) = false := beq_eq_false_iff_ne.mpr (by omega)
    have z2 : (kind == 2) = false := beq_eq_false_iff_ne.mpr (by omega)
    have z3 : (kind == 3) = false := beq_eq_false_iff_ne.mpr (by omega)
    have z4 : (kind == 4) = true := beq_iff_eq.mpr k4
    clear k4
    go_enter Tryd.func8, Tryd.ntmps8
    go_upto_region 1 with (fail)
    rw [← HW.out]
    have hl5 := itoa_len5 p (by have := HPR.out; omega)
    go_wp2_with (first | (go_at_call 15; refine (Tryd.strconv_Itoa p (by have := HPR.out; omega) (by have := HPR.out; omega) _ (HT.out.below HB.out)).mono ?_; rintro e' w1 ⟨rfl, kk, os, hw⟩; have hb : Below W.heap.size W w1 := (by rw [hw]; exact grow_below W kk os); have n1 : Aside0 (w1.heap[w.heap.size]? = some (.cells #[.int .u32 a, .int .i64 p] 24 (0, 0))) := ⟨(hb.block _ (blk_lt HP.out)).trans HP.out⟩; have n2 := Aside0.mk (HB.out.trans (hb.mono HB.out.size)); clear HP HB hc0 hc1; have HP := n1; have HB := n2; clear n1 n2; have hc0 : w1.cell? ⟨w.heap.size, 0, none⟩ = some (.int .u32 a) := (blk_cell HP.out 0).trans rfl; have hc1 : w1.cell? ⟨w.heap.size, 1, none⟩ = some (.int .i64 p) := (blk_cell HP.out 1).trans rfl; clear hw hb))
    all_goals try (exfalso; omega)
    go_ret2
    exact ⟨by rw [HE.out.1, HE.out.2, ← toS_app, ← toS_app]; rfl, HB.out⟩
  have z4 : (kind == 4) = false := beq_eq_false_iff_ne.mpr k4
  by_cases k2 : kind = 2
  · have HE : Aside0 (textL kind a p = [124, 49, 124] ++ showL a ++ [124] ++ Lib.itoa p ++ [124] ∧ textE kind p = 0) := ⟨by unfold textL textE; subst k2; rw [if_neg HNB.out, if_neg HNB.out]; exact ⟨rfl, rfl⟩⟩
    have z1 : (kind == 1) = false := beq_eq_false_iff_ne.mpr (by omega)
    have z2 : (kind == 2) = true := beq_iff_eq.mpr k2
    have z3 : (kind == 3) = false := beq_eq_false_iff_ne.mpr (by omega)
    clear k4 k2
    go_enter Tryd.func8, Tryd.ntmps8
    go_upto_region 1 with (fail)
    rw [← HW.out]
    have hl5 := itoa_len5 p (by have := HPR.out; omega)
    have hl15 := show_len a
    go_wp2_with (first | (go_at_call 15; refine (Tryd.strconv_Itoa p (by have := HPR.out; omega) (by have := HPR.out; omega) _ (HT.out.below HB.out)).mono ?_; rintro e' w1 ⟨rfl, kk, os, hw⟩; have hb : Below W.heap.size W w1 := (by rw [hw]; exact grow_below W kk os); have n1 : Aside0 (w1.heap[w.heap.size]? = some (.cells #[.int .u32 a, .int .i64 p] 24 (0, 0))) := ⟨(hb.block _ (blk_lt HP.out)).trans HP.out⟩; have n2 := Aside0.mk (HB.out.trans (hb.mono HB.out.size)); clear HP HB hc0 hc1; have HP := n1; have HB := n2; clear n1 n2; have hc0 : w1.cell? ⟨w.heap.size, 0, none⟩ = some (.int .u32 a) := (blk_cell HP.out 0).trans rfl; have hc1 : w1.cell? ⟨w.heap.size, 1, none⟩ = some (.int .i64 p) := (blk_cell HP.out 1).trans rfl; clear hw hb) | (go_at_call 17; refine (ip_Show.calls a HA.out.1 HA.out.2 _ (HT.out.below HB.out)).mono ?_; rintro e' w1 ⟨rfl, hb⟩; have n1 : Aside0 (w1.heap[w.heap.size]? = some (.cells #[.int .u32 a, .int .i64 p] 24 (0, 0))) := ⟨(hb.block _ (blk_lt HP.out)).trans HP.out⟩; have n2 := Aside0.mk (HB.out.trans (hb.mono HB.out.size)); clear HP HB hc0 hc1; have HP := n1; have HB := n2; clear n1 n2; have hc0 : w1.cell? ⟨w.heap.size, 0, none⟩ = some (.int .u32 a) := (blk_cell HP.out 0).trans rfl; have hc1 : w1.cell? ⟨w.heap.size, 1, none⟩ = some (.int .i64 p) := (blk_cell HP.out 1).trans rfl; clear hb))
    all_goals try (exfalso; omega)
    go_ret2
    exact ⟨by rw [HE.out.1, HE.out.2, ← toS_app, ← toS_app, ← toS_app, ← toS_app]; rfl, HB.out⟩
  have z2 : (kind == 2) = false := beq_eq_false_iff_ne.mpr k2
  by_cases k13 : kind = 1 ∨ kind = 3
  case neg =>
    have HE : Aside0 (textL kind a p = [] ∧ textE kind p = 1) := ⟨by unfold textL textE; rw [if_neg HNB.out, if_neg HNB.out, if_neg k13, if_neg k2, if_neg k4, if_neg (by omega)]; exact ⟨rfl, rfl⟩⟩
    have z1 : (kind == 1) = false := beq_eq_false_iff_ne.mpr (by omega)
    have z3 : (kind == 3) = false := beq_eq_false_iff_ne.mpr (by omega)
    clear k4 k2 k13
    go_enter Tryd.func8, Tryd.ntmps8
    go_upto_region 1 with (fail)
    rw [← HW.out]
    go_wp2_with (first | (go_at_call 15; refine (Tryd.strconv_Itoa p (by have := HPR.out; omega) (by have := HPR.out; omega) _ (HT.out.below HB.out)).mono ?_; rintro e' w1 ⟨rfl, kk, os, hw⟩; have hb : Below W.heap.size W w1 := (by rw [hw]; exact grow_below W kk os); have n1 : Aside0 (w1.heap[w.heap.size]? = some (.cells #[.int .u32 a, .int .i64 p] 24 (0, 0))) := ⟨(hb.block _ (blk_lt HP.out)).trans HP.out⟩; have n2 := Aside0.mk (HB.out.trans (hb.mono HB.out.size)); clear HP HB hc0 hc1; have HP := n1; have HB := n2; clear n1 n2; have hc0 : w1.cell? ⟨w.heap.size, 0, none⟩ = some (.int .u32 a) := (blk_cell HP.out 0).trans rfl; have hc1 : w1.cell? ⟨w.heap.size, 1, none⟩ = some (.int .i64 p) := (blk_cell HP.out 1).trans rfl; clear hw hb))
    go_ret2
    exact ⟨by rw [HE.out.1, HE.out.2]; rfl, HB.out⟩
  obtain ⟨SH, hSH⟩ : ∃ S, S = toS (showL a) := ⟨_, rfl⟩
  obtain ⟨RP, hRP⟩ : ∃ S, S = toS (Lib.replaceAll (showL a) [46] [44]) := ⟨_, rfl⟩
  obtain ⟨I1, hI1⟩ : ∃ S, S = toS (Lib.itoa (p / 256)) := ⟨_, rfl⟩
  obtain ⟨I2, hI2⟩ : ∃ S, S = toS (Lib.itoa (p % 256)) := ⟨_, rfl⟩
  have HE : Aside0 (toS (textL kind a p) = RP ++ toS [44] ++ I1 ++ toS [44] ++ I2 ∧ textE kind p = 0) := ⟨by unfold textL textE; rw [if_neg HNB.out, if_neg HNB.out, if_pos k13, if_pos (by omega), hRP, hI1, hI2, toS_app, toS_app, toS_app, toS_app]; exact ⟨rfl, rfl⟩⟩
  obtain ⟨x1, hx1⟩ : ∃ x, x = p / 256 := ⟨_, rfl⟩
  obtain ⟨x2, hx2⟩ : ∃ x, x = p % 256 := ⟨_, rfl⟩
  have HXX : Aside0 (0 ≤ x1 ∧ x1 ≤ 255 ∧ 0 ≤ x2 ∧ x2 ≤ 255) := ⟨by have := HPR.out; omega⟩
  have r1 : p / 256 = x1 := hx1.symm
  have r2 : Go.bits .and .i64 p 255 = x2 := by rw [hx2]; exact and255i p
  rw [← hx1] at hI1
  rw [← hx2] at hI2
  have s0 : RP.size ≤ 15 := by rw [hRP, replace_dots]; show ((showL a).map _).toArray.size ≤ 15; simp; exact show_len a
  have s1 : I1.size ≤ 3 := by rw [hI1]; show (Lib.itoa x1).toArray.size ≤ 3; simpa using itoa_len x1 (by have := HXX.out; omega)
  have s2 : I2.size ≤ 3 := by rw [hI2]; show (Lib.itoa x2).toArray.size ≤ 3; simpa using itoa_len x2 (by have := HXX.out; omega)
  have t1 : ¬ (9223372036854775807 < RP.size + 1) := by omega
  have t2 : ¬ (9223372036854775807 < RP.size + 1 + I1.size) := by omega
  have t3 : ¬ (9223372036854775807 < RP.size + 1 + I1.size + 1) := by omega
  have t4 : ¬ (9223372036854775807 < RP.size + 1 + I1.size + 1 + I2.size) := by omega
  have HSH := Aside0.mk hSH
  have HRP := Aside0.mk hRP
  have HI1 := Aside0.mk hI1
  have HI2 := Aside0.mk hI2
  clear hSH hRP hI1 hI2 s0 s1 s2 hx1 hx2
  have z2 : (kind == 2) = false := beq_eq_false_iff_ne.mpr k2
  by_cases k1 : kind = 1
  · have z1 : (kind == 1) = true := beq_iff_eq.mpr k1
    clear k1 k13 k2 k4
    go_enter Tryd.func8, Tryd.ntmps8
    go_upto_region 1 with (fail)
    rw [← HW.out]
    go_upto_region 7 with (first | (go_at_call 15; refine (Tryd.strconv_Itoa p (by have := HPR.out; omega) (by have := HPR.out; omega) _ (HT.out.below HB.out)).mono ?_; rintro e' w1 ⟨rfl, kk, os, hw⟩; have hb : Below W.heap.size W w1 := (by rw [hw]; exact grow_below W kk os); have n1 : Aside0 (w1.heap[w.heap.size]? = some (.cells #[.int .u32 a, .int .i64 p] 24 (0, 0))) := ⟨(hb.block _ (blk_lt HP.out)).trans HP.out⟩; have n2 := Aside0.mk (HB.out.trans (hb.mono HB.out.size)); clear HP HB hc0 hc1; have HP := n1; have HB := n2; clear n1 n2; have hc0 : w1.cell? ⟨w.heap.size, 0, none⟩ = some (.int .u32 a) := (blk_cell HP.out 0).trans rfl; have hc1 : w1.cell? ⟨w.heap.size, 1, none⟩ = some (.int .i64 p) := (blk_cell HP.out 1).trans rfl; clear hw hb))
    clear hc0 hc1
    have HRA0 : ∀ W, Below w.heap.size w W → Calls Tryd.prog 16 #[.string SH, .string ⟨#[46]⟩, .string ⟨#[44]⟩] W fun e w' => e = .returned (.string RP) ∧ Below W.heap.size W w' := fun W hW => by
      have h := Tryd.strings_ReplaceAll SH ⟨#[46]⟩ ⟨#[44]⟩ m W (by rw [HSH.out]; have := show_len a; show (showL a).toArray.size < _; simp; omega) ((hW.cell (World.block_lt_of_cell? w _ HM.out)).trans HM.out) (by decide) (by
        have e1 : Lib.countB SH ⟨#[46]⟩ ≤ 15 := by
          rw [HSH.out]
          show Lib.count (showL a).toArray.toList [46] ≤ 15
          rw [List.toList_toArray, Lib.count_one]
          exact Nat.le_trans List.count_le_length (show_len a)
        have e2 : SH.size ≤ 15 := by rw [HSH.out]; show (showL a).toArray.size ≤ 15; simpa using show_len a
        show SH.size + Lib.countB SH ⟨#[46]⟩ * 1 ≤ _
        omega)
      rw [show SH.data.toList = showL a from by rw [HSH.out]; exact List.toList_toArray ..] at h
      rw [HRP.out]
      exact h
    have HIT : ∀ W x, (0 ≤ x ∧ x ≤ 255) → Below w.heap.size w W → Calls Tryd.prog 15 #[.int .i64 x] W fun e w' => e = .returned (.string ⟨(Lib.itoa x).toArray⟩) ∧ Below W.heap.size W w' := fun W x hx hW =>
      (Tryd.strconv_Itoa x (by omega) (by omega) W (HT.out.below hW)).mono fun e w' hh => ⟨hh.1, by obtain ⟨kk, os, rfl⟩ := hh.2; exact grow_below W kk os⟩
    have HIA : Aside0 (∀ W, Below w.heap.size w W → Calls Tryd.prog 15 #[.int .i64 x1] W fun e w' => e = .returned (.string I1) ∧ Below W.heap.size W w') := ⟨fun W hW => by rw [HI1.out]; exact HIT W x1 (by have := HXX.out; omega) hW⟩
    have HIB : Aside0 (∀ W, Below w.heap.size w W → Calls Tryd.prog 15 #[.int .i64 x2] W fun e w' => e = .returned (.string I2) ∧ Below W.heap.size W w') := ⟨fun W hW => by rw [HI2.out]; exact HIT W x2 (by have := HXX.out; omega) hW⟩
    have HSW : Aside0 (∀ W, Below w.heap.size w W → Calls Tryd.prog 17 #[.int .u32 a] W fun e w' => e = .returned (.string SH) ∧ Below W.heap.size W w') := ⟨fun W hW => by rw [HSH.out]; exact ip_Show.calls a HA.out.1 HA.out.2 W (HT.out.below hW)⟩
    have HRA := Aside0.mk HRA0
    clear HRA0 HIT
    refine wp_region_noPanic ?_
    go_region_held3 (fun w' => w'.cell? ⟨w.heap.size, 0, none⟩ = some (.int .u32 a) ∧ w'.cell? ⟨w.heap.size, 1, none⟩ = some (.int .i64 p))
      (first | exact ⟨(blk_cell HP.out 0).trans rfl, (blk_cell HP.out 1).trans rfl⟩ | go_keep)
      (first
        | (refine goes_ (f := 17) Tryd.func17 (by kernel_rfl) rfl #[.int .u32 a] (by rfl) rfl rfl ?ha ?_
           (case ha => first | rfl | (go_simp; done) | (simp [Act.eval]; done))
           refine (HSW.out _ ?hb).mono ?_
           (case hb => first | exact HB.out | exact below_drew HB.out)
           rintro e v1 ⟨rfl, hb⟩
           refine ⟨_, rfl, ?_⟩
           have n1 : Aside0 (v1.heap[w.heap.size]? = some (.cells #[.int .u32 a, .int .i64 p] 24 (0, 0))) := ⟨(hb.block _ (blk_lt HP.out)).trans HP.out⟩
           have n2 : Aside0 (Below w.heap.size w v1) := Aside0.mk (by first | exact HB.out.trans (hb.mono HB.out.size) | exact (below_drew HB.out).trans (hb.mono (below_drew HB.out).size))
           clear HP HB hb
           have HP := n1
           have HB := n2
           clear n1 n2)
        | (refine goes_ (f := 16) Tryd.func16 (by kernel_rfl) rfl #[.string SH, .string ⟨#[46]⟩, .string ⟨#[44]⟩] (by rfl) rfl rfl ?ha ?_
           (case ha => first | rfl | (go_simp; done) | (simp [Act.eval]; done))
           refine (HRA.out _ ?hb).mono ?_
           (case hb => first | exact HB.out | exact below_drew HB.out)
           rintro e v2 ⟨rfl, hb⟩
           refine ⟨_, rfl, ?_⟩
           have n1 : Aside0 (v2.heap[w.heap.size]? = some (.cells #[.int .u32 a, .int .i64 p] 24 (0, 0))) := ⟨(hb.block _ (blk_lt HP.out)).trans HP.out⟩
           have n2 : Aside0 (Below w.heap.size w v2) := Aside0.mk (by first | exact HB.out.trans (hb.mono HB.out.size) | exact (below_drew HB.out).trans (hb.mono (below_drew HB.out).size))
           clear HP HB hb
           have HP := n1
           have HB := n2
           clear n1 n2)
        | (refine goes_ (f := 15) Tryd.func15 (by kernel_rfl) rfl #[.int .i64 x1] (by rfl) rfl rfl ?ha ?_
           (case ha => first | rfl | (go_simp; done) | (simp [Act.eval]; done))
           refine (HIA.out _ ?hb).mono ?_
           (case hb => first | exact HB.out | exact below_drew HB.out)
           rintro e v3 ⟨rfl, hb⟩
           refine ⟨_, rfl, ?_⟩
           have n1 : Aside0 (v3.heap[w.heap.size]? = some (.cells #[.int .u32 a, .int .i64 p] 24 (0, 0))) := ⟨(hb.block _ (blk_lt HP.out)).trans HP.out⟩
           have n2 : Aside0 (Below w.heap.size w v3) := Aside0.mk (by first | exact HB.out.trans (hb.mono HB.out.size) | exact (below_drew HB.out).trans (hb.mono (below_drew HB.out).size))
           clear HP HB hb
           have HP := n1
           have HB := n2
           clear n1 n2)
        | (refine goes_ (f := 15) Tryd.func15 (by kernel_rfl) rfl #[.int .i64 x2] (by rfl) rfl rfl ?ha ?_
           (case ha => first | rfl | (go_simp; done) | (simp [Act.eval]; done))
           refine (HIB.out _ ?hb).mono ?_
           (case hb => first | exact HB.out | exact below_drew HB.out)
           rintro e v4 ⟨rfl, hb⟩
           refine ⟨_, rfl, ?_⟩
           have n1 : Aside0 (v4.heap[w.heap.size]? = some (.cells #[.int .u32 a, .int .i64 p] 24 (0, 0))) := ⟨(hb.block _ (blk_lt HP.out)).trans HP.out⟩
           have n2 : Aside0 (Below w.heap.size w v4) := Aside0.mk (by first | exact HB.out.trans (hb.mono HB.out.size) | exact (below_drew HB.out).trans (hb.mono (below_drew HB.out).size))
           clear HP HB hb
           have HP := n1
           have HB := n2
           clear n1 n2))
    all_goals (
      refine NoPanic.normal ?_
      go_wp2_with (fail)
      go_ret2
      exact ⟨by rw [HE.out.1, HE.out.2]; rfl, HB.out⟩)
  have z1 : (kind == 1) = false := beq_eq_false_iff_ne.mpr k1
  have z3 : (kind == 3) = true := beq_iff_eq.mpr (k13.resolve_left k1)
  clear k1 k13 k2 k4
  go_enter Tryd.func8, Tryd.ntmps8
  go_upto_region 1 with (fail)
  rw [← HW.out]
  go_upto_region 7 with (first | (go_at_call 15; refine (Tryd.strconv_Itoa p (by have := HPR.out; omega) (by have := HPR.out; omega) _ (HT.out.below HB.out)).mono ?_; rintro e' w1 ⟨rfl, kk, os, hw⟩; have hb : Below W.heap.size W w1 := (by rw [hw]; exact grow_below W kk os); have n1 : Aside0 (w1.heap[w.heap.size]? = some (.cells #[.int .u32 a, .int .i64 p] 24 (0, 0))) := ⟨(hb.block _ (blk_lt HP.out)).trans HP.out⟩; have n2 := Aside0.mk (HB.out.trans (hb.mono HB.out.size)); clear HP HB hc0 hc1; have HP := n1; have HB := n2; clear n1 n2; have hc0 : w1.cell? ⟨w.heap.size, 0, none⟩ = some (.int .u32 a) := (blk_cell HP.out 0).trans rfl; have hc1 : w1.cell? ⟨w.heap.size, 1, none⟩ = some (.int .i64 p) := (blk_cell HP.out 1).trans rfl; clear hw hb))
  clear hc0 hc1
  have HRA0 : ∀ W, Below w.heap.size w W → Calls Tryd.prog 16 #[.string SH, .string ⟨#[46]⟩, .string ⟨#[44]⟩] W fun e w' => e = .returned (.string RP) ∧ Below W.heap.size W w' := fun W hW => by
    have h := Tryd.strings_ReplaceAll SH ⟨#[46]⟩ ⟨#[44]⟩ m W (by rw [HSH.out]; have := show_len a; show (showL a).toArray.size < _; simp; omega) ((hW.cell (World.block_lt_of_cell? w _ HM.out)).trans HM.out) (by decide) (by
      have e1 : Lib.countB SH ⟨#[46]⟩ ≤ 15 := by
        rw [HSH.out]
        show Lib.count (showL a).toArray.toList [46] ≤ 15
        rw [List.toList_toArray, Lib.count_one]
        exact Nat.le_trans List.count_le_length (show_len a)
      have e2 : SH.size ≤ 15 := by rw [HSH.out]; show (showL a).toArray.size ≤ 15; simpa using show_len a
      show SH.size + Lib.countB SH ⟨#[46]⟩ * 1 ≤ _
      omega)
    rw [show SH.data.toList = showL a from by rw [HSH.out]; exact List.toList_toArray ..] at h
    rw [HRP.out]
    exact h
  have HIT : ∀ W x, (0 ≤ x ∧ x ≤ 255) → Below w.heap.size w W → Calls Tryd.prog 15 #[.int .i64 x] W fun e w' => e = .returned (.string ⟨(Lib.itoa x).toArray⟩) ∧ Below W.heap.size W w' := fun W x hx hW =>
    (Tryd.strconv_Itoa x (by omega) (by omega) W (HT.out.below hW)).mono fun e w' hh => ⟨hh.1, by obtain ⟨kk, os, rfl⟩ := hh.2; exact grow_below W kk os⟩
  have HIA : Aside0 (∀ W, Below w.heap.size w W → Calls Tryd.prog 15 #[.int .i64 x1] W fun e w' => e = .returned (.string I1) ∧ Below W.heap.size W w') := ⟨fun W hW => by rw [HI1.out]; exact HIT W x1 (by have := HXX.out; omega) hW⟩
  have HIB : Aside0 (∀ W, Below w.heap.size w W → Calls Tryd.prog 15 #[.int .i64 x2] W fun e w' => e = .returned (.string I2) ∧ Below W.heap.size W w') := ⟨fun W hW => by rw [HI2.out]; exact HIT W x2 (by have := HXX.out; omega) hW⟩
  have HSW : Aside0 (∀ W, Below w.heap.size w W → Calls Tryd.prog 17 #[.int .u32 a] W fun e w' => e = .returned (.string SH) ∧ Below W.heap.size W w') := ⟨fun W hW => by rw [HSH.out]; exact ip_Show.calls a HA.out.1 HA.out.2 W (HT.out.below hW)⟩
  have HRA := Aside0.mk HRA0
  clear HRA0 HIT
  refine wp_region_noPanic ?_
  go_region_held3 (fun w' => w'.cell? ⟨w.heap.size, 0, none⟩ = some (.int .u32 a) ∧ w'.cell? ⟨w.heap.size, 1, none⟩ = some (.int .i64 p))
    (first | exact ⟨(blk_cell HP.out 0).trans rfl, (blk_cell HP.out 1).trans rfl⟩ | go_keep)
    (first
      | (refine goes_ (f := 17) Tryd.func17 (by kernel_rfl) rfl #[.int .u32 a] (by rfl) rfl rfl ?ha ?_
         (case ha => first | rfl | (go_simp; done) | (simp [Act.eval]; done))
         refine (HSW.out _ ?hb).mono ?_
         (case hb => first | exact HB.out | exact below_drew HB.out)
         rintro e v1 ⟨rfl, hb⟩
         refine ⟨_, rfl, ?_⟩
         have n1 : Aside0 (v1.heap[w.heap.size]? = some (.cells #[.int .u32 a, .int .i64 p] 24 (0, 0))) := ⟨(hb.block _ (blk_lt HP.out)).trans HP.out⟩
         have n2 : Aside0 (Below w.heap.size w v1) := Aside0.mk (by first | exact HB.out.trans (hb.mono HB.out.size) | exact (below_drew HB.out).trans (hb.mono (below_drew HB.out).size))
         clear HP HB hb
         have HP := n1
         have HB := n2
         clear n1 n2)
      | (refine goes_ (f := 16) Tryd.func16 (by kernel_rfl) rfl #[.string SH, .string ⟨#[46]⟩, .string ⟨#[44]⟩] (by rfl) rfl rfl ?ha ?_
         (case ha => first | rfl | (go_simp; done) | (simp [Act.eval]; done))
         refine (HRA.out _ ?hb).mono ?_
         (case hb => first | exact HB.out | exact below_drew HB.out)
         rintro e v2 ⟨rfl, hb⟩
         refine ⟨_, rfl, ?_⟩
         have n1 : Aside0 (v2.heap[w.heap.size]? = some (.cells #[.int .u32 a, .int .i64 p] 24 (0, 0))) := ⟨(hb.block _ (blk_lt HP.out)).trans HP.out⟩
         have n2 : Aside0 (Below w.heap.size w v2) := Aside0.mk (by first | exact HB.out.trans (hb.mono HB.out.size) | exact (below_drew HB.out).trans (hb.mono (below_drew HB.out).size))
         clear HP HB hb
         have HP := n1
         have HB := n2
         clear n1 n2)
      | (refine goes_ (f := 15) Tryd.func15 (by kernel_rfl) rfl #[.int .i64 x1] (by rfl) rfl rfl ?ha ?_
         (case ha => first | rfl | (go_simp; done) | (simp [Act.eval]; done))
         refine (HIA.out _ ?hb).mono ?_
         (case hb => first | exact HB.out | exact below_drew HB.out)
         rintro e v3 ⟨rfl, hb⟩
         refine ⟨_, rfl, ?_⟩
         have n1 : Aside0 (v3.heap[w.heap.size]? = some (.cells #[.int .u32 a, .int .i64 p] 24 (0, 0))) := ⟨(hb.block _ (blk_lt HP.out)).trans HP.out⟩
         have n2 : Aside0 (Below w.heap.size w v3) := Aside0.mk (by first | exact HB.out.trans (hb.mono HB.out.size) | exact (below_drew HB.out).trans (hb.mono (below_drew HB.out).size))
         clear HP HB hb
         have HP := n1
         have HB := n2
         clear n1 n2)
      | (refine goes_ (f := 15) Tryd.func15 (by kernel_rfl) rfl #[.int .i64 x2] (by rfl) rfl rfl ?ha ?_
         (case ha => first | rfl | (go_simp; done) | (simp [Act.eval]; done))
         refine (HIB.out _ ?hb).mono ?_
         (case hb => first | exact HB.out | exact below_drew HB.out)
         rintro e v4 ⟨rfl, hb⟩
         refine ⟨_, rfl, ?_⟩
         have n1 : Aside0 (v4.heap[w.heap.size]? = some (.cells #[.int .u32 a, .int .i64 p] 24 (0, 0))) := ⟨(hb.block _ (blk_lt HP.out)).trans HP.out⟩
         have n2 : Aside0 (Below w.heap.size w v4) := Aside0.mk (by first | exact HB.out.trans (hb.mono HB.out.size) | exact (below_drew HB.out).trans (hb.mono (below_drew HB.out).size))
         clear HP HB hb
         have HP := n1
         have HB := n2
         clear n1 n2))
  all_goals (
    refine NoPanic.normal ?_
    go_wp2_with (fail)
    go_ret2
    exact ⟨by rw [HE.out.1, HE.out.2]; rfl, HB.out⟩)
end Go.Proofs.YtnbanjbhjjhkdaaDoor.P
