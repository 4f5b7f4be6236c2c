--@ hand
/- LineTexts: any kind and end: its text, or what may not be. -/
import Derived.Test.YtnbanjbhjjhkdaaDoorPbailiwickref23Text
import Derived.Test.YtnbanjbhjjhkdaaDoorPureLibTr
import Derived.Test.YtnbanjbhjjhkdaaDoorPbailiwicklaw23
namespace Go.Proofs.YtnbanjbhjjhkdaaDoor.Pure
open Go.RowKit Go.Proofs.YtnbanjbhjjhkdaaDoor.P Go.Proofs.YtnbanjbhjjhkdaaDoorW.PrintWords Go.Proofs.YtnbanjbhjjhkdaaDoorW.PrintLast Go.Proofs.YtnbanjbhjjhkdaaDoorW.PrintMore
set_option linter.unusedVariables false
set_option linter.unusedSimpArgs false
set_option maxHeartbeats 4000000 in
set_option maxRecDepth 100000 in
theorem LineTexts (kind a p m : Int) (w : World) (ht : Tab w) (hm : w.cell? ⟨0, 0, none⟩ = some (.int .i64 m)) (hk : (Lit.int .i64 kind).wf = true) (ha : (Lit.int .u32 a).wf = true) (hp : (Lit.int .i64 p).wf = true) :
    Calls Tryd.prog 3 #[.int .i64 kind, .agg #[.int .u32 a, .int .i64 p]] w fun e w' => e = .returned (.bool true) ∧ Below w.heap.size w w' := by
  have hu26 := Tryd.underlying24
  have h0 : 0 ≤ a ∧ a < 4294967296 := by
    have e1 : IntKind.u32.min = 0 := rfl
    have e2 : IntKind.u32.max = 4294967295 := rfl
    simp [Lit.wf, e1, e2] at ha
    omega
  obtain ⟨S, hS⟩ : ∃ S, S = toS (textL kind a p) := ⟨_, rfl⟩
  obtain ⟨E, hE⟩ : ∃ E, E = textE kind p := ⟨_, rfl⟩
  have HR : Aside0 (bailiwickref23_Text.f 20 kind a p = some (S, E)) := ⟨by rw [hS, hE]; exact rtext_to 20 (by decide) kind a p h0⟩
  have HT := Aside0.mk ht
  have HM := Aside0.mk hm
  have HA := Aside0.mk h0
  have HS := Aside0.mk hS
  have HE := Aside0.mk hE
  obtain ⟨W, hW⟩ : ∃ W, W = w.alloc (.cells #[.int .u32 a, .int .i64 p] 24 (0, 0)) := ⟨_, rfl⟩
  have HP : Aside0 (W.heap[w.heap.size]? = some (.cells #[.int .u32 a, .int .i64 p] 24 (0, 0))) := ⟨by rw [hW]; exact heap_alloc_new _ _⟩
  have HB : Aside0 (Below w.heap.size w W) := ⟨by rw [hW]; exact (Below.refl _ w).alloc (Nat.le_refl _) _⟩
  have hc0 : W.cell? ⟨w.heap.size, 0, none⟩ = some (.int .u32 a) := (blk_cell HP.out 0).trans rfl
  have hc1 : W.cell? ⟨w.heap.size, 1, none⟩ = some (.int .i64 p) := (blk_cell HP.out 1).trans rfl
  have HW := Aside0.mk hW
  clear ht hm h0 hW hS hE hk ha hp
  go_enter Tryd.func3, Tryd.ntmps3
  go_upto_region 1 with (fail)
  rw [← HW.out]
  go_wp2_with (first | (go_at_call 7; refine (bailiwicklaw23_awake.calls true _ rfl).mono ?_; rintro e' w1 ⟨rfl, hb⟩; have n1 : Aside0 (w1.heap[w.heap.size]? = some (.cells #[.int .u32 a, .int .i64 p] 24 (0, 0))) := ⟨(hb.block _ (blk_lt HP.out)).trans HP.out⟩; have n2 := Aside0.mk (HB.out.trans (hb.mono HB.out.size)); clear HP HB hc0 hc1; have HP := n1; have HB := n2; clear n1 n2; have hc0 : w1.cell? ⟨w.heap.size, 0, none⟩ = some (.int .u32 a) := (blk_cell HP.out 0).trans rfl; have hc1 : w1.cell? ⟨w.heap.size, 1, none⟩ = some (.int .i64 p) := (blk_cell HP.out 1).trans rfl; clear hb) | (go_at_call 8; refine (line_Text.calls kind a p m HA.out.1 HA.out.2 _ (HT.out.below HB.out) ((HB.out.cell (World.block_lt_of_cell? w _ HM.out)).trans HM.out)).mono ?_; rintro e' w1 ⟨rfl, hb⟩; have n1 : Aside0 (w1.heap[w.heap.size]? = some (.cells #[.int .u32 a, .int .i64 p] 24 (0, 0))) := ⟨(hb.block _ (blk_lt HP.out)).trans HP.out⟩; have n2 := Aside0.mk (HB.out.trans (hb.mono HB.out.size)); clear HP HB hc0 hc1; have HP := n1; have HB := n2; clear n1 n2; have hc0 : w1.cell? ⟨w.heap.size, 0, none⟩ = some (.int .u32 a) := (blk_cell HP.out 0).trans rfl; have hc1 : w1.cell? ⟨w.heap.size, 1, none⟩ = some (.int .i64 p) := (blk_cell HP.out 1).trans rfl; clear hb; rw [← HS.out, ← HE.out]) | (go_at_call 9; refine (bailiwickref23_Text.calls 20 kind a p S E _ HR.out).mono ?_; rintro e' w1 ⟨rfl, hb⟩; have n1 : Aside0 (w1.heap[w.heap.size]? = some (.cells #[.int .u32 a, .int .i64 p] 24 (0, 0))) := ⟨(hb.block _ (blk_lt HP.out)).trans HP.out⟩; have n2 := Aside0.mk (HB.out.trans (hb.mono HB.out.size)); clear HP HB hc0 hc1; have HP := n1; have HB := n2; clear n1 n2; have hc0 : w1.cell? ⟨w.heap.size, 0, none⟩ = some (.int .u32 a) := (blk_cell HP.out 0).trans rfl; have hc1 : w1.cell? ⟨w.heap.size, 1, none⟩ = some (.int .i64 p) := (blk_cell HP.out 1).trans rfl; clear hb))
  all_goals try (exfalso; omega)
  go_ret
  exact ⟨by simp, HB.out⟩
end Go.Proofs.YtnbanjbhjjhkdaaDoor.Pure
