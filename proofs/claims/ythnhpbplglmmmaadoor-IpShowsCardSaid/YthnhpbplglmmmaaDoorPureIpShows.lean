--@ hand
/- IpShows: each address has one text, that is read back. -/
import Derived.Test.YthnhpbplglmmmaaDoorPbailiwickref2
import Derived.Test.YthnhpbplglmmmaaDoorPureLibRf
import Derived.Test.YthnhpbplglmmmaaDoorPbailiwicklaw2
namespace Go.Proofs.YthnhpbplglmmmaaDoor.Pure
open Go.RowKit Go.Proofs.YthnhpbplglmmmaaDoor.P Go.Proofs.YthnhpbplglmmmaaDoorW.PrintWords Go.Proofs.YthnhpbplglmmmaaDoorW.PrintLast Go.Proofs.YthnhpbplglmmmaaDoorW.PrintMore
set_option linter.unusedVariables false
set_option linter.unusedSimpArgs false
set_option maxHeartbeats 4000000 in
set_option maxRecDepth 100000 in
theorem IpShows (a m : Int) (w : World) (ht : Tab w) (hm : w.cell? ⟨3, 0, none⟩ = some (.int .i64 m)) (he : ErrsAt w) (ha : (Lit.int .u32 a).wf = true) :
    Calls Tryd.prog 3 #[.int .u32 a] w fun e w' => e = .returned (.bool true) ∧ Below w.heap.size w w' := by
  have h0 : 0 ≤ a ∧ a < 4294967296 := by
    have e1 : IntKind.u32.min = 0 := rfl
    have e2 : IntKind.u32.max = 4294967295 := rfl
    simp [Lit.wf, e1, e2] at ha
    omega
  obtain ⟨S, hS⟩ : ∃ S, S = toS (showL a) := ⟨_, rfl⟩
  have HAW : Aside0 (bailiwicklaw2_awake.f = some true) := ⟨by decide +kernel⟩
  have HSH : Aside0 (∀ W, Below w.heap.size w W → Calls Tryd.prog 7 #[.int .u32 a] W fun e w' => e = .returned (.string S) ∧ Below W.heap.size W w') := ⟨fun W hb => by rw [hS]; exact ip_Show.walk a h0.1 h0.2 W (ht.below hb)⟩
  have HRE : Aside0 (∀ W, Below w.heap.size w W → Calls Tryd.prog 8 #[.string S] W fun e w' => e = .returned (.tuple #[.int .u32 a, .bool true]) ∧ Below W.heap.size W w') := ⟨fun W hb => by
    have h := ip_Read.walk S m (by rw [hS, toS_size]; have := show_len a; omega) W (ht.below hb) ((hb.cell (World.block_lt_of_cell? w _ hm)).trans hm) (he.below hb)
    rw [hS, read_show a h0] at h
    rw [hS]
    exact h⟩
  have HRF : Aside0 (bailiwickref2_Show.f 20 a = some S) := ⟨by rw [hS]; exact show_to 20 (by decide) a h0⟩
  have HB := Aside0.mk (Below.refl w.heap.size w)
  have b0 : (S.toList == S.toList) = true := beq_self_eq_true _
  clear ht hm he ha h0 hS
  go_enter Tryd.func3, Tryd.ntmps3
  go_wp2_with (first
    | (go_at_call 6; refine (bailiwicklaw2_awake.calls true _ HAW.out).mono ?_; rintro e' w1 ⟨rfl, hb⟩; have n1 := Aside0.mk (HB.out.trans (hb.mono HB.out.size)); clear HB hb; have HB := n1; clear n1)
    | (go_at_call 7; refine (HSH.out _ HB.out).mono ?_; rintro e' w1 ⟨rfl, hb⟩; have n1 := Aside0.mk (HB.out.trans (hb.mono HB.out.size)); clear HB hb; have HB := n1; clear n1)
    | (go_at_call 8; refine (HRE.out _ HB.out).mono ?_; rintro e' w1 ⟨rfl, hb⟩; have n1 := Aside0.mk (HB.out.trans (hb.mono HB.out.size)); clear HB hb; have HB := n1; clear n1)
    | (go_at_call 9; refine (bailiwickref2_Show.calls 20 a S _ HRF.out).mono ?_; rintro e' w1 ⟨rfl, hb⟩; have n1 := Aside0.mk (HB.out.trans (hb.mono HB.out.size)); clear HB hb; have HB := n1; clear n1))
  go_ret
  exact ⟨by simp, HB.out⟩
end Go.Proofs.YthnhpbplglmmmaaDoor.Pure
