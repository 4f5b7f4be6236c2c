--@ hand
/- IpReads: any text: an address, if it is just its text. -/
import Derived.Test.YthnhpbplglmmmaaDoorPbailiwickref2
import Derived.Test.YthnhpbplglmmmaaDoorPureLibRf
import Derived.Test.YthnhpbplglmmmaaDoorPbailiwicklaw2
namespace Go.Proofs.YthnhpbplglmmmaaDoor.Pure
open Go.RowKit Go.Proofs.YthnhpbplglmmmaaDoor.P Go.Proofs.YthnhpbplglmmmaaDoorW.PrintWords Go.Proofs.YthnhpbplglmmmaaDoorW.PrintLast Go.Proofs.YthnhpbplglmmmaaDoorW.PrintMore
set_option linter.unusedVariables false
set_option linter.unusedSimpArgs false
set_option maxHeartbeats 4000000 in
set_option maxRecDepth 100000 in
theorem IpReads (s : ByteArray) (m : Int) (w : World) (ht : Tab w) (hm : w.cell? ⟨3, 0, none⟩ = some (.int .i64 m)) (he : ErrsAt w) (hs : s.size ≤ 140737488351232) :
    Calls Tryd.prog 4 #[.string s] w fun e w' => e = .returned (.bool true) ∧ Below w.heap.size w w' := by
  have HAW : Aside0 (bailiwicklaw2_awake.f = some true) := ⟨by decide +kernel⟩
  have HB := Aside0.mk (Below.refl w.heap.size w)
  by_cases hbig : (s.size : Int) > 100000
  · have q1 : decide ((s.size : Int) > 100000) = true := decide_eq_true hbig
    have q2 : decide (100000 < s.size) = true := decide_eq_true (by omega)
    have q3 : decide ((100000 : Int) < (s.size : Int)) = true := decide_eq_true hbig
    clear ht hm he hs hbig
    go_enter Tryd.func4, Tryd.ntmps4
    go_wp2_with (first
      | (go_at_call 6; refine (bailiwicklaw2_awake.calls true _ HAW.out).mono ?_; rintro e' w1 ⟨rfl, hb⟩; have n1 := Aside0.mk (HB.out.trans (hb.mono HB.out.size)); clear HB hb; have HB := n1; clear n1))
    go_ret
    exact ⟨rfl, HB.out⟩
  have q1 : decide ((s.size : Int) > 100000) = false := decide_eq_false hbig
  have q2 : decide (100000 < s.size) = false := decide_eq_false (by omega)
  have q3 : decide ((100000 : Int) < (s.size : Int)) = false := decide_eq_false hbig
  have hl : s.size ≤ 100000 := by omega
  obtain ⟨a, ha⟩ : ∃ a, a = (readL s).1 := ⟨_, rfl⟩
  obtain ⟨b, hb⟩ : ∃ b, b = (readL s).2 := ⟨_, rfl⟩
  have HRE : Aside0 (∀ W, Below w.heap.size w W → Calls Tryd.prog 8 #[.string s] W fun e w' => e = .returned (.tuple #[.int .u32 a, .bool b]) ∧ Below W.heap.size W w') := ⟨fun W hb' => by rw [ha, hb]; exact ip_Read.walk s m hl W (ht.below hb') ((hb'.cell (World.block_lt_of_cell? w _ hm)).trans hm) (he.below hb')⟩
  have HRF : Aside0 (bailiwickref2_Read.f 80 s = some (a, b)) := ⟨by rw [rread_to s hl, ← reads_same, ha, hb]⟩
  have hg := read_range s
  rw [← ha] at hg
  have HSH : Aside0 (∀ W, Below w.heap.size w W → Calls Tryd.prog 7 #[.int .u32 a] W fun e w' => e = .returned (.string (toS (showL a))) ∧ Below W.heap.size W w') := ⟨fun W hb => ip_Show.walk a hg.1 hg.2 W (ht.below hb)⟩
  have HC : Aside0 (b = true → toS (showL a) = s) := ⟨fun e => by
    rcases read_cases s with ⟨x, h1, h2⟩ | h1
    · rw [ha, h1]; exact h2
    · rw [hb, h1] at e; cases e⟩
  obtain ⟨S, hS⟩ : ∃ S, S = toS (showL a) := ⟨_, rfl⟩
  rw [← hS] at HSH HC
  clear ht hm he hs hbig hl ha hb hg hS
  cases b with
  | true =>
    have e := HC.out rfl
    have b0 : (S.toList == s.toList) = true := by rw [e]; exact beq_self_eq_true _
    clear HC e
    go_enter Tryd.func4, Tryd.ntmps4
    go_wp2_with (first
      | (go_at_call 6; refine (bailiwicklaw2_awake.calls true _ HAW.out).mono ?_; rintro e' w1 ⟨rfl, hb⟩; have n1 := Aside0.mk (HB.out.trans (hb.mono HB.out.size)); clear HB hb; have HB := n1; clear n1)
      | (go_at_call 7; refine (HSH.out _ HB.out).mono ?_; rintro e' w1 ⟨rfl, hb⟩; have n1 := Aside0.mk (HB.out.trans (hb.mono HB.out.size)); clear HB hb; have HB := n1; clear n1)
      | (go_at_call 8; refine (HRE.out _ HB.out).mono ?_; rintro e' w1 ⟨rfl, hb⟩; have n1 := Aside0.mk (HB.out.trans (hb.mono HB.out.size)); clear HB hb; have HB := n1; clear n1)
      | (go_at_call 10; refine (bailiwickref2_Read.calls 80 s a true _ HRF.out).mono ?_; rintro e' w1 ⟨rfl, hb⟩; have n1 := Aside0.mk (HB.out.trans (hb.mono HB.out.size)); clear HB hb; have HB := n1; clear n1))
    go_ret
    exact ⟨by simp, HB.out⟩
  | false =>
    clear HC
    go_enter Tryd.func4, Tryd.ntmps4
    go_wp2_with (first
      | (go_at_call 6; refine (bailiwicklaw2_awake.calls true _ HAW.out).mono ?_; rintro e' w1 ⟨rfl, hb⟩; have n1 := Aside0.mk (HB.out.trans (hb.mono HB.out.size)); clear HB hb; have HB := n1; clear n1)
      | (go_at_call 8; refine (HRE.out _ HB.out).mono ?_; rintro e' w1 ⟨rfl, hb⟩; have n1 := Aside0.mk (HB.out.trans (hb.mono HB.out.size)); clear HB hb; have HB := n1; clear n1)
      | (go_at_call 10; refine (bailiwickref2_Read.calls 80 s a false _ HRF.out).mono ?_; rintro e' w1 ⟨rfl, hb⟩; have n1 := Aside0.mk (HB.out.trans (hb.mono HB.out.size)); clear HB hb; have HB := n1; clear n1))
    go_ret
    exact ⟨by simp, HB.out⟩
end Go.Proofs.YthnhpbplglmmmaaDoor.Pure
