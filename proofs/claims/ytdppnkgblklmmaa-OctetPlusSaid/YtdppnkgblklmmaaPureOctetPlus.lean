/- OctetPlus: sums of two words go together in any order and grouping, and Plus and Update are the document's, of any three numbers. No condition. -/
--@ hand
import Derived.Test.YtdppnkgblklmmaaPureLib2
namespace Go.Proofs.Ytdppnkgblklmmaa.Pure
open Go.RowKit Go.Proofs.Ytdppnkgblklmmaa.P Go.Proofs.YtdppnkgblklmmaaW.PrintWords Go.Proofs.YtdppnkgblklmmaaW.PrintLast
set_option linter.unusedVariables false
set_option linter.unusedSimpArgs false
set_option maxHeartbeats 800000 in
set_option maxRecDepth 100000 in
theorem OctetPlus (a b c : Int) (W : World) (_ha : (Lit.int .i64 a).wf = true) (_hb : (Lit.int .i64 b).wf = true) (_hc : (Lit.int .i64 c).wf = true) :
    Calls Try.prog 6 #[.int .i64 a, .int .i64 b, .int .i64 c] W fun e w' => e = .returned (.bool true) ∧ Below W.heap.size W w' := by
  have H0 := Aside0.mk awake1
  have H1 := Aside0.mk (plus_to 6 (Nat.le_refl _) a b)
  have H1' := Aside0.mk (refPlus_to 6 (Nat.le_refl _) a b)
  have H2 := Aside0.mk ((plus_to 6 (Nat.le_refl _) b a).trans (by rw [plus_comm b a]))
  have H3 := Aside0.mk (plus_to 6 (Nat.le_refl _) (plus a b) c)
  have H4 := Aside0.mk (plus_to 6 (Nat.le_refl _) b c)
  have H5 := Aside0.mk ((plus_to 6 (Nat.le_refl _) a (plus b c)).trans (by rw [← plus_assoc a b c]))
  have H6 := Aside0.mk (update_to 6 (Nat.le_refl _) a b c)
  have H6' := Aside0.mk (refUpdate_to 6 (Nat.le_refl _) a b c)
  generalize plus (plus a b) c = p3 at *
  generalize plus b c = p4 at *
  generalize plus a b = p1 at *
  generalize update a b c = u at *
  have HB := Aside0.mk (Below.refl W.heap.size W)
  clear _ha _hb _hc
  go_enter Try.func6, Try.ntmps6
  go_wp2_with (first
    | (go_at_call 22; (with_reducible refine (bailiwicklaw1_awake.calls true _ H0.out).mono ?_); rintro e w1 ⟨rfl, hb⟩; have HB2 := Aside0.mk hb; clear hb)
    | (go_at_call 29; (with_reducible refine (octet_Plus.calls 6 a b p1 _ H1.out).mono ?_); rintro e w' ⟨rfl, ⟨nd, rfl⟩⟩)
    | (go_at_call 29; (with_reducible refine (octet_Plus.calls 6 b a p1 _ H2.out).mono ?_); rintro e w' ⟨rfl, ⟨nd, rfl⟩⟩)
    | (go_at_call 29; (with_reducible refine (octet_Plus.calls 6 p1 c p3 _ H3.out).mono ?_); rintro e w' ⟨rfl, ⟨nd, rfl⟩⟩)
    | (go_at_call 29; (with_reducible refine (octet_Plus.calls 6 b c p4 _ H4.out).mono ?_); rintro e w' ⟨rfl, ⟨nd, rfl⟩⟩)
    | (go_at_call 29; (with_reducible refine (octet_Plus.calls 6 a p4 p3 _ H5.out).mono ?_); rintro e w' ⟨rfl, ⟨nd, rfl⟩⟩)
    | (go_at_call 30; (with_reducible refine (bailiwickref1_Plus.calls 6 a b p1 _ H1'.out).mono ?_); rintro e w' ⟨rfl, ⟨nd, rfl⟩⟩)
    | (go_at_call 31; (with_reducible refine (octet_Update.calls 6 a b c u _ H6.out).mono ?_); rintro e w' ⟨rfl, ⟨nd, rfl⟩⟩)
    | (go_at_call 32; (with_reducible refine (bailiwickref1_Update.calls 6 a b c u _ H6'.out).mono ?_); rintro e w' ⟨rfl, ⟨nd, rfl⟩⟩))
  go_ret
  exact ⟨by first | rfl | (simp; done), by repeat (first | exact HB2.out | apply below_alloc | apply pw_below_drewN | apply below_drew1)⟩
end Go.Proofs.Ytdppnkgblklmmaa.Pure
