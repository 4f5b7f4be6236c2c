/- IcmpKinds: what a message is, and its number, are the document's. No condition. -/
import Derived.Test.YtdppnkgblklmmaaPureLibI
import Derived.Test.YtdppnkgblklmmaaPbailiwicklaw5IcmpKinds
namespace Go.Proofs.Ytdppnkgblklmmaa.Pure
open Go.RowKit Go.Proofs.Ytdppnkgblklmmaa.P Go.Proofs.YtdppnkgblklmmaaW.PrintWords Go.Proofs.YtdppnkgblklmmaaW.PrintLast
set_option linter.unusedVariables false
set_option linter.unusedSimpArgs false
theorem kinds_to (t c r : Int) : ∃ x, icmp_Kind.f t c r [] = some x ∧ bailiwickref3_Kind.f 50 t c r [] = some x := by
  unfold icmp_Kind.f bailiwickref3_Kind.f
  by_cases h1 : t = 8
  · subst h1
    by_cases h2 : c = 0
    · subst h2; exact ⟨_, rfl, rfl⟩
    · refine ⟨0, by simp [h2], ?_⟩
      rw [if_pos rfl, beq_eq_false_iff_ne.2 h2]; rfl
  by_cases h3 : t = 0
  · subst h3
    by_cases h2 : c = 0
    · subst h2; exact ⟨_, rfl, rfl⟩
    · refine ⟨0, by simp [h2], ?_⟩
      rw [if_neg (by decide), bailiwickref3_Kind.j0, if_neg (by decide), if_pos rfl, beq_eq_false_iff_ne.2 h2]; rfl
  refine ⟨if t = 3 then 5 else if t = 11 then 5 else if t = 12 then 5 else 0, ?_, ?_⟩
  · rw [if_neg h1, if_neg h3]
    split <;> try rfl
    split <;> try rfl
    split <;> rfl
  · rw [if_neg h1, bailiwickref3_Kind.j0, if_neg (by decide), if_neg h3, bailiwickref3_Kind.j1, if_neg (by decide)]
    split <;> try rfl
    split <;> try rfl
    split <;> rfl
theorem IcmpKinds : bailiwicklaw5_IcmpKinds.Pure := by
  intro t c r ht hc hr
  refine ⟨50, ?_⟩
  obtain ⟨x, h1, h2⟩ := kinds_to t c r
  unfold bailiwicklaw5_IcmpKinds.f
  rw [awake5 50 (by decide), Option.bind_some, if_pos rfl, h1, Option.bind_some, h2, Option.bind_some, if_pos rfl]
  show some (_ == _) = _
  rw [beq_self_eq_true]
end Go.Proofs.Ytdppnkgblklmmaa.Pure
