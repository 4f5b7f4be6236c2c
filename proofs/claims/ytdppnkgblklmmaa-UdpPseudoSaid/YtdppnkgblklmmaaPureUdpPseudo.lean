/- UdpPseudo: the pseudo header is its twelve bytes, of any numbers. No condition. -/
import Derived.Test.YtdppnkgblklmmaaPureLibU
import Derived.Test.YtdppnkgblklmmaaPbailiwicklaw3UdpPseudo
namespace Go.Proofs.Ytdppnkgblklmmaa.Pure
open Go.RowKit Go.Proofs.Ytdppnkgblklmmaa.P Go.Proofs.YtdppnkgblklmmaaW.PrintWords Go.Proofs.YtdppnkgblklmmaaW.PrintLast
set_option linter.unusedVariables false
set_option linter.unusedSimpArgs false
theorem UdpPseudo : bailiwicklaw3_UdpPseudo.Pure := by
  intro s d n hs hd hn
  refine ⟨50, ?_⟩
  have hS := u32_wf hs
  have hD := u32_wf hd
  unfold bailiwicklaw3_UdpPseudo.f
  rw [show bailiwicklaw3_awake.f = some true from rfl, Option.bind_some, if_pos rfl, pseudo_to s d n n hS hD _ (by decide), Option.bind_some, refPseudo_to s d n n hS hD _ (by decide), Option.bind_some, same_to _ (by simp [pseudo]) _ (by simp [pseudo]), Option.bind_some, if_pos rfl, pseudo_to s d 17 n hS hD _ (by decide)]
  rfl
end Go.Proofs.Ytdppnkgblklmmaa.Pure
