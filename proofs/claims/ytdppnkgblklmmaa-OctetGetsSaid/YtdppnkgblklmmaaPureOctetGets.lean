/- OctetGets: of any bytes, place and length the number that is read, and whether it is read, are the document's. No condition. -/
import Derived.Test.YtdppnkgblklmmaaPureLib1
import Derived.Test.YtdppnkgblklmmaaPbailiwicklaw1OctetGets
namespace Go.Proofs.Ytdppnkgblklmmaa.Pure
open Go.RowKit Go.Proofs.Ytdppnkgblklmmaa.P Go.Proofs.YtdppnkgblklmmaaW.PrintWords Go.Proofs.YtdppnkgblklmmaaW.PrintLast
theorem OctetGets : bailiwicklaw1_OctetGets.Pure := by
  intro l a n x hl ha hn hx
  refine ⟨12, ?_⟩
  have h := refGet l a n hl.1 ha hn 12 (Nat.le_refl _)
  unfold bailiwicklaw1_OctetGets.f
  rw [awake1, h]
  simp only [Option.bind_some, if_true]
  unfold octet_Get.f
  split <;> simp
end Go.Proofs.Ytdppnkgblklmmaa.Pure
