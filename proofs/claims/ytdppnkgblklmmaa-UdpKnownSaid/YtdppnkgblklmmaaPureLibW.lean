/- Plain lemmas for walks over literals: a block that was just made reads as its list. -/
import Derived.Test.YtdppnkgblklmmaaPureLib4
import Derived.Test.YtdppnkgblklmmaaWWords
namespace Go.Proofs.Ytdppnkgblklmmaa.Pure
open Go.RowKit Go.Proofs.Ytdppnkgblklmmaa.P Go.Proofs.YtdppnkgblklmmaaW.PrintWords Go.Proofs.YtdppnkgblklmmaaW.PrintLast
set_option linter.unusedVariables false
set_option linter.unusedSimpArgs false
theorem C_block {k : IntKind} {W : World} {g t : Nat} {fr : Nat × Nat} {l : List Int} (h : W.heap[g]? = some (.cells (l.map (Value.int k)).toArray t fr)) (hl : l.length ≤ 9223372036854775807) : Kd.C (Kd.int k) W (some ⟨g, 0, none⟩) l.length l := by
  refine Kd.C_of_reads (d := (0 : Int)) ⟨rfl, hl, fun _ => ⟨⟨g, 0, none⟩, rfl, fun j hj => ?_⟩⟩
  have e : (⟨g, 0, none⟩ : Addr).add j = ⟨g, j, none⟩ := by unfold Addr.add; split <;> simp_all
  rw [e, cell_of_row W g j _ t fr h]
  simp [hj]
theorem C_block1 {W : World} {g t e : Nat} {A : Option Addr} {c : Nat} {l : List Int} (h : W.heap[g]? = some (.cells #[.slice A l.length c] t (0, 0))) (hc : l.length ≤ c) (hr : Kd.C (Kd.int .u8) W A l.length l) : Kd.C (Kd.slice e (Kd.int .u8)) W (some ⟨g, 0, none⟩) [l].length [l] := by
  refine ⟨rfl, by simp, fun _ => ⟨⟨g, 0, none⟩, rfl, fun j p hj => ?_⟩⟩
  match j, hj with
  | 0, hj =>
    simp at hj
    subst hj
    refine ⟨[.slice A l.length c], rfl, ⟨A, c, rfl, hc, hr⟩, fun i u hu => ?_⟩
    match i, hu with
    | 0, hu =>
      simp at hu
      subst hu
      have := blk_cell h 0
      simpa [Addr.add] using this
theorem blk_new2 (w : World) (o o' : Obj) : ((w.alloc o).alloc o').heap[w.heap.size + 1]? = some o' := by
  simpa using heap_alloc_new (w.alloc o) o'
theorem C_none {e : Nat} {W : World} : Kd.C (Kd.slice e (Kd.int .u8)) W none ([] : List (List Int)).length [] := Kd.C_nil _ _
end Go.Proofs.Ytdppnkgblklmmaa.Pure
