/- TcpTurned: a bit that is turned behind the header's length is found. No condition. -/
import Derived.Test.YthnhpbplglmmmaaPureLibTB
import Derived.Test.YthnhpbplglmmmaaPbailiwicklaw4TcpTurned
namespace Go.Proofs.Ythnhpbplglmmmaa.Pure
open Go.RowKit Go.Proofs.Ythnhpbplglmmmaa.P Go.Proofs.YthnhpbplglmmmaaW.PrintWords Go.Proofs.YthnhpbplglmmmaaW.PrintLast
set_option linter.unusedVariables false
set_option linter.unusedSimpArgs false
theorem t_turned (s d : Int) (l : List Int) (i : Nat) (v : Int) (hb : Bytes l) (hi : i < l.length) (hs : tSum s d l = 65535) (h0 : 0 ≤ v) (h1 : v < 256) (hv : v ≠ rd l i) : Bytes (l.set i v) ∧ tSum s d (l.set i v) ≠ 65535 := by
  have hB := (pseudo_bytes s d 6 (l.length : Int)).append hb
  have e : (pseudo s d 6 (l.length : Int) ++ l).set (12 + i) v = pseudo s d 6 (l.length : Int) ++ l.set i v := by
    rw [List.set_append_right _ _ (by simp [pseudo])]
    simp [pseudo]
  have er : rd (pseudo s d 6 (l.length : Int) ++ l) ((12 + i : Nat) : Int) = rd l i := by
    rw [rd_getD, rd_getD]
    have : ∀ p : List Int, p.length = 12 → (p ++ l).getD (12 + i) 0 = l.getD i 0 := fun p hp => by
      rw [List.getD_eq_getElem?_getD, List.getD_eq_getElem?_getD, List.getElem?_append_right (by omega), hp, Nat.add_sub_cancel_left]
    exact this _ rfl
  have := flip_sum _ (12 + i) v hB (by rw [List.length_append]; simp [pseudo]; omega) hs h0 h1 (by rw [er]; exact hv)
  rw [e] at this
  refine ⟨bytes_set hb i v h0 h1, ?_⟩
  unfold tSum
  rw [List.length_set]
  exact this.2
theorem TcpTurned : bailiwicklaw4_TcpTurned.Pure := by
  intro s d sp dp seq ack fl wi ur opts data t hs hd hsp hdp hseq hack hfl hwi hur ho hl ht
  have hS := u32_wf hs
  have hD := u32_wf hd
  have hSQ := u32_wf hseq
  have hAK := u32_wf hack
  have hO := bytes_of ho.2.2
  have hB := bytes_of hl.2.2
  have hT := i64_wf ht
  unfold bailiwicklaw4_TcpTurned.f
  rw [show bailiwicklaw4_awake.f = some true from by decide +kernel, Option.bind_some, if_pos rfl]
  unfold bailiwicklaw4_small.f
  by_cases h1 : (data.length : Int) ≤ 5000
  case neg => rw [if_neg h1, Option.bind_some, if_neg (by decide)]
  rw [if_pos h1, Option.bind_some]
  by_cases h2 : (opts.length : Int) ≤ 5000
  case neg => rw [decide_eq_false h2, if_neg (by decide)]
  rw [if_pos (decide_eq_true h2), tBuild_to s d sp dp seq ack fl wi ur opts data hS hD hSQ hAK hO hB, Option.bind_some]
  by_cases h3 : tOk sp dp fl wi ur opts
  case neg => rw [show tBuild s d sp dp seq ack fl wi ur opts data = ([], 1) by unfold tBuild; rw [if_neg h3]]; rfl
  by_cases h4 : (data.length : Int) > 2008 - (opts.length : Int)
  · rw [show tBuild s d sp dp seq ack fl wi ur opts data = ([], 3) by unfold tBuild; rw [if_pos h3, if_pos h4]]; rfl
  have e : tBuild s d sp dp seq ack fl wi ur opts data = (tBytes s d sp dp seq ack fl wi ur opts data, 0) := by unfold tBuild; rw [if_pos h3, if_neg h4]
  have hn : (tBytes s d sp dp seq ack fl wi ur opts data).length = 20 + opts.length + data.length := tMsg_len ..
  rw [e]
  dsimp only
  rw [if_pos rfl]
  by_cases c0 : t < 0
  · rw [if_pos c0]
  have ed : wrap64 (Int.tdiv t 8) = t / 8 := by rw [Int.tdiv_eq_ediv_of_nonneg (by omega), w64 (by omega) (by omega)]
  have em : Int.tmod t 8 = t % 8 := Int.tmod_eq_emod_of_nonneg (by omega)
  rw [if_neg c0, ed, em]
  by_cases c1 : t / 8 ≥ ((tBytes s d sp dp seq ack fl wi ur opts data).length : Int)
  · rw [if_pos c1]
  by_cases c2 : t / 8 = 12
  · rw [if_neg c1, if_pos c2]
  have eu : IntKind.u64.wrap (t % 8) = t % 8 := by rw [wrap_u64, Int.emod_eq_of_lt (by omega) (by omega)]
  rw [if_neg c1, if_neg c2, if_pos (by omega), if_pos (by omega), if_pos (by rw [eu]; omega)]
  obtain ⟨i, hi⟩ := Int.eq_ofNat_of_zero_le (show 0 ≤ t / 8 by omega)
  have hb := tMsg_bytes sp dp seq ack fl wi ur (tCheck s d sp dp seq ack fl wi ur opts data) opts data hO hB
  have hf := t_full s d sp dp seq ack fl wi ur opts data hO hB
  have hr := t_read s d sp dp seq ack fl wi ur opts data h3 (by omega) hSQ hAK hO hB
  change Bytes (tBytes s d sp dp seq ack fl wi ur opts data) at hb
  have h12 : rd (tBytes s d sp dp seq ack fl wi ur opts data) 12 = (20 + (opts.length : Int)) / 4 * 16 % 256 := rfl
  have hol : opts.length ≤ 40 ∧ opts.length % 4 = 0 := h3.2.2.2.2.2
  generalize tBytes s d sp dp seq ack fl wi ur opts data = L at *
  have hg := hb.get i (by omega)
  have hfl2 := flip_byte (rd L (i : Int)) (t % 8) hg.1 hg.2 (by omega) (by omega)
  rw [hi, show ((i : Nat) : Int).toNat = i by simp]
  obtain ⟨q1, q2⟩ := t_turned s d L i _ hb (by omega) hf hfl2.1 hfl2.2.1 hfl2.2.2
  have r12 : rd (L.set i (Go.bits .xor .u8 (rd L (i : Int)) (shl .u8 1 (IntKind.u64.wrap (t % 8))))) 12 = rd L 12 := by
    have := getD_set L i 12 (Go.bits .xor .u8 (rd L (i : Int)) (shl .u8 1 (IntKind.u64.wrap (t % 8)))) (by omega)
    rw [if_neg (by omega)] at this
    exact this
  rw [tParse_to s d _ hS hD q1 (by rw [List.length_set]; omega), Option.bind_some]
  have : tParse s d (L.set i (Go.bits .xor .u8 (rd L (i : Int)) (shl .u8 1 (IntKind.u64.wrap (t % 8))))) = (0, 0, 0, 0, 0, 0, 0, [], [], 5) := by
    unfold tParse
    rw [List.length_set, r12, if_neg (by omega), if_neg (by omega), if_neg (by omega), if_neg q2]
  rw [this]
  rfl
end Go.Proofs.Ythnhpbplglmmmaa.Pure
