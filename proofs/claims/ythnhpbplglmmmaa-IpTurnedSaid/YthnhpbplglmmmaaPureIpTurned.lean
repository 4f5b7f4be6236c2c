/- IpTurned: of a datagram one bit of the header, but for the lower four of the first byte, that is turned is found. No condition. -/
import Derived.Test.YthnhpbplglmmmaaPureLibIpB
import Derived.Test.YthnhpbplglmmmaaPbailiwicklaw2IpTurned
namespace Go.Proofs.Ythnhpbplglmmmaa.Pure
open Go.RowKit Go.Proofs.Ythnhpbplglmmmaa.P Go.Proofs.YthnhpbplglmmmaaW.PrintWords Go.Proofs.YthnhpbplglmmmaaW.PrintLast
set_option linter.unusedVariables false
set_option linter.unusedSimpArgs false
theorem ipOf_sum (l : List Int) (h : sumOf (l.take (ihead l).toNat) ≠ 65535) : (ipOf l).2.2.2.2.2.2.2.2.2.2.2 ≠ 0 := by
  unfold ipOf izero
  repeat' split
  all_goals first | decide | contradiction
theorem ipOf_form (l : List Int) (h : rd l 0 / 16 ≠ 4) : (ipOf l).2.2.2.2.2.2.2.2.2.2.2 ≠ 0 := by
  unfold ipOf izero
  split
  · decide
  split
  · decide
  rw [if_pos (.inl h)]
  decide
theorem flip0 : ∀ (b : Fin 16) (j : Fin 4), Go.bits .xor .u8 (64 + (b.1 : Int)) (shl .u8 1 (IntKind.u64.wrap (4 + (j.1 : Int)))) / 16 ≠ 4 := by decide +kernel
theorem IpTurned : bailiwicklaw2_IpTurned.Pure := by
  intro tos id df mf off ttl proto src dst opts body t ht hi hof htt hpr hs hd ho hl hat
  refine ⟨10, ?_⟩
  have hT := (i64_wf2 ht).2
  have hI := (i64_wf2 hi).2
  have hOF := (i64_wf2 hof).2
  have hTT := (i64_wf2 htt).2
  have hPR := (i64_wf2 hpr).2
  have hS := u32_wf2 hs
  have hD := u32_wf2 hd
  have hO := bytes_of ho.2.2
  have hB := bytes_of hl.2.2
  have hA := i64_wf2 hat
  have aw : bailiwicklaw2_awake.f = some true := by decide +kernel
  unfold bailiwicklaw2_IpTurned.f
  rw [aw, Option.bind_some, if_pos rfl]
  have stop : ∀ (x : Int) (l : List Int), bailiwicklaw2_IpTurned.j0 10 x l true = some true := fun x l => by rw [bailiwicklaw2_IpTurned.j0, if_pos rfl, aw]; rfl
  unfold bailiwicklaw2_small.f
  by_cases h1 : (body.length : Int) ≤ 5000
  case neg => rw [if_neg h1, Option.bind_some, if_neg (by decide)]; rfl
  rw [if_pos h1, Option.bind_some]
  by_cases h2 : (opts.length : Int) ≤ 5000
  case neg => rw [decide_eq_false h2, if_neg (by decide)]; rfl
  rw [if_pos (decide_eq_true h2), ibuild_to tos id df mf off ttl proto src dst opts body hT hI hOF hTT hPR hS hD hO, Option.bind_some]
  by_cases h4 : iok tos id off ttl proto opts
  case neg => rw [show ibuild tos id df mf off ttl proto src dst opts body = ([], 1) by unfold ibuild; rw [if_neg h4]]; dsimp only; rw [if_neg (by decide), stop]
  by_cases h5 : (body.length : Int) > 2028 - (opts.length : Int)
  · rw [show ibuild tos id df mf off ttl proto src dst opts body = ([], 3) by unfold ibuild; rw [if_pos h4, if_pos h5]]; dsimp only; rw [if_neg (by decide), stop]
  have e : ibuild tos id df mf off ttl proto src dst opts body = (ibytes tos id df mf off ttl proto src dst opts body, 0) := by unfold ibuild; rw [if_pos h4, if_neg h5]
  have hn := ibytes_len tos id df mf off ttl proto src dst opts body
  have hb : Bytes (ibytes tos id df mf off ttl proto src dst opts body) := Bytes.append (ihd_bytes _ _ _ _ _ _ _ _ _ _ _ _ hO) hB
  rw [e]
  dsimp only
  rw [if_pos rfl]
  by_cases c0 : t < 0
  · rw [if_pos c0, stop]
  have ed : wrap64 (Int.tdiv t 8) = t / 8 := by rw [Int.tdiv_eq_ediv_of_nonneg (by omega), w64 (by omega) (by omega)]
  have em : Int.tmod t 8 = t % 8 := Int.tmod_eq_emod_of_nonneg (by omega)
  rw [if_neg c0, ed, w64 (x := 20 + (opts.length : Int)) (by omega) (by omega)]
  by_cases c1 : t / 8 ≥ 20 + (opts.length : Int)
  · rw [if_pos c1, stop]
  rw [if_neg c1]
  by_cases c2 : t < 4
  · rw [decide_eq_true c2, stop]
  have eu : IntKind.u64.wrap (t % 8) = t % 8 := by rw [wrap_u64, Int.emod_eq_of_lt (by omega) (by omega)]
  rw [decide_eq_false c2, bailiwicklaw2_IpTurned.j0, if_neg (by decide), ed, em, if_pos (by omega), if_pos (by omega), if_pos (by rw [eu]; omega)]
  obtain ⟨i, hi'⟩ := Int.eq_ofNat_of_zero_le (show 0 ≤ t / 8 by omega)
  have hf := i_full tos id df mf off ttl proto src dst opts body hO
  have hol : opts.length ≤ 40 ∧ opts.length % 4 = 0 := h4.2.2.2.2.2
  have e0 : rd (ibytes tos id df mf off ttl proto src dst opts body) 0 = 64 + (20 + (opts.length : Int)) / 4 := by
    show (64 + (20 + (opts.length : Int)) / 4) % 256 = _
    omega
  have et : (ibytes tos id df mf off ttl proto src dst opts body).take (20 + opts.length) = ihd tos id df mf off ttl proto src dst (icheck tos id df mf off ttl proto src dst opts body) opts body := by
    unfold ibytes
    rw [List.take_left' (ihd_len ..)]
  have hbh := ihd_bytes tos id df mf off ttl proto src dst (icheck tos id df mf off ttl proto src dst opts body) opts body hO
  rw [← et] at hf hbh
  generalize ibytes tos id df mf off ttl proto src dst opts body = L at *
  have hg := hb.get i (by omega)
  have hfl := flip_byte (rd L (i : Int)) (t % 8) hg.1 hg.2 (by omega) (by omega)
  rw [hi', show ((i : Nat) : Int).toNat = i by simp]
  have hq : (ipOf (L.set i (Go.bits .xor .u8 (rd L (i : Int)) (shl .u8 1 (IntKind.u64.wrap (t % 8)))))).2.2.2.2.2.2.2.2.2.2.2 ≠ 0 := by
    by_cases hz : i = 0
    · subst hz
      refine ipOf_form _ ?_
      have er : rd (L.set 0 (Go.bits .xor .u8 (rd L ((0 : Nat) : Int)) (shl .u8 1 (IntKind.u64.wrap (t % 8))))) 0 = Go.bits .xor .u8 (rd L ((0 : Nat) : Int)) (shl .u8 1 (IntKind.u64.wrap (t % 8))) := by
        have := getD_set L 0 0 (Go.bits .xor .u8 (rd L ((0 : Nat) : Int)) (shl .u8 1 (IntKind.u64.wrap (t % 8)))) (by omega)
        rw [if_pos rfl] at this
        exact this
      rw [er, show (((0 : Nat) : Int)) = 0 from rfl, e0]
      obtain ⟨q, hq⟩ := Int.eq_ofNat_of_zero_le (show 0 ≤ (20 + (opts.length : Int)) / 4 by omega)
      obtain ⟨j, hj⟩ := Int.eq_ofNat_of_zero_le (show 0 ≤ t % 8 - 4 by omega)
      have := flip0 ⟨q, by omega⟩ ⟨j, by omega⟩
      rw [hq, show t % 8 = 4 + (j : Int) by omega]
      exact this
    · refine ipOf_sum _ ?_
      have er : rd (L.set i (Go.bits .xor .u8 (rd L (i : Int)) (shl .u8 1 (IntKind.u64.wrap (t % 8))))) 0 = rd L 0 := by
        have := getD_set L i 0 (Go.bits .xor .u8 (rd L (i : Int)) (shl .u8 1 (IntKind.u64.wrap (t % 8)))) (by omega)
        rw [if_neg hz] at this
        exact this
      have eh : ihead (L.set i (Go.bits .xor .u8 (rd L (i : Int)) (shl .u8 1 (IntKind.u64.wrap (t % 8))))) = 20 + opts.length := by unfold ihead; rw [er, e0]; omega
      rw [eh, show (20 + (opts.length : Int)).toNat = 20 + opts.length by omega, List.take_set]
      have er2 : rd (L.take (20 + opts.length)) (i : Int) = rd L (i : Int) := by
        rw [rd_getD, rd_getD, List.getD_eq_getElem?_getD, List.getD_eq_getElem?_getD, List.getElem?_take_of_lt (by omega)]
      exact (flip_sum _ i _ hbh (by rw [List.length_take]; omega) hf hfl.1 hfl.2.1 (by rw [er2]; exact hfl.2.2)).2
  rw [ipParse_to _ (bytes_set hb i _ hfl.1 hfl.2.1), Option.bind_some, aw, Option.bind_some, if_pos rfl, bne_iff_ne.2 hq]
end Go.Proofs.Ythnhpbplglmmmaa.Pure
