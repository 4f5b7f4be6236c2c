/- UdpBack: what was built is read back, whatever stands behind; between other addresses only as the sum lets it. No condition. -/
import Derived.Test.YtdppnkgblklmmaaPureLibU
import Derived.Test.YtdppnkgblklmmaaPbailiwicklaw3UdpBack
namespace Go.Proofs.Ytdppnkgblklmmaa.Pure
open Go.RowKit Go.Proofs.Ytdppnkgblklmmaa.P Go.Proofs.YtdppnkgblklmmaaW.PrintWords Go.Proofs.YtdppnkgblklmmaaW.PrintLast
set_option linter.unusedVariables false
set_option linter.unusedSimpArgs false
theorem wsum_pseudo (s d p n : Int) (m : List Int) : wsum false (pseudo s d p n ++ m) = wsum false (pseudo s d p n) + wsum false m := by
  unfold pseudo
  simp only [List.cons_append, List.nil_append, wsum, Bool.not_false, Bool.not_true]
  omega
theorem wsum_pseudo_pos (s d n : Int) : 17 ≤ wsum false (pseudo s d 17 n) := by
  unfold pseudo
  simp only [wsum, Bool.not_false, Bool.not_true, if_true, Bool.false_eq_true, if_false]
  omega
theorem wsum_msg (sp dp n c : Int) (data : List Int) (h0 : 0 ≤ c) (h1 : c ≤ 65535) : wsum false (uMsg sp dp n c data) = wsum false (uMsg sp dp n 0 data) + c := by
  unfold uMsg
  simp only [List.cons_append, List.nil_append, wsum, Bool.not_false, Bool.not_true, if_true, Bool.false_eq_true, if_false]
  omega
theorem uBytes_len (s d sp dp : Int) (bare : Bool) (data : List Int) : (uBytes s d sp dp bare data).length = data.length + 8 := uMsg_len ..
theorem uBytes_bytes (s d sp dp : Int) (bare : Bool) (data : List Int) (h : Bytes data) : Bytes (uBytes s d sp dp bare data) := uMsg_bytes _ _ _ _ _ h
theorem u_full (s d sp dp : Int) (data : List Int) (hb : Bytes data) : sumOf (pseudo s d 17 (8 + data.length) ++ uBytes s d sp dp false data) = 65535 := by
  have hc := uCheck_bound s d sp dp data
  have hw := wsum_msg sp dp (8 + data.length) (uCheck s d sp dp data) data (by omega) (by omega)
  have e : uBytes s d sp dp false data = uMsg sp dp (8 + data.length) (uCheck s d sp dp data) data := rfl
  have hp := wsum_pseudo_pos s d (8 + data.length)
  have hm := (wsum_bound _ false (uMsg_bytes sp dp (8 + data.length) 0 data hb)).1
  unfold sumOf
  rw [e, wsum_pseudo, hw]
  have hu : uCheck s d sp dp data = if 65535 - fold16 (wsum false (pseudo s d 17 (8 + data.length)) + wsum false (uMsg sp dp (8 + data.length) 0 data)) = 0 then 65535 else 65535 - fold16 (wsum false (pseudo s d 17 (8 + data.length)) + wsum false (uMsg sp dp (8 + data.length) 0 data)) := by
    rw [← wsum_pseudo]; rfl
  rw [hu]
  generalize wsum false (pseudo s d 17 (8 + data.length)) = P at *
  generalize wsum false (uMsg sp dp (8 + data.length) 0 data) = M at *
  have hf := fold_full (P + M) (by omega)
  split
  · rename_i h
    unfold fold16 at *
    split at h <;> split <;> omega
  · rw [← hf]
    congr 1
    rw [hf]
    omega
theorem u_other (s d o n : Int) (m : List Int) (hm : Bytes m) (h : sumOf (pseudo s d 17 n ++ m) = 65535) : (sumOf (pseudo s o 17 n ++ m) = 65535) ↔ sumOf (pseudo s d 17 n) = sumOf (pseudo s o 17 n) := by
  have h1 := wsum_pseudo_pos s d n
  have h2 := wsum_pseudo_pos s o n
  have h3 := (wsum_bound m false hm).1
  unfold sumOf at *
  rw [wsum_pseudo] at *
  generalize wsum false (pseudo s d 17 n) = P at *
  generalize wsum false (pseudo s o 17 n) = Q at *
  generalize wsum false m = M at *
  unfold fold16 at *
  rw [if_neg (by omega)] at h
  rw [if_neg (by omega), if_neg (by omega), if_neg (by omega)]
  omega
theorem u_two4 (s d sp dp : Int) (bare : Bool) (data more : List Int) (h : data.length ≤ 2020) : two (uBytes s d sp dp bare data ++ more) 4 = 8 + data.length := by
  show (8 + (data.length : Int)) / 256 % 256 * 256 + (8 + (data.length : Int)) % 256 = _
  omega
theorem u_two6 (s d sp dp : Int) (bare : Bool) (data more : List Int) : two (uBytes s d sp dp bare data ++ more) 6 = if bare = true then 0 else uCheck s d sp dp data := by
  show (if bare = true then 0 else uCheck s d sp dp data) / 256 % 256 * 256 + (if bare = true then 0 else uCheck s d sp dp data) % 256 = _
  have := uCheck_bound s d sp dp data
  split <;> omega
theorem u_read (s d sp dp o : Int) (bare : Bool) (data more : List Int) (h : data.length ≤ 2020) (hsp : 0 ≤ sp ∧ sp ≤ 65535) (hdp : 0 ≤ dp ∧ dp ≤ 65535) :
    uParse s o (uBytes s d sp dp bare data ++ more) = if bare = true ∨ sumOf (pseudo s o 17 (8 + data.length) ++ uBytes s d sp dp bare data) = 65535 then (sp, dp, bare, data, 0) else (0, 0, false, [], 5) := by
  unfold uParse
  have hl := uBytes_len s d sp dp bare data
  have hc := uCheck_bound s d sp dp data
  have e0 : two (uBytes s d sp dp bare data ++ more) 0 = sp := by
    show sp / 256 % 256 * 256 + sp % 256 = sp
    omega
  have e2 : two (uBytes s d sp dp bare data ++ more) 2 = dp := by
    show dp / 256 % 256 * 256 + dp % 256 = dp
    omega
  have et : (uBytes s d sp dp bare data ++ more).take ((8 : Int) + data.length).toNat = uBytes s d sp dp bare data := by
    rw [show ((8 : Int) + data.length).toNat = (uBytes s d sp dp bare data).length by omega]
    simp
  have ed : (uBytes s d sp dp bare data).drop 8 = data := rfl
  rw [u_two4 s d sp dp bare data more h, u_two6, e0, e2, et, ed, List.length_append, if_neg (by omega), if_neg (by omega), if_neg (by omega)]
  cases bare
  · rw [if_neg (by simp; omega)]
    by_cases hq : sumOf (pseudo s o 17 (8 + data.length) ++ uBytes s d sp dp false data) = 65535
    · rw [if_pos hq, if_pos (.inr hq)]
    · rw [if_neg hq, if_neg (by simp [hq])]
  · rw [if_pos (by simp), if_pos (.inl rfl)]
theorem UdpBack : bailiwicklaw3_UdpBack.Pure := by
  intro s d sp dp bare data more o hs hd hsp hdp hl hm ho
  refine ⟨1000100, ?_⟩
  have hS := u32_wf hs
  have hD := u32_wf hd
  have hO := u32_wf ho
  have hB := bytes_of hl.2.2
  have hM := bytes_of hm.2.2
  unfold bailiwicklaw3_UdpBack.f
  rw [show bailiwicklaw3_awake.f = some true from rfl, Option.bind_some, if_pos rfl]
  by_cases h : (data.length : Int) > 5000
  · rw [if_pos h, bailiwicklaw3_UdpBack.j0, if_pos rfl]
  by_cases h2 : (more.length : Int) > 5000
  · rw [if_neg h, decide_eq_true h2, bailiwicklaw3_UdpBack.j0, if_pos rfl]
  rw [if_neg h, decide_eq_false h2, bailiwicklaw3_UdpBack.j0, if_neg (show ¬ (false = true) by decide), uBuild_to s d sp dp bare data hS hD hB (by omega) _ (by decide), Option.bind_some]
  by_cases h1 : ¬ (0 ≤ sp ∧ sp ≤ 65535 ∧ 0 ≤ dp ∧ dp ≤ 65535)
  · rw [show uBuild s d sp dp bare data = ([], 1) by unfold uBuild; rw [if_neg h1]]; rfl
  replace h1 := Classical.not_not.1 h1
  by_cases h3 : (data.length : Int) > 2020
  · rw [show uBuild s d sp dp bare data = ([], 3) by unfold uBuild; rw [if_pos h1, if_pos h3]]; rfl
  rw [show uBuild s d sp dp bare data = (uBytes s d sp dp bare data, 0) by unfold uBuild; rw [if_pos h1, if_neg h3]]
  dsimp only
  have hb := uBytes_bytes s d sp dp bare data hB
  have hn := uBytes_len s d sp dp bare data
  have r1 := u_read s d sp dp d bare data more (by omega) ⟨h1.1, h1.2.1⟩ h1.2.2
  have r2 := u_read s d sp dp o bare data [] (by omega) ⟨h1.1, h1.2.1⟩ h1.2.2
  rw [List.append_nil] at r2
  rw [if_pos (by cases bare <;> simp; exact u_full s d sp dp data hB)] at r1
  rw [if_pos rfl, copy_to _ (by omega) _ (by omega), Option.bind_some, if_pos (by omega),
    uParse_to s d _ hS hD (hb.append hM) (by rw [List.length_append]; omega) _ (by decide), r1, Option.bind_some, uParse_to s o _ hS hO hb (by omega) _ (by decide), Option.bind_some,
    pseudo_to s d 17 _ hS hD _ (by decide), Option.bind_some, sum_one _ (pseudo_bytes _ _ _ _) (by simp [pseudo]), Option.bind_some,
    pseudo_to s o 17 _ hS hO _ (by decide), Option.bind_some, sum_one _ (pseudo_bytes _ _ _ _) (by simp [pseudo]), Option.bind_some]
  dsimp only
  rw [if_pos rfl, sameDatagram_to _ _ _ _ (by omega) _ (by decide), Option.bind_some, if_pos rfl, r2, show ((uBytes s d sp dp bare data).length : Int) = 8 + data.length by omega]
  cases bare
  · have hu := u_other s d o (8 + data.length) _ hb (u_full s d sp dp data hB)
    rw [if_neg (show ¬ (false = true) by decide)]
    by_cases hq : sumOf (pseudo s o 17 (8 + data.length) ++ uBytes s d sp dp false data) = 65535
    · rw [if_pos (.inr hq), beq_iff_eq.2 (hu.1 hq)]; rfl
    · rw [if_neg (by simp [hq]), beq_eq_false_iff_ne.2 (fun e => hq (hu.2 e))]; rfl
  · rw [if_pos rfl, if_pos (.inl rfl)]; rfl
end Go.Proofs.Ytdppnkgblklmmaa.Pure
