/- Plain lemmas: a segment that was built is read back; its sum is right. No program in sight. -/
import Derived.Test.YthnhpbplglmmmaaPureLibT
namespace Go.Proofs.Ythnhpbplglmmmaa.Pure
open Go.RowKit Go.Proofs.Ythnhpbplglmmmaa.P Go.Proofs.YthnhpbplglmmmaaW.PrintWords Go.Proofs.YthnhpbplglmmmaaW.PrintLast
set_option linter.unusedVariables false
set_option linter.unusedSimpArgs false
theorem wsum_tMsg (sp dp seq ack fl wi ur c : Int) (opts data : List Int) (h0 : 0 ≤ c) (h1 : c ≤ 65535) : wsum false (tMsg sp dp seq ack fl wi ur c opts data) = wsum false (tMsg sp dp seq ack fl wi ur 0 opts data) + c := by
  unfold tMsg tHead
  simp only [List.cons_append, List.nil_append, wsum, Bool.not_false, Bool.not_true, if_true, Bool.false_eq_true, if_false]
  omega
theorem wsum_pseudo6 (s d p n : Int) (m : List Int) : wsum false (pseudo s d p n ++ m) = wsum false (pseudo s d p n) + wsum false m := by
  unfold pseudo
  simp only [List.cons_append, List.nil_append, wsum, Bool.not_false, Bool.not_true]
  omega
theorem wsum_pseudo6_pos (s d n : Int) : 6 ≤ wsum false (pseudo s d 6 n) := by
  unfold pseudo
  simp only [wsum, Bool.not_false, Bool.not_true, if_true, Bool.false_eq_true, if_false]
  omega
theorem t_full (s d sp dp seq ack fl wi ur : Int) (opts data : List Int) (ho : Bytes opts) (hb : Bytes data) : tSum s d (tBytes s d sp dp seq ack fl wi ur opts data) = 65535 := by
  have hc := tCheck_bound s d sp dp seq ack fl wi ur opts data
  have hw := wsum_tMsg sp dp seq ack fl wi ur (tCheck s d sp dp seq ack fl wi ur opts data) opts data hc.1 hc.2
  have hm := (wsum_bound _ false (tMsg_bytes sp dp seq ack fl wi ur 0 opts data ho hb)).1
  have e : tBytes s d sp dp seq ack fl wi ur opts data = tMsg sp dp seq ack fl wi ur (tCheck s d sp dp seq ack fl wi ur opts data) opts data := rfl
  unfold tSum sumOf
  rw [e, wsum_pseudo6, hw, tMsg_len]
  have hp := wsum_pseudo6_pos s d ((20 + opts.length + data.length : Nat) : Int)
  have hu : tCheck s d sp dp seq ack fl wi ur opts data = 65535 - fold16 (wsum false (pseudo s d 6 ((20 + opts.length + data.length : Nat) : Int)) + wsum false (tMsg sp dp seq ack fl wi ur 0 opts data)) := by
    unfold tCheck tSum sumOf
    rw [wsum_pseudo6, tMsg_len]
  rw [hu]
  generalize wsum false (pseudo s d 6 ((20 + opts.length + data.length : Nat) : Int)) = P at *
  generalize wsum false (tMsg sp dp seq ack fl wi ur 0 opts data) = M at *
  have hf := fold_full (P + M) (by omega)
  rw [← hf]
  congr 1
  rw [hf]
  omega
theorem t_read (s d sp dp seq ack fl wi ur : Int) (opts data : List Int) (h : tOk sp dp fl wi ur opts) (hl : (data.length : Int) ≤ 2008 - (opts.length : Int)) (hseq : 0 ≤ seq ∧ seq < 4294967296) (hack : 0 ≤ ack ∧ ack < 4294967296) (ho : Bytes opts) (hb : Bytes data) :
    tParse s d (tBytes s d sp dp seq ack fl wi ur opts data) = (sp, dp, seq, ack, fl, wi, ur, opts, data, 0) := by
  obtain ⟨h1, h2, h3, h4, h5, h6, h7⟩ := h
  have hn : (tBytes s d sp dp seq ack fl wi ur opts data).length = 20 + opts.length + data.length := tMsg_len ..
  have hf := t_full s d sp dp seq ack fl wi ur opts data ho hb
  have e12 : rd (tBytes s d sp dp seq ack fl wi ur opts data) 12 = (20 + (opts.length : Int)) / 4 * 16 := by
    show (20 + (opts.length : Int)) / 4 * 16 % 256 = _
    omega
  have e13 : rd (tBytes s d sp dp seq ack fl wi ur opts data) 13 = fl := by
    show fl % 256 = fl
    omega
  have f0 : two (tBytes s d sp dp seq ack fl wi ur opts data) 0 = sp := by
    show sp / 256 % 256 * 256 + sp % 256 = sp
    omega
  have f2 : two (tBytes s d sp dp seq ack fl wi ur opts data) 2 = dp := by
    show dp / 256 % 256 * 256 + dp % 256 = dp
    omega
  have f4 : four (tBytes s d sp dp seq ack fl wi ur opts data) 4 = seq := by
    show seq / 16777216 % 256 * 16777216 + seq / 65536 % 256 * 65536 + seq / 256 % 256 * 256 + seq % 256 = seq
    omega
  have f8 : four (tBytes s d sp dp seq ack fl wi ur opts data) 8 = ack := by
    show ack / 16777216 % 256 * 16777216 + ack / 65536 % 256 * 65536 + ack / 256 % 256 * 256 + ack % 256 = ack
    omega
  have f14 : two (tBytes s d sp dp seq ack fl wi ur opts data) 14 = wi := by
    show wi / 256 % 256 * 256 + wi % 256 = wi
    omega
  have f18 : two (tBytes s d sp dp seq ack fl wi ur opts data) 18 = ur := by
    show ur / 256 % 256 * 256 + ur % 256 = ur
    omega
  have eh : rd (tBytes s d sp dp seq ack fl wi ur opts data) 12 / 16 * 4 = 20 + (opts.length : Int) := by rw [e12]; omega
  have ed : (tBytes s d sp dp seq ack fl wi ur opts data).drop (20 + opts.length) = data := by
    show (tHead sp dp seq ack opts.length fl wi _ ur ++ opts ++ data).drop (20 + opts.length) = data
    rw [List.drop_left' (by rw [List.length_append, tHead_len])]
  have et : ((tBytes s d sp dp seq ack fl wi ur opts data).take (20 + opts.length)).drop 20 = opts := by
    show ((tHead sp dp seq ack opts.length fl wi _ ur ++ opts ++ data).take (20 + opts.length)).drop 20 = opts
    rw [List.take_left' (by rw [List.length_append, tHead_len]), List.drop_left' (tHead_len ..)]
  unfold tParse
  rw [if_neg (by omega), eh, if_neg (by rw [e12]; omega), if_neg (by omega), if_pos hf, f0, f2, f4, f8, e13, f14, f18, show (20 + (opts.length : Int)).toNat = 20 + opts.length by omega, et, ed]
end Go.Proofs.Ythnhpbplglmmmaa.Pure
