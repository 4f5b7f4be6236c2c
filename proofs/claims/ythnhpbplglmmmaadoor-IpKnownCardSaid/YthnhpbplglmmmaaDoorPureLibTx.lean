/- Walks of ip.Show and line.Text: out of the shelf's contracts (strconv.Itoa, strings.Join, strings.ReplaceAll). No statement of its own. -/
import Derived.Test.YthnhpbplglmmmaaDoorPureWHand
import Derived.Test.YthnhpbplglmmmaaDoorShelf
import Derived.WalkSmall
namespace Go.Proofs.YthnhpbplglmmmaaDoor.P
open Go.RowKit Go.Proofs.YthnhpbplglmmmaaDoorW.PrintWords Go.Proofs.YthnhpbplglmmmaaDoorW.PrintLast Go.Proofs.YthnhpbplglmmmaaDoorW.PrintMore
set_option linter.unusedVariables false
set_option linter.unusedSimpArgs false
def strS (x : Int) : ByteArray := ⟨(Lib.itoa x).toArray⟩
def octs (a : Int) : List Int := [a / 16777216 % 256, a / 65536 % 256, a / 256 % 256, a % 256]
def showL (a : Int) : List UInt8 := Lib.join ((octs a).map Lib.itoa) [46]
abbrev Tab (w : World) : Prop := Lib.TabIs Tryd.prog w "internal/strconv.uint64pow10" .u64 Lib.pow10Tab
theorem Tab.below {w W : World} (h : Tab w) (hb : Below w.heap.size w W) : Tab W := by
  have h' : w.var? Tryd.prog "internal/strconv.uint64pow10" = some (Lib.pow10Tab.map fun z => Value.int .u64 z).toArray := h
  show W.var? Tryd.prog "internal/strconv.uint64pow10" = _
  rw [← h']
  unfold World.var?
  cases hg : Tryd.prog.globalNamed "internal/strconv.uint64pow10" with
  | none => rfl
  | some g =>
    have hlt : g < w.heap.size := by
      unfold World.var? at h'
      rw [hg] at h'
      rcases Nat.lt_or_ge g w.heap.size with h1 | h1
      · exact h1
      · simp [Array.getElem?_eq_none h1] at h'
    simp only [Option.bind_some]
    rw [hb.block g hlt]
theorem oct_bounds (a : Int) (x : Int) (h : x ∈ octs a) : 0 ≤ x ∧ x ≤ 255 := by
  unfold octs at h
  simp only [List.mem_cons, List.not_mem_nil, or_false] at h
  rcases h with rfl | rfl | rfl | rfl <;> omega
theorem tx_two_pow_ne (n : Nat) : ((2 : Int) ^ n) ≠ 0 := by
  have h := Nat.two_pow_pos n
  have h2 : ((2 ^ n : Nat) : Int) = (2 : Int) ^ n := by simp
  omega
theorem tx_and_mask (k : IntKind) (i : Nat) (hi : i ≤ k.bits) (x : Int) : Go.bits .and k x (2 ^ i - 1) = k.wrap (x % 2 ^ i) := by
  have hpos : 0 < 2 ^ i := Nat.two_pow_pos i
  have hc : ((2 : Int) ^ i - 1) = ((2 ^ i - 1 : Nat) : Int) := by
    rw [Int.natCast_sub hpos]; simp
  have hp : 2 ^ i ≤ 2 ^ k.bits := Nat.pow_le_pow_right (by decide) hi
  have hm : (2 ^ i - 1) % 2 ^ k.bits = 2 ^ i - 1 := Nat.mod_eq_of_lt (by omega)
  rw [hc]
  simp only [Go.bits, BitVec.toNat_and, BitVec.ofInt_natCast, BitVec.toNat_ofNat, hm, BitVec.toNat_ofInt, Nat.and_two_pow_sub_one_eq_mod]
  congr 1
  have h1 : (((x % ((2 : Int) ^ k.bits)).toNat % 2 ^ i : Nat) : Int) = x % 2 ^ i := by
    rw [Int.natCast_emod, Int.toNat_of_nonneg (Int.emod_nonneg _ (tx_two_pow_ne k.bits))]
    rw [show (((2 ^ i : Nat) : Int)) = (2 : Int) ^ i by simp]
    exact Int.emod_emod_of_dvd x (by exact_mod_cast Nat.pow_dvd_pow 2 hi)
  exact_mod_cast h1
theorem and255 (x : Int) : Go.bits .and .u32 x 255 = x % 256 := by
  have h := tx_and_mask .u32 8 (by decide) x
  rw [show ((2 : Int) ^ 8 - 1) = 255 from rfl, show ((2 : Int) ^ 8) = 256 from rfl] at h
  rw [h]
  simp [IntKind.wrap, IntKind.bits, IntKind.signed]
  omega
theorem and255i (x : Int) : Go.bits .and .i64 x 255 = x % 256 := by
  have h := tx_and_mask .i64 8 (by decide) x
  rw [show ((2 : Int) ^ 8 - 1) = 255 from rfl, show ((2 : Int) ^ 8) = 256 from rfl] at h
  rw [h, IntKind.wrap_i64]
  omega
theorem infoStr : (Tryd.prog.info? 9).map (fun i => (i.zero, i.size, i.bytes)) = some (some (.string ⟨#[]⟩), 1, 16) := by kernel_rfl
theorem grow_below (w : World) (k : Nat) (os : Array Obj) : Below w.heap.size w (Sort.grow (w.drewN k) os) :=
  ⟨rfl, rfl, rfl, by show w.heap.size ≤ (w.heap ++ os).size; simp, fun i hi => by show (w.heap ++ os)[i]? = w.heap[i]?; rw [Array.getElem?_append, if_pos hi]⟩
theorem dd_one (u : Nat) (h : u < 10) : (Lib.decDigits u).length = 1 := by rw [Lib.decDigits, dif_pos h]; rfl
theorem dd_len (u : Nat) (h : u < 1000) : (Lib.decDigits u).length ≤ 3 := by
  rw [Lib.decDigits]
  split
  · simp
  · rw [List.length_append, Lib.decDigits]
    split
    · simp
    · rw [List.length_append, dd_one (u / 10 / 10) (by omega)]
      simp
theorem itoa_len (x : Int) (h : 0 ≤ x ∧ x ≤ 255) : (Lib.itoa x).length ≤ 3 := by
  unfold Lib.itoa
  rw [if_neg (by omega)]
  exact dd_len _ (by omega)
theorem show_len (a : Int) : (showL a).length ≤ 15 := by
  have e : showL a = Lib.itoa (a / 16777216 % 256) ++ ([46] ++ Lib.itoa (a / 65536 % 256) ++ ([46] ++ Lib.itoa (a / 256 % 256) ++ ([46] ++ Lib.itoa (a % 256)))) := by
    unfold showL octs
    simp only [List.map_cons, List.map_nil]
    rw [Lib.join_cons]
    simp [Lib.joinTail]
  rw [e]
  have h0 := itoa_len (a / 16777216 % 256) (by omega)
  have h1 := itoa_len (a / 65536 % 256) (by omega)
  have h2 := itoa_len (a / 256 % 256) (by omega)
  have h3 := itoa_len (a % 256) (by omega)
  simp only [List.length_append, List.length_cons, List.length_nil]
  omega
set_option maxHeartbeats 4000000 in
set_option maxRecDepth 100000 in
theorem ip_Show.walk (a : Int) (h0 : 0 ≤ a) (h1 : a < 4294967296) (w : World) (ht : Tab w) :
    Calls Tryd.prog 7 #[.int .u32 a] w fun e w' => e = .returned (.string ⟨(showL a).toArray⟩) ∧ Below w.heap.size w w' := by
  have HT := Aside0.mk ht
  have HB := Aside0.mk (Below.refl w.heap.size w)
  have HA := Aside0.mk (And.intro h0 h1)
  have HO : Aside0 (Kd.R Kd.string 9 w w.heap.size (fun _ => True) (.slice none 0 0) ([] : List ByteArray)) := ⟨Kd.R_nil _ _ _ _ _⟩
  clear ht h0 h1
  go_enter Tryd.func7, Tryd.ntmps7
  go_wp2_with (fail)
  go_loopg [3, 4] 4 (fun kq v3 v4 w' => ∃ (j : Nat) (i : Int), v4 = .int .i64 i ∧ Aside0 (j + kq = 4 ∧ i = 24 - 8 * (j : Int)) ∧ Aside0 (Kd.R Kd.string 9 w' w.heap.size (fun _ => True) v3 (((octs a).take j).map strS)) ∧ Aside0 (Below w.heap.size w w'))
  case atStart => exact ⟨0, 24, rfl, ⟨by simp⟩, HO, HB⟩
  case round =>
    clear HB HO
    obtain ⟨j, i, rfl, HJ, HO, HB⟩ := hrel
    obtain ⟨wo, rfl⟩ : ∃ wo : World, wo = wr := ⟨_, rfl⟩
    obtain rfl | rfl | rfl | rfl | rfl : j = 0 ∨ j = 1 ∨ j = 2 ∨ j = 3 ∨ j = 4 := by have := HJ.out.1; omega
    · obtain rfl : i = 24 := by have := HJ.out.2; omega
      obtain ⟨x, hx⟩ : ∃ x, x = a / 16777216 % 256 := ⟨_, rfl⟩
      have r2 : Go.bits .and .u32 (a / 16777216) 255 = x := by rw [hx]; exact and255 _
      have r3 : wrap64 x = x := by unfold wrap64; omega
      have r4 : IntKind.i64.wrap x = x := by rw [IntKind.wrap_i64]; omega
      have HX : Aside0 (0 ≤ x ∧ x ≤ 255) := ⟨by omega⟩
      have HL : Aside0 (((octs a).take 0).map strS ++ [strS x] = ((octs a).take 1).map strS) := ⟨by rw [hx]; rfl⟩
      obtain ⟨k1, rfl⟩ : ∃ k1, gk = k1 + 1 := ⟨gk - 1, by have := HJ.out.1; omega⟩
      generalize ((octs a).take 0).map strS = xs at HO HL
      have HLN : Aside0 (xs.length = 0) := ⟨by have h := congrArg List.length HL.out; rw [List.length_append] at h; exact Nat.succ.inj h⟩
      clear hx
      go_wp2_with (first | (go_at_call 16; refine (Tryd.strconv_Itoa x (by have := HX.out; omega) (by have := HX.out; omega) _ (HT.out.below HB.out)).mono ?_; rintro e' w1 ⟨rfl, kk, os, hw⟩; have hb : Below wo.heap.size wo w1 := (by rw [hw]; exact grow_below wo kk os); have n1 := Aside0.mk (HB.out.trans (hb.mono HB.out.size)); have n2 := Aside0.mk (Kd.R_below HO.out hb); clear HB HO hw hb; have HB := n1; have HO := n2; clear n1 n2) | ((with_reducible refine gate_builtin (b := .append) (xs := #[.tmp 9, .tmp 16]) rfl ?_); at_builtin; refine Kd.R_append Kd.string (w0 := w) w.heap.size rfl (.tmp 9) (.tmp 16) 40 9 (.string ⟨#[]⟩) 16 rfl Tryd.underlying40 infoStr rfl (by decide) (by omega) u3 xs (strS x) [.string (strS x)] (fun _ => True) (fun _ => False) rfl rfl ?aP (fun _ hk => hk.elim) ?aF ?aO ?aB ?aS ?aL ?_; (case aP => exact rfl); (case aF => exact (fun _ _ => trivial)); (case aO => exact HO.out); (case aB => exact HB.out); (case aS => exact HB.out.size); (case aL => have := HLN.out; omega); intro v1 w2 ho hb hg hat; have n1 := Aside0.mk hb; have n2 := Aside0.mk ho; clear HB HO ho hb hg hat; have HB := n1; have HO := n2; clear n1 n2))
      go_roundg k1
      case measure => omega
      case rel => exact ⟨1, 16, rfl, ⟨by have := HJ.out.1; omega⟩, ⟨by rw [← HL.out]; exact HO.out⟩, HB⟩
    · obtain rfl : i = 16 := by have := HJ.out.2; omega
      obtain ⟨x, hx⟩ : ∃ x, x = a / 65536 % 256 := ⟨_, rfl⟩
      have r2 : Go.bits .and .u32 (a / 65536) 255 = x := by rw [hx]; exact and255 _
      have r3 : wrap64 x = x := by unfold wrap64; omega
      have r4 : IntKind.i64.wrap x = x := by rw [IntKind.wrap_i64]; omega
      have HX : Aside0 (0 ≤ x ∧ x ≤ 255) := ⟨by omega⟩
      have HL : Aside0 (((octs a).take 1).map strS ++ [strS x] = ((octs a).take 2).map strS) := ⟨by rw [hx]; rfl⟩
      obtain ⟨k1, rfl⟩ : ∃ k1, gk = k1 + 1 := ⟨gk - 1, by have := HJ.out.1; omega⟩
      generalize ((octs a).take 1).map strS = xs at HO HL
      have HLN : Aside0 (xs.length = 1) := ⟨by have h := congrArg List.length HL.out; rw [List.length_append] at h; exact Nat.succ.inj h⟩
      clear hx
      go_wp2_with (first | (go_at_call 16; refine (Tryd.strconv_Itoa x (by have := HX.out; omega) (by have := HX.out; omega) _ (HT.out.below HB.out)).mono ?_; rintro e' w1 ⟨rfl, kk, os, hw⟩; have hb : Below wo.heap.size wo w1 := (by rw [hw]; exact grow_below wo kk os); have n1 := Aside0.mk (HB.out.trans (hb.mono HB.out.size)); have n2 := Aside0.mk (Kd.R_below HO.out hb); clear HB HO hw hb; have HB := n1; have HO := n2; clear n1 n2) | ((with_reducible refine gate_builtin (b := .append) (xs := #[.tmp 9, .tmp 16]) rfl ?_); at_builtin; refine Kd.R_append Kd.string (w0 := w) w.heap.size rfl (.tmp 9) (.tmp 16) 40 9 (.string ⟨#[]⟩) 16 rfl Tryd.underlying40 infoStr rfl (by decide) (by omega) u3 xs (strS x) [.string (strS x)] (fun _ => True) (fun _ => False) rfl rfl ?aP (fun _ hk => hk.elim) ?aF ?aO ?aB ?aS ?aL ?_; (case aP => exact rfl); (case aF => exact (fun _ _ => trivial)); (case aO => exact HO.out); (case aB => exact HB.out); (case aS => exact HB.out.size); (case aL => have := HLN.out; omega); intro v1 w2 ho hb hg hat; have n1 := Aside0.mk hb; have n2 := Aside0.mk ho; clear HB HO ho hb hg hat; have HB := n1; have HO := n2; clear n1 n2))
      go_roundg k1
      case measure => omega
      case rel => exact ⟨2, 8, rfl, ⟨by have := HJ.out.1; omega⟩, ⟨by rw [← HL.out]; exact HO.out⟩, HB⟩
    · obtain rfl : i = 8 := by have := HJ.out.2; omega
      obtain ⟨x, hx⟩ : ∃ x, x = a / 256 % 256 := ⟨_, rfl⟩
      have r2 : Go.bits .and .u32 (a / 256) 255 = x := by rw [hx]; exact and255 _
      have r3 : wrap64 x = x := by unfold wrap64; omega
      have r4 : IntKind.i64.wrap x = x := by rw [IntKind.wrap_i64]; omega
      have HX : Aside0 (0 ≤ x ∧ x ≤ 255) := ⟨by omega⟩
      have HL : Aside0 (((octs a).take 2).map strS ++ [strS x] = ((octs a).take 3).map strS) := ⟨by rw [hx]; rfl⟩
      obtain ⟨k1, rfl⟩ : ∃ k1, gk = k1 + 1 := ⟨gk - 1, by have := HJ.out.1; omega⟩
      generalize ((octs a).take 2).map strS = xs at HO HL
      have HLN : Aside0 (xs.length = 2) := ⟨by have h := congrArg List.length HL.out; rw [List.length_append] at h; exact Nat.succ.inj h⟩
      clear hx
      go_wp2_with (first | (go_at_call 16; refine (Tryd.strconv_Itoa x (by have := HX.out; omega) (by have := HX.out; omega) _ (HT.out.below HB.out)).mono ?_; rintro e' w1 ⟨rfl, kk, os, hw⟩; have hb : Below wo.heap.size wo w1 := (by rw [hw]; exact grow_below wo kk os); have n1 := Aside0.mk (HB.out.trans (hb.mono HB.out.size)); have n2 := Aside0.mk (Kd.R_below HO.out hb); clear HB HO hw hb; have HB := n1; have HO := n2; clear n1 n2) | ((with_reducible refine gate_builtin (b := .append) (xs := #[.tmp 9, .tmp 16]) rfl ?_); at_builtin; refine Kd.R_append Kd.string (w0 := w) w.heap.size rfl (.tmp 9) (.tmp 16) 40 9 (.string ⟨#[]⟩) 16 rfl Tryd.underlying40 infoStr rfl (by decide) (by omega) u3 xs (strS x) [.string (strS x)] (fun _ => True) (fun _ => False) rfl rfl ?aP (fun _ hk => hk.elim) ?aF ?aO ?aB ?aS ?aL ?_; (case aP => exact rfl); (case aF => exact (fun _ _ => trivial)); (case aO => exact HO.out); (case aB => exact HB.out); (case aS => exact HB.out.size); (case aL => have := HLN.out; omega); intro v1 w2 ho hb hg hat; have n1 := Aside0.mk hb; have n2 := Aside0.mk ho; clear HB HO ho hb hg hat; have HB := n1; have HO := n2; clear n1 n2))
      go_roundg k1
      case measure => omega
      case rel => exact ⟨3, 0, rfl, ⟨by have := HJ.out.1; omega⟩, ⟨by rw [← HL.out]; exact HO.out⟩, HB⟩
    · obtain rfl : i = 0 := by have := HJ.out.2; omega
      obtain ⟨x, hx⟩ : ∃ x, x = a % 256 := ⟨_, rfl⟩
      have r2 : Go.bits .and .u32 (a) 255 = x := by rw [hx]; exact and255 _
      have r3 : wrap64 x = x := by unfold wrap64; omega
      have r4 : IntKind.i64.wrap x = x := by rw [IntKind.wrap_i64]; omega
      have HX : Aside0 (0 ≤ x ∧ x ≤ 255) := ⟨by omega⟩
      have HL : Aside0 (((octs a).take 3).map strS ++ [strS x] = ((octs a).take 4).map strS) := ⟨by rw [hx]; rfl⟩
      obtain ⟨k1, rfl⟩ : ∃ k1, gk = k1 + 1 := ⟨gk - 1, by have := HJ.out.1; omega⟩
      generalize ((octs a).take 3).map strS = xs at HO HL
      have HLN : Aside0 (xs.length = 3) := ⟨by have h := congrArg List.length HL.out; rw [List.length_append] at h; exact Nat.succ.inj h⟩
      clear hx
      go_wp2_with (first | (go_at_call 16; refine (Tryd.strconv_Itoa x (by have := HX.out; omega) (by have := HX.out; omega) _ (HT.out.below HB.out)).mono ?_; rintro e' w1 ⟨rfl, kk, os, hw⟩; have hb : Below wo.heap.size wo w1 := (by rw [hw]; exact grow_below wo kk os); have n1 := Aside0.mk (HB.out.trans (hb.mono HB.out.size)); have n2 := Aside0.mk (Kd.R_below HO.out hb); clear HB HO hw hb; have HB := n1; have HO := n2; clear n1 n2) | ((with_reducible refine gate_builtin (b := .append) (xs := #[.tmp 9, .tmp 16]) rfl ?_); at_builtin; refine Kd.R_append Kd.string (w0 := w) w.heap.size rfl (.tmp 9) (.tmp 16) 40 9 (.string ⟨#[]⟩) 16 rfl Tryd.underlying40 infoStr rfl (by decide) (by omega) u3 xs (strS x) [.string (strS x)] (fun _ => True) (fun _ => False) rfl rfl ?aP (fun _ hk => hk.elim) ?aF ?aO ?aB ?aS ?aL ?_; (case aP => exact rfl); (case aF => exact (fun _ _ => trivial)); (case aO => exact HO.out); (case aB => exact HB.out); (case aS => exact HB.out.size); (case aL => have := HLN.out; omega); intro v1 w2 ho hb hg hat; have n1 := Aside0.mk hb; have n2 := Aside0.mk ho; clear HB HO ho hb hg hat; have HB := n1; have HO := n2; clear n1 n2))
      go_roundg k1
      case measure => omega
      case rel => exact ⟨4, -8, rfl, ⟨by have := HJ.out.1; omega⟩, ⟨by rw [← HL.out]; exact HO.out⟩, HB⟩
    · obtain rfl : i = -8 := by have := HJ.out.2; omega
      have HO1 := Aside0.mk (Kd.own_of_R HO.out)
      have h4 := HO1.out
      rw [show (((octs a).take 4).map strS).length = 4 from rfl] at h4
      obtain ⟨hl, ⟨_, h5⟩ | ⟨g, cap, cur, rfl, hbg, hg, hn, hcm, hcs, htk⟩⟩ := h4
      · exact absurd h5 (by decide)
      have hcells : ∀ (j : Nat) x, ((octs a).map strS)[j]? = some x → wo.cell? ⟨g, 0 + j, none⟩ = some (.string x) := fun j x hj => by
        have hj4 : j < 4 := by
          rcases Nat.lt_or_ge j 4 with h | h
          · exact h
          · rw [List.getElem?_eq_none (by show 4 ≤ j; exact h)] at hj
            cases hj
        have e1 : cur.toList.take (4 * 1) = ((octs a).map strS).map Value.string := htk
        have e2 : (cur.toList.take (4 * 1))[j]? = some (.string x) := by rw [e1, List.getElem?_map, hj]; rfl
        rw [List.getElem?_take, if_pos (by omega)] at e2
        rw [Nat.zero_add]
        exact (blk_cell hg j).trans (by simpa using e2)
      have hlen : (Lib.join (((octs a).map strS).map (·.data.toList)) (⟨#[46]⟩ : ByteArray).data.toList).length ≤ 140737488355328 := by have := show_len a; exact Nat.le_trans this (by decide)
      have hj := Tryd.strings_Join g 0 cap ((octs a).map strS) ⟨#[46]⟩ wo hcells (blk_lt hg) (by show 4 ≤ 140737488355328; decide) (by show 4 ≤ cap; omega) hlen
      have HJN : Aside0 (Calls Tryd.prog 17 #[.slice (some ⟨g, 0, none⟩) 4 cap, .string ⟨#[46]⟩] wo fun e w' => e = .returned (.string ⟨(showL a).toArray⟩) ∧ Below wo.heap.size wo w') := ⟨hj⟩
      clear hj hlen hcells hl hbg hg hn hcm hcs htk HO HO1
      go_wp2_with (first | (go_at_call 17; refine HJN.out.mono ?_; rintro e' w1 ⟨rfl, hb⟩; have HB1 := Aside0.mk (HB.out.trans (hb.mono HB.out.size)); clear hb))
      go_ret
      exact ⟨rfl, HB1.out⟩
end Go.Proofs.YthnhpbplglmmmaaDoor.P
