/- The walk of ip.Read over the shelf's contracts (strings.SplitN, strconv.ParseUint). No statement of its own. -/
import Derived.Test.YthnhpbplglmmmaaDoorPureLibSp
import Derived.Test.YthnhpbplglmmmaaDoorPureLib5
namespace Go.Proofs.YthnhpbplglmmmaaDoor.Pure
open Go.RowKit Go.Proofs.YthnhpbplglmmmaaDoor.P Go.Proofs.YthnhpbplglmmmaaDoorW.PrintWords Go.Proofs.YthnhpbplglmmmaaDoorW.PrintLast Go.Proofs.YthnhpbplglmmmaaDoorW.PrintMore
set_option linter.unusedVariables false
set_option linter.unusedSimpArgs false
def ErrsAt (w : World) : Prop := (∃ t p, w.cell? ⟨0, 0, none⟩ = some (.iface t p)) ∧ (∃ t p, w.cell? ⟨1, 0, none⟩ = some (.iface t p))
theorem ErrsAt.below {w W : World} (h : ErrsAt w) (hb : Below w.heap.size w W) : ErrsAt W := by
  obtain ⟨⟨t, p, h1⟩, ⟨t', p', h2⟩⟩ := h
  exact ⟨⟨t, p, (hb.cell (World.block_lt_of_cell? w _ h1)).trans h1⟩, ⟨t', p', (hb.cell (World.block_lt_of_cell? w _ h2)).trans h2⟩⟩
/-- what the shelf's contracts ask of the world -/
def Good (w : World) : Prop := Tab w ∧ (∃ m, w.cell? ⟨3, 0, none⟩ = some (.int .i64 m)) ∧ ErrsAt w
theorem Good.below {w W : World} (h : Good w) (hb : Below w.heap.size w W) : Good W := by
  obtain ⟨h1, ⟨m, h2⟩, h3⟩ := h
  exact ⟨h1.below hb, ⟨m, (hb.cell (World.block_lt_of_cell? w _ h2)).trans h2⟩, h3.below hb⟩
theorem parse_ok (p : ByteArray) (hp : p.size ≤ 100000) (u : Nat) (h : Lib.parseUintB 8 p.data.toList = .ok u) (W : World) :
    Calls Tryd.prog 19 #[.string p, .int .i64 10, .int .i64 8] W fun e w' => e = .returned (.tuple #[.int .u64 u, .nilIface]) ∧ Below W.heap.size W w' := by
  refine (Tryd.strconv_ParseUint_10_at8_ok p (by omega) u h W).mono ?_
  rintro e w' ⟨rfl, rfl | rfl⟩
  · exact ⟨rfl, Below.refl _ _⟩
  · exact ⟨rfl, Lib.bytesWorld_below _ _ _⟩
theorem parse_bad (p : ByteArray) (hp : p.size ≤ 100000) (h : ∀ u, Lib.parseUintB 8 p.data.toList ≠ .ok u) (W : World) (he : ErrsAt W) :
    Calls Tryd.prog 19 #[.string p, .int .i64 10, .int .i64 8] W fun e w' => (∃ (v : Int) (t : TypeId) (a : Addr), e = .returned (.tuple #[.int .u64 v, .iface t (.pointer (some a))])) ∧ Below W.heap.size W w' := by
  obtain ⟨⟨t, x, h1⟩, ⟨t', x', h2⟩⟩ := he
  cases hc : Lib.parseUintB 8 p.data.toList with
  | ok u => exact absurd hc (h u)
  | «syntax» =>
    refine (Tryd.strconv_ParseUint_10_at8_syntax p (by omega) hc _ W h1 (Or.inr ⟨t, x, rfl⟩)).mono ?_
    rintro e w' ⟨N, rfl, _, _, hb⟩
    exact ⟨⟨_, _, _, rfl⟩, hb⟩
  | range =>
    refine (Tryd.strconv_ParseUint_10_at8_range p (by omega) hc _ W h2 (Or.inr ⟨t', x', rfl⟩)).mono ?_
    rintro e w' ⟨N, rfl, _, _, hb⟩
    exact ⟨⟨_, _, _, rfl⟩, hb⟩
theorem extract_le (s : ByteArray) (a b : Nat) : (s.extract a b).size ≤ s.size := by
  rw [ByteArray.size_extract]
  omega
theorem split_sizes (sep : ByteArray) : ∀ (k : Nat) (s : ByteArray), ∀ p ∈ Lib.splitB sep 0 k s, p.size ≤ s.size
  | 0, s, p, h => by
    rw [Lib.splitB_zero, List.mem_singleton] at h
    rw [h]
    exact Nat.le_refl _
  | k + 1, s, p, h => by
    unfold Lib.splitB at h
    split at h
    · rw [List.mem_singleton] at h
      rw [h]
      exact Nat.le_refl _
    · rcases List.mem_cons.mp h with h | h
      · rw [h]
        exact extract_le _ _ _
      · exact Nat.le_trans (split_sizes sep k _ p h) (extract_le _ _ _)
theorem cellsOf_at (ps : List ByteArray) (N j : Nat) (p : ByteArray) (h : ps[j]? = some p) : (Lib.cellsOf ps N)[j]? = some (.string p) := by
  have hj : j < ps.length := by
    rcases Nat.lt_or_ge j ps.length with h1 | h1
    · exact h1
    · rw [List.getElem?_eq_none h1] at h
      cases h
  unfold Lib.cellsOf
  rw [List.getElem?_toArray, List.getElem?_append_left (by rw [List.length_map]; exact hj), List.getElem?_map, h]
  rfl
theorem or_part (x u : Int) (hu : 0 ≤ u ∧ u ≤ 255) : Go.bits .or .u32 (x * 256 % 4294967296) u = x * 256 % 4294967296 + u :=
  or32 8 _ _ (by omega) (by omega) (by show _ % 256 = _; omega) (by decide) hu.1 (by show _ < 256; omega) (by omega)
theorem toList_inj {a b : ByteArray} (h : a.toList = b.toList) : a = b := by
  rw [Lib.toList_data, Lib.toList_data] at h
  exact ByteArray.ext (Array.toList_inj.mp h)
set_option maxHeartbeats 4000000 in
set_option maxRecDepth 100000 in
theorem ip_Read.walk (s : ByteArray) (m : Int) (hs : s.size ≤ 100000) (w : World) (ht : Tab w) (hm : w.cell? ⟨3, 0, none⟩ = some (.int .i64 m)) (he : ErrsAt w) :
    Calls Tryd.prog 8 #[.string s] w fun e w' => e = .returned (.tuple #[.int .u32 (readL s).1, .bool (readL s).2]) ∧ Below w.heap.size w w' := by
  obtain ⟨ps, hps⟩ : ∃ ps, ps = Lib.splitB (toS [46]) 0 (min 5 (s.size + 1) - 1) s := ⟨_, rfl⟩
  obtain ⟨n, hn⟩ : ∃ n, n = min 5 (s.size + 1) := ⟨_, rfl⟩
  have HSP : Aside0 (Calls Tryd.prog 18 #[.string s, .string ⟨#[46]⟩, .int .i64 5] w fun e w' => e = .returned (.slice (some ⟨w.heap.size, 0, none⟩) ps.length n) ∧ w' = w.alloc (.cells (Lib.cellsOf ps n) 9)) := ⟨by
    rw [hps, hn]
    exact Tryd.strings_SplitN s ⟨#[46]⟩ 5 m w (by omega) hm (by decide) (by decide) (by decide)⟩
  have HPL : Aside0 (ps.length ≤ 5) := ⟨by rw [hps]; have := Lib.splitB_length_le (toS [46]) 0 (min 5 (s.size + 1) - 1) s; omega⟩
  have HPS : Aside0 (∀ p ∈ ps, p.size ≤ 100000) := ⟨fun p hp => by rw [hps] at hp; have := split_sizes _ _ _ p hp; omega⟩
  have HRD : Aside0 (readL s = match partsF 0 ps with | none => (0, false) | some a => if toS (showL a) = s then (a, true) else (0, false)) := ⟨by rw [hps]; rfl⟩
  have HT := Aside0.mk ht
  have HE := Aside0.mk he
  obtain ⟨ra, hra⟩ : ∃ x, x = (readL s).1 := ⟨_, rfl⟩
  obtain ⟨rb, hrb⟩ : ∃ x, x = (readL s).2 := ⟨_, rfl⟩
  have HRA : Aside0 ((ra, rb) = match partsF 0 ps with | none => (0, false) | some a => if toS (showL a) = s then (a, true) else (0, false)) := ⟨by rw [hra, hrb, ← HRD.out]⟩
  rw [← hra, ← hrb]
  clear hra hrb HRD hps hn ht hm he hs
  go_enter Tryd.func8, Tryd.ntmps8
  go_wp2_with (first
    | (go_at_call 18; refine HSP.out.mono ?_; rintro e' w1 ⟨rfl, hw⟩; have HB : Aside0 (Below w.heap.size w w1) := ⟨by rw [hw]; exact (Below.refl _ w).alloc (Nat.le_refl _) _⟩; have HC : Aside0 (w1.heap[w.heap.size]? = some (.cells (Lib.cellsOf ps n) 9 (0, 0))) := ⟨by rw [hw]; exact heap_alloc_new _ _⟩; clear hw HSP))
  go_loopg [4, 12] 5 (fun kq v4 v12 w' => ∃ (x : Int) (j : Nat), v4 = .int .u32 x ∧ v12 = .int .i64 (j : Int) ∧ Aside0 (kq + j = 5 ∧ j ≤ ps.length) ∧ Aside0 ((0 ≤ x ∧ x < 4294967296) ∧ partsF 0 ps = partsF x (ps.drop j)) ∧ Aside0 (Below w.heap.size w w') ∧ Aside0 (w'.heap[w.heap.size]? = some (.cells (Lib.cellsOf ps n) 9 (0, 0))))
  case atStart => exact ⟨0, 0, rfl, rfl, ⟨by omega, Nat.zero_le _⟩, ⟨⟨by decide, by decide⟩, rfl⟩, HB, HC⟩
  case round =>
    clear HB HC
    obtain ⟨x, j, rfl, rfl, HJ, HX, HB, HC⟩ := hrel
    by_cases hj : j < ps.length
    · obtain ⟨p, hp⟩ : ∃ p, ps[j]? = some p := ⟨ps[j], List.getElem?_eq_getElem hj⟩
      have HDR : Aside0 (ps.drop j = p :: ps.drop (j + 1)) := ⟨by rw [List.drop_eq_getElem_cons hj]; congr 1; rw [List.getElem?_eq_getElem hj] at hp; exact Option.some.inj hp⟩
      have HPZ : Aside0 (p.size ≤ 100000) := ⟨HPS.out p (List.mem_of_getElem? hp)⟩
      have hc0 : wr.cell? ⟨w.heap.size, 0 + j, none⟩ = some (.string p) := by rw [Nat.zero_add]; exact (blk_cell HC.out j).trans (cellsOf_at _ _ _ _ hp)
      have hc1 : wr.cell? ⟨w.heap.size, j, none⟩ = some (.string p) := (blk_cell HC.out j).trans (cellsOf_at _ _ _ _ hp)
      have q1 : decide ((j : Int) < (ps.length : Int)) = true := decide_eq_true (by omega)
      have q2 : decide (j < ps.length) = true := decide_eq_true hj
      have r3 : wrap64 ((j : Int) + 1) = ((j + 1 : Nat) : Int) := by have := HPL.out; unfold wrap64; omega
      obtain ⟨k1, rfl⟩ : ∃ k1, gk = k1 + 1 := ⟨gk - 1, by have := HJ.out.1; have := HPL.out; omega⟩
      have HJL : Aside0 (j < ps.length) := ⟨hj⟩
      clear hp hj
      by_cases hu : ∃ u, Lib.parseUintB 8 p.data.toList = .ok u
      · obtain ⟨u, hu⟩ := hu
        obtain ⟨y, hy⟩ : ∃ y : Int, y = (u : Int) := ⟨_, rfl⟩
        have HU : Aside0 (0 ≤ y ∧ y ≤ 255) := ⟨by have := Lib.parseUintB_le hu; omega⟩
        have HPO : Aside0 (∀ W, Calls Tryd.prog 19 #[.string p, .int .i64 10, .int .i64 8] W fun e w' => e = .returned (.tuple #[.int .u64 y, .nilIface]) ∧ Below W.heap.size W w') := ⟨fun W => by rw [hy]; exact parse_ok p HPZ.out u hu W⟩
        have r1 : y % 4294967296 = y := by have := HU.out; omega
        obtain ⟨z, hz⟩ : ∃ z, z = x * 256 % 4294967296 + y := ⟨_, rfl⟩
        have r2 : Go.bits .or .u32 (x * 256 % 4294967296) y = z := by rw [hz]; exact or_part x y HU.out
        have HX1 : Aside0 ((0 ≤ z ∧ z < 4294967296) ∧ partsF 0 ps = partsF z (ps.drop (j + 1))) := ⟨by
          refine ⟨by have := HU.out; omega, ?_⟩
          rw [HX.out.2, HDR.out, partsF, hu, hz, hy]⟩
        clear hu hy hz
        go_wp2_with (first | (go_at_call 19; refine (HPO.out _).mono ?_; rintro e' w2 ⟨rfl, hb⟩; have HB1 := Aside0.mk (HB.out.trans (hb.mono HB.out.size)); have HC1 := Aside0.mk (blk_below HC.out hb); clear hb hc0 hc1))
        all_goals try (exfalso; have := HJL.out; omega)
        go_roundg k1
        case measure => omega
        case rel => exact ⟨z, j + 1, rfl, congrArg _ r3, ⟨by have := HJ.out; have := HJL.out; omega⟩, HX1, HB1, HC1⟩
      · have HPO : Aside0 (∀ W, ErrsAt W → Calls Tryd.prog 19 #[.string p, .int .i64 10, .int .i64 8] W fun e w' => (∃ (v : Int) (t : TypeId) (a : Addr), e = .returned (.tuple #[.int .u64 v, .iface t (.pointer (some a))])) ∧ Below W.heap.size W w') := ⟨fun W hW => parse_bad p HPZ.out (fun u e => hu ⟨u, e⟩) W hW⟩
        have HN : Aside0 (ra = 0 ∧ rb = false) := ⟨by
          have h := HRA.out
          have e : partsF 0 ps = none := by
            rw [HX.out.2, HDR.out, partsF]
            split
            · rename_i u e
              exact absurd ⟨u, e⟩ hu
            · rfl
          rw [e] at h
          exact ⟨congrArg Prod.fst h, congrArg Prod.snd h⟩⟩
        clear hu
        go_wp2_with (first | (go_at_call 19; refine (HPO.out _ (HE.out.below HB.out)).mono ?_; rintro e' w2 ⟨⟨v, t, a, rfl⟩, hb⟩; have HB1 := Aside0.mk (HB.out.trans (hb.mono HB.out.size)); clear hb hc0 hc1))
        all_goals try (exfalso; have := HJL.out; omega)
        go_ret2
        exact ⟨by rw [HN.out.1, HN.out.2]; rfl, HB1.out⟩
    · have q1 : decide ((j : Int) < (ps.length : Int)) = false := decide_eq_false (by omega)
      have q2 : decide (j < ps.length) = false := decide_eq_false hj
      obtain ⟨S, hS⟩ : ∃ S, S = toS (showL x) := ⟨_, rfl⟩
      have HSH : Aside0 (Calls Tryd.prog 7 #[.int .u32 x] wr fun e w' => e = .returned (.string S) ∧ Below wr.heap.size wr w') := ⟨by rw [hS]; exact ip_Show.walk x HX.out.1.1 HX.out.1.2 wr (HT.out.below HB.out)⟩
      have HN : Aside0 ((ra, rb) = if S = s then (x, true) else (0, false)) := ⟨by
        rw [HRA.out, HX.out.2, List.drop_eq_nil_of_le (by omega), hS]
        rfl⟩
      clear hj hS
      by_cases h : S = s
      · have HN1 : Aside0 (ra = x ∧ rb = true) := ⟨by have h1 := HN.out; rw [if_pos h] at h1; exact ⟨congrArg Prod.fst h1, congrArg Prod.snd h1⟩⟩
        have b0 : (S.toList == s.toList) = true := by rw [h]; exact beq_self_eq_true _
        have b1 : (S.toList != s.toList) = false := by rw [h]; exact bne_self_eq_false _
        clear h
        go_wp2_with (first | (go_at_call 7; refine HSH.out.mono ?_; rintro e' w2 ⟨rfl, hb⟩; have HB1 := Aside0.mk (HB.out.trans (hb.mono HB.out.size)); clear hb))
        go_ret2
        exact ⟨by rw [HN1.out.1, HN1.out.2]; rfl, HB1.out⟩
      · have HN1 : Aside0 (ra = 0 ∧ rb = false) := ⟨by have h1 := HN.out; rw [if_neg h] at h1; exact ⟨congrArg Prod.fst h1, congrArg Prod.snd h1⟩⟩
        have hne : S.toList ≠ s.toList := fun e => h (toList_inj e)
        have b0 : (S.toList == s.toList) = false := beq_eq_false_iff_ne.mpr hne
        have b1 : (S.toList != s.toList) = true := bne_iff_ne.mpr hne
        clear h hne
        go_wp2_with (first | (go_at_call 7; refine HSH.out.mono ?_; rintro e' w2 ⟨rfl, hb⟩; have HB1 := Aside0.mk (HB.out.trans (hb.mono HB.out.size)); clear hb))
        go_ret2
        exact ⟨by rw [HN1.out.1, HN1.out.2]; rfl, HB1.out⟩
end Go.Proofs.YthnhpbplglmmmaaDoor.Pure
