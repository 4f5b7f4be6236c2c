/- A walk of line.Put. No statement of its own. -/
import Derived.Test.YtnbanjbhjjhkdaaDoorPureLibTt
import Derived.Test.YtnbanjbhjjhkdaaDoorPline
import Derived.Test.YtnbanjbhjjhkdaaDoorPEq0
namespace Go.Proofs.YtnbanjbhjjhkdaaDoor.P
open Go.RowKit Go.Proofs.YtnbanjbhjjhkdaaDoorW.PrintWords Go.Proofs.YtnbanjbhjjhkdaaDoorW.PrintLast Go.Proofs.YtnbanjbhjjhkdaaDoorW.PrintMore
set_option linter.unusedVariables false
set_option linter.unusedSimpArgs false
theorem textL_len (kind a p : Int) (h : 0 ≤ a) : (textL kind a p).length ≤ 100 := by
  unfold textL
  have h1 := show_len a
  split
  · simp
  · have h2 := itoa_len5 p (by omega)
    have h3 := itoa_len5 (p / 256) (by omega)
    have h4 := itoa_len5 (p % 256) (by omega)
    split
    · rw [replace_dots]
      simp only [List.length_append, List.length_map, List.length_cons, List.length_nil]
      omega
    · split
      · simp only [List.length_append, List.length_map, List.length_cons, List.length_nil]
        omega
      · split
        · simp only [List.length_append, List.length_map, List.length_cons, List.length_nil]
          omega
        · simp
theorem bytesOf_app (S T : ByteArray) : bytesOf (S ++ T) = bytesOf S ++ bytesOf T := by
  unfold bytesOf
  rw [ByteArray.data_append, Array.toList_append, List.map_append]
theorem bytesOf_str (b : List Int) (h : ∀ x ∈ b, 0 ≤ x ∧ x ≤ 255) : bytesOf (strOfNums b) = b := by
  unfold bytesOf
  rw [strOfNums_data]
  exact line_back b h
theorem bytesOf_toS (b : List UInt8) : bytesOf (toS b) = b.map fun c => (c.toNat : Int) := rfl
set_option maxHeartbeats 4000000 in
set_option maxRecDepth 100000 in
theorem line_Put.r7 {s1 s2 s3 s5 s6 s7 s8 s9 s11 s12 s13 s14 s15 s16 s17 s18 s19 s20 s21 s22 s23 s24 s25 s26 s27 s28 s29 s30 s31 s32 s33 s34 s35 s36 s37 s38 s39 s40 s41 s42 s43 s44 s45 s46 s47 : Value} (A : Option Addr) (c : Nat) (l : List Int) (f t : Nat) (S : ByteArray) (q : Nat) (w : World)
    (hq1 : w.cell? ⟨q, 1, none⟩ = some (.int .i64 f)) (hq2 : w.cell? ⟨q, 2, none⟩ = some (.int .i64 t)) (hr : Kd.C (Kd.int .u8) w A l.length l) (hc : l.length ≤ c) (hf : f ≤ l.length) (ht : t ≤ l.length) (hS : S.size ≤ 1000) (hl : l.length ≤ 140737488351232) (hby : ∀ x ∈ l, 0 ≤ x ∧ x ≤ 255)
    (Q : Exit → Act → World → Prop) (hQ : ∀ (y34 y35 y36 y37 y38 y39 y40 y41 y42 y43 y44 y45 y46 y47 : Value) (A' : Option Addr) (n' c' : Nat) (W' : World), n' = (l.take f ++ bytesOf S ++ l.drop t).length → Kd.C (Kd.int .u8) W' A' n' (l.take f ++ bytesOf S ++ l.drop t) → n' ≤ c' → Below w.heap.size w W' → Q .normal ⟨#[.slice A l.length c, s1, s2, s3, .pointer (some ⟨q, 0, none⟩), s5, .slice A' n' c', .int .i64 0, s8, s9, .string S, s11, s12, s13, s14, s15, s16, s17, s18, s19, s20, s21, s22, s23, s24, s25, s26, s27, s28, s29, s30, s31, s32, s33, y34, y35, y36, y37, y38, y39, y40, y41, y42, y43, y44, y45, y46, y47], []⟩ W') :
    (regionIn 7 Tryd.f11).wp Tryd.prog Q ⟨#[.slice A l.length c, s1, s2, s3, .pointer (some ⟨q, 0, none⟩), s5, s6, s7, s8, s9, .string S, s11, s12, s13, s14, s15, s16, s17, s18, s19, s20, s21, s22, s23, s24, s25, s26, s27, s28, s29, s30, s31, s32, s33, s34, s35, s36, s37, s38, s39, s40, s41, s42, s43, s44, s45, s46, s47], []⟩ w := by
  have hu32 := Tryd.underlying32
  have hu5 := Tryd.underlying5
  have hu9 := Tryd.underlying9
  have HR := Aside0.mk hr
  have HQ := Aside0.mk hQ
  obtain ⟨ti, hti, htz⟩ : ∃ i, Tryd.prog.info? 5 = some i ∧ i.size = 1 := by
    have h := info5
    obtain ⟨i, h1, h2⟩ := Option.map_eq_some_iff.mp h
    exact ⟨i, h1, (Prod.mk.inj (Prod.mk.inj h2).2).1⟩
  obtain ⟨k1, k2, k3⟩ := print_take_of (P := Tryd.prog) (Value.int .u8) (0 : Int) 32 5 .i64 hu32 hti htz A c l f (by omega) (by omega) hc
  obtain ⟨A2, k4, k5, k6⟩ := print_drop_of (P := Tryd.prog) (Value.int .u8) (0 : Int) 32 5 .i64 hu32 hti htz A c l t (by omega) (by omega) hc
  rw [Int.toNat_natCast] at k1 k2 k3 k4 k5 k6
  obtain ⟨n1, hn1⟩ : ∃ n, n = (l.take f).length := ⟨_, rfl⟩
  obtain ⟨n2, hn2⟩ : ∃ n, n = (l.drop t).length := ⟨_, rfl⟩
  rw [← hn1] at k1 k2 k3
  rw [← hn2] at k4 k5 k6
  obtain ⟨S1, hS1⟩ : ∃ S, S = strOfNums (l.take f) := ⟨_, rfl⟩
  obtain ⟨S2, hS2⟩ : ∃ S, S = strOfNums (l.drop t) := ⟨_, rfl⟩
  have c1 : ∀ W, Below w.heap.size w W → (convert 32 9 (.slice A n1 c)).run Tryd.prog W = .ok (.string S1) W := fun W hb => by
    rw [hS1]
    exact string_of_reads hu32 hu5 hu9 (k2 W (Kd.reads_of_C (enc := Value.int .u8) (d := (0 : Int)) (h1 := fun _ => rfl) (Kd.C_below hr hb)))
  have c2 : ∀ W, Below w.heap.size w W → (convert 32 9 (.slice A2 n2 (c - t))).run Tryd.prog W = .ok (.string S2) W := fun W hb => by
    rw [hS2]
    exact string_of_reads hu32 hu5 hu9 (k5 W (Kd.reads_of_C (enc := Value.int .u8) (d := (0 : Int)) (h1 := fun _ => rfl) (Kd.C_below hr hb)))
  have z1 : S1.size ≤ 140737488351232 := by rw [hS1, strOfNums_size, List.length_take]; omega
  have z2 : S2.size ≤ 140737488351232 := by rw [hS2, strOfNums_size, List.length_drop]; omega
  have t1 : ¬ (9223372036854775807 < S1.size + S.size) := by omega
  have t2 : ¬ (9223372036854775807 < S1.size + S.size + S2.size) := by omega
  have kb := fun W => print_bytes (P := Tryd.prog) 9 32 5 hu9 hu32 hu5 (S1 ++ S ++ S2) W
  have C1 := Aside0.mk c1
  have C2 := Aside0.mk c2
  have HS1 := Aside0.mk hS1
  have HS2 := Aside0.mk hS2
  have HZ := Aside0.mk (And.intro z1 z2)
  have HSZ := Aside0.mk hS
  have HL := Aside0.mk (And.intro hf ht)
  have HBY := Aside0.mk hby
  have HB := Aside0.mk (Below.refl w.heap.size w)
  have cc1 := c1 _ HB.out
  have cc2 := c2 _ HB.out
  have HQ1 := Aside0.mk hq1
  have HQ2 := Aside0.mk hq2
  clear hby hn1 hn2 hr hQ hS1 hS2 c1 c2 z1 z2 hS hl hf ht k2 k3 k5 k6 hti htz hc
  conv => arg 2; whnf
  refine wp_region_noPanic ?_
  have hx := bytes_below (below_drew HB.out) (Nat.le_refl _) 5 (S1 ++ S ++ S2)
  have hs : (S1 ++ S ++ S2).size = S1.size + S.size + S2.size := by rw [ByteArray.size_append, ByteArray.size_append]
  have hz := HZ.out
  have hz2 := HSZ.out
  have hrd := bytes_reads w.drew 5 (S1 ++ S ++ S2) (by rw [hs]; omega)
  have e : bytesOf (S1 ++ S ++ S2) = l.take f ++ bytesOf S ++ l.drop t := by
    rw [bytesOf_app, bytesOf_app, HS1.out, HS2.out, bytesOf_str _ (fun x hx => HBY.out x (List.mem_of_mem_take hx)), bytesOf_str _ (fun x hx => HBY.out x (List.mem_of_mem_drop hx))]
  have e2 : S1.size + S.size + S2.size = (l.take f ++ bytesOf S ++ l.drop t).length := by rw [← e, bytesOf_length, hs]
  rw [e, hs] at hrd
  have R := Aside0.mk (And.intro e2 (And.intro hrd hx))
  have d1 := C1.out _ (below_drew HB.out)
  have d2 := C2.out _ (below_drew HB.out)
  have hqd1 : w.drew.cell? ⟨q, 1, none⟩ = some (.int .i64 f) := HQ1.out
  have hqd2 : w.drew.cell? ⟨q, 2, none⟩ = some (.int .i64 t) := HQ2.out
  clear e e2 hrd hx hs hz hz2
  go_region_law (fail)
  all_goals exact NoPanic.normal (HQ.out _ _ _ _ _ _ _ _ _ _ _ _ _ _ (some ⟨w.heap.size, 0, none⟩) (S1.size + S.size + S2.size) (grownCap w.drew (S1.size + S.size + S2.size) 0 5) _ R.out.1 (Kd.C_of_reads (enc := Value.int .u8) (d := (0 : Int)) (h1 := fun _ => rfl) R.out.2.1) (grownCap_ge _ _ _ _) R.out.2.2)
theorem eqA_line (d : Nat) (w : World) (x0 y0 x1 y1 x2 y2 x3 y3 x4 y4 : Int) :
    (Op.equalIn (d + 3) 34 (.agg #[.int .i64 x0, .int .i64 x1, .int .i64 x2, .int .u32 x3, .int .i64 x4]) (.agg #[.int .i64 y0, .int .i64 y1, .int .i64 y2, .int .u32 y3, .int .i64 y4])).run Tryd.prog w = .ok (x0 == y0 && (x1 == y1 && (x2 == y2 && ((x3 == y3 && (x4 == y4)))))) w := by
  refine eqA_of Tryd.underlying34 (by kernel_rfl) ?_
  refine eqf_cons (by rfl) (by go_simp; rfl) (by go_simp; rfl) (by go_simp) ?_
  refine eqf_cons (by rfl) (by go_simp; rfl) (by go_simp; rfl) (by go_simp) ?_
  refine eqf_cons (by rfl) (by go_simp; rfl) (by go_simp; rfl) (by go_simp) ?_
  exact eqf_last (by rfl) (by go_simp) (by go_simp) (eqA24 (d + 0) w _ _ _ _)
attribute [local go_sem high] eqA_line
def putL (l : List Int) (k f t a p ea ep : Int) : List Int × Int :=
  match line_Find.f l with
  | some (r1, r2, r3, r4, r5, r6) => if r6 = true ∧ r1 = k ∧ r2 = f ∧ r3 = t ∧ r4 = a ∧ r5 = p then (if textE k ep = 0 then (l.take f.toNat ++ (textL k ea ep).map (fun c => (c.toNat : Int)) ++ l.drop t.toNat, 0) else ([], textE k ep)) else ([], 1)
  | none => ([], 1)
theorem Kd.C_nil (w : World) : Kd.C (Kd.int .u8) w none 0 ([] : List Int) := Kd.C_of_reads (enc := Value.int .u8) (d := (0 : Int)) (h1 := fun _ => rfl) ⟨rfl, by decide, fun h => absurd h (by decide)⟩
theorem below_put {B g : Nat} {w w' : World} {cs : Array Value} (h : Below B w w') (hg : B ≤ g) : Below B w (w'.setRow g cs) :=
  ⟨h.os, h.tape, h.output, (by have := h.size; simpa [World.setRow] using this), fun k hk => (setRow_other w' g k cs (by omega)).trans (h.block k hk)⟩
set_option maxHeartbeats 4000000 in
set_option maxRecDepth 100000 in
theorem line_Put.calls (A : Option Addr) (c : Nat) (l : List Int) (k f t a p ea ep m : Int) (w : World) (hr : Kd.C (Kd.int .u8) w A l.length l) (hc : l.length ≤ c) (hl : l.length ≤ 140737488351232) (hby : ∀ x ∈ l, 0 ≤ x ∧ x ≤ 255)
    (h0 : 0 ≤ ea ∧ ea < 4294967296) (ht : Tab w) (hm : w.cell? ⟨0, 0, none⟩ = some (.int .i64 m))
    (hfb : ∀ r1 r2 r3 r4 r5, line_Find.f l = some (r1, r2, r3, r4, r5, true) → 0 ≤ r2 ∧ r2 ≤ l.length ∧ 0 ≤ r3 ∧ r3 ≤ l.length) :
    Calls Tryd.prog 11 #[.slice A l.length c, .agg #[.int .i64 k, .int .i64 f, .int .i64 t, .int .u32 a, .int .i64 p], .agg #[.int .u32 ea, .int .i64 ep]] w fun e w' => ∃ A' n' c', e = .returned (.tuple #[.slice A' n' c', .int .i64 (putL l k f t a p ea ep).2]) ∧ n' = (putL l k f t a p ea ep).1.length ∧ Kd.C (Kd.int .u8) w' A' n' (putL l k f t a p ea ep).1 ∧ n' ≤ c' ∧ Below w.heap.size w w' := by
  have hu26 := Tryd.underlying24
  have hu28 := Tryd.underlying34
  obtain ⟨r1, r2, r3, r4, r5, r6, hf⟩ : ∃ r1 r2 r3 r4 r5 r6, line_Find.f l = some (r1, r2, r3, r4, r5, r6) := by
    unfold line_Find.f
    rw [if_pos hby]
    split <;> exact ⟨_, _, _, _, _, _, rfl⟩
  obtain ⟨X, hX⟩ : ∃ X, X = putL l k f t a p ea ep := ⟨_, rfl⟩
  have hX1 : X = if r6 = true ∧ r1 = k ∧ r2 = f ∧ r3 = t ∧ r4 = a ∧ r5 = p then (if textE k ep = 0 then (l.take f.toNat ++ (textL k ea ep).map (fun c => (c.toNat : Int)) ++ l.drop t.toNat, 0) else ([], textE k ep)) else ([], 1) := by
    rw [hX]
    unfold putL
    rw [hf]
  rw [← hX]
  have HX := Aside0.mk hX1
  have HR := Aside0.mk hr
  have HC := Aside0.mk hc
  have HL := Aside0.mk hl
  have HBY := Aside0.mk hby
  have HA := Aside0.mk h0
  have HT := Aside0.mk ht
  have HM := Aside0.mk hm
  have HF := Aside0.mk hf
  have HFB := Aside0.mk hfb
  obtain ⟨W0, hW0⟩ : ∃ W, W = (w.alloc (.cells #[.int .i64 k, .int .i64 f, .int .i64 t, .int .u32 a, .int .i64 p] 34 (0, 0))).alloc (.cells #[.int .u32 ea, .int .i64 ep] 24 (0, 0)) := ⟨_, rfl⟩
  have HB : Aside0 (Below w.heap.size w W0) := ⟨by rw [hW0]; exact ((Below.refl _ w).alloc (Nat.le_refl _) _).alloc (by show w.heap.size ≤ (w.heap.push _).size; rw [Array.size_push]; omega) _⟩
  have HLB : Aside0 (W0.heap[w.heap.size]? = some (.cells #[.int .i64 k, .int .i64 f, .int .i64 t, .int .u32 a, .int .i64 p] 34 (0, 0))) := ⟨by rw [hW0]; exact blk_alloc (heap_alloc_new _ _) _⟩
  have HEB : Aside0 (W0.heap[w.heap.size + 1]? = some (.cells #[.int .u32 ea, .int .i64 ep] 24 (0, 0))) := ⟨by rw [hW0]; exact (show (w.alloc (.cells #[.int .i64 k, .int .i64 f, .int .i64 t, .int .u32 a, .int .i64 p] 34 (0, 0))).heap.size = w.heap.size + 1 from Array.size_push ..) ▸ heap_alloc_new _ _⟩
  have HW0 := Aside0.mk hW0
  clear hX hX1 hr hc hl hby h0 ht hm hf hfb hW0
  go_enter Tryd.func11, Tryd.ntmps11
  go_upto_region 1 with (fail)
  rw [← HW0.out]
  go_upto_region 2 with (first
    | (go_at_call 10; refine (line_Find.calls A c l r1 r2 r3 r4 r5 r6 _ (Kd.C_below HR.out HB.out) HC.out HF.out).mono ?_; rintro e' w1 ⟨rfl, hb⟩; have n1 := Aside0.mk (blk_below HLB.out hb); have n2 := Aside0.mk (blk_below HEB.out hb); have n3 := Aside0.mk (HB.out.trans (hb.mono HB.out.size)); clear HLB HEB HB HW0; have HLB := n1; have HEB := n2; have HB := n3; clear n1 n2 n3 hb)
    | (refine wpList_store_row rfl 34 (.tmp 8) (.tmp 15) rfl w1.heap.size #[.int .i64 r1, .int .i64 r2, .int .i64 r3, .int .u32 r4, .int .i64 r5] (by rfl) (by rfl) 34 #[.int .i64 0, .int .i64 0, .int .i64 0, .int .u32 0, .int .i64 0] (heap_alloc_new _ _) (by kernel_rfl) rfl (by kernel_rfl) ?_))
  obtain ⟨W2, hW2⟩ : ∃ W, W = (w1.alloc (.cells #[.int .i64 0, .int .i64 0, .int .i64 0, .int .u32 0, .int .i64 0] 34 (0, 0))).setRow w1.heap.size #[.int .i64 r1, .int .i64 r2, .int .i64 r3, .int .u32 r4, .int .i64 r5] := ⟨_, rfl⟩
  have z1 : w.heap.size < w1.heap.size := blk_lt HLB.out
  have z2 : w.heap.size + 1 < w1.heap.size := blk_lt HEB.out
  have HFO : Aside0 (W2.heap[w1.heap.size]? = some (.cells #[.int .i64 r1, .int .i64 r2, .int .i64 r3, .int .u32 r4, .int .i64 r5] 34 (0, 0))) := ⟨by rw [hW2]; exact setRow_heap _ _ _ _ _ _ (heap_alloc_new _ _)⟩
  have n1 : Aside0 (W2.heap[w.heap.size]? = some (.cells #[.int .i64 k, .int .i64 f, .int .i64 t, .int .u32 a, .int .i64 p] 34 (0, 0))) := ⟨by rw [hW2]; exact (setRow_other _ _ _ _ (by omega)).trans (blk_alloc HLB.out _)⟩
  have n2 : Aside0 (W2.heap[w.heap.size + 1]? = some (.cells #[.int .u32 ea, .int .i64 ep] 24 (0, 0))) := ⟨by rw [hW2]; exact (setRow_other _ _ _ _ (by omega)).trans (blk_alloc HEB.out _)⟩
  have n3 : Aside0 (Below w.heap.size w W2) := ⟨by rw [hW2]; exact below_put (HB.out.alloc (by omega) _) (by omega)⟩
  clear HLB HEB HB
  have HLB := n1
  have HEB := n2
  have HB := n3
  rw [← hW2]
  clear n1 n2 n3 hW2 z1 z2
  have l0 : W2.cell? ⟨w.heap.size, 0, none⟩ = some (.int .i64 k) := (blk_cell HLB.out 0).trans rfl
  have l1 : W2.cell? ⟨w.heap.size, 1, none⟩ = some (.int .i64 f) := (blk_cell HLB.out 1).trans rfl
  have l2 : W2.cell? ⟨w.heap.size, 2, none⟩ = some (.int .i64 t) := (blk_cell HLB.out 2).trans rfl
  have l3 : W2.cell? ⟨w.heap.size, 3, none⟩ = some (.int .u32 a) := (blk_cell HLB.out 3).trans rfl
  have l4 : W2.cell? ⟨w.heap.size, 4, none⟩ = some (.int .i64 p) := (blk_cell HLB.out 4).trans rfl
  have f0 : W2.cell? ⟨w1.heap.size, 0, none⟩ = some (.int .i64 r1) := (blk_cell HFO.out 0).trans rfl
  have f1 : W2.cell? ⟨w1.heap.size, 1, none⟩ = some (.int .i64 r2) := (blk_cell HFO.out 1).trans rfl
  have f2 : W2.cell? ⟨w1.heap.size, 2, none⟩ = some (.int .i64 r3) := (blk_cell HFO.out 2).trans rfl
  have f3 : W2.cell? ⟨w1.heap.size, 3, none⟩ = some (.int .u32 r4) := (blk_cell HFO.out 3).trans rfl
  have f4 : W2.cell? ⟨w1.heap.size, 4, none⟩ = some (.int .i64 r5) := (blk_cell HFO.out 4).trans rfl
  have e0 : W2.cell? ⟨w.heap.size + 1, 0, none⟩ = some (.int .u32 ea) := (blk_cell HEB.out 0).trans rfl
  have e1 : W2.cell? ⟨w.heap.size + 1, 1, none⟩ = some (.int .i64 ep) := (blk_cell HEB.out 1).trans rfl
  cases r6 with
  | false =>
    have HN : Aside0 (X = ([], 1)) := ⟨by rw [HX.out, if_neg (fun h => by cases h.1)]⟩
    clear l0 l1 l2 l3 l4 f0 f1 f2 f3 f4 e0 e1
    go_wp2_with (fail)
    go_ret2
    rw [HN.out]
    exact ⟨none, 0, 0, rfl, rfl, Kd.C_nil _, Nat.le_refl _, HB.out⟩
  | true =>
  by_cases he : r1 = k ∧ r2 = f ∧ r3 = t ∧ r4 = a ∧ r5 = p
  case neg =>
    have HN : Aside0 (X = ([], 1)) := ⟨by rw [HX.out, if_neg (fun h => he h.2)]⟩
    have hne : (r1 == k && (r2 == f && (r3 == t && (r4 == a && (r5 == p))))) = false := by
      rw [Bool.eq_false_iff]
      intro h
      simp only [Bool.and_eq_true, beq_iff_eq] at h
      exact he h
    clear he e0 e1
    go_wp2_with (fail)
    go_ret2
    rw [HN.out]
    exact ⟨none, 0, 0, rfl, rfl, Kd.C_nil _, Nat.le_refl _, HB.out⟩
  obtain ⟨rfl, rfl, rfl, rfl, rfl⟩ := he
  obtain ⟨b1, b2, b3, b4⟩ := HFB.out r1 r2 r3 r4 r5 HF.out
  obtain ⟨F, rfl⟩ : ∃ F : Nat, r2 = F := ⟨r2.toNat, by omega⟩
  obtain ⟨G, rfl⟩ : ∃ F : Nat, r3 = F := ⟨r3.toNat, by omega⟩
  have HFG : Aside0 (F ≤ l.length ∧ G ≤ l.length) := ⟨by omega⟩
  clear b1 b2 b3 b4
  obtain ⟨S, hS⟩ : ∃ S, S = toS (textL r1 ea ep) := ⟨_, rfl⟩
  obtain ⟨E, hE⟩ : ∃ E, E = textE r1 ep := ⟨_, rfl⟩
  have HS := Aside0.mk hS
  have HE := Aside0.mk hE
  clear hS hE
  have heq : (r1 == r1 && ((F : Int) == (F : Int) && ((G : Int) == (G : Int) && (r4 == r4 && (r5 == r5))))) = true := by simp
  by_cases hE0 : E = 0
  case neg =>
    have HN : Aside0 (X = ([], E)) := ⟨by rw [HX.out, if_pos ⟨rfl, rfl, rfl, rfl, rfl, rfl⟩, if_neg (by rw [← HE.out]; exact hE0), HE.out]⟩
    have hz : (E == 0) = false := beq_eq_false_iff_ne.mpr hE0
    clear hE0
    go_wp2_with (first
      | (go_at_call 8; refine (line_Text.calls r1 ea ep m HA.out.1 HA.out.2 _ (HT.out.below HB.out) ((HB.out.cell (World.block_lt_of_cell? w _ HM.out)).trans HM.out)).mono ?_; rintro e' w3 ⟨rfl, hb⟩; rw [← HS.out, ← HE.out]; have n1 := Aside0.mk (blk_below HLB.out hb); have n3 := Aside0.mk (HB.out.trans (hb.mono HB.out.size)); clear HLB HEB HB HFO l0 l1 l2 l3 l4 f0 f1 f2 f3 f4 e0 e1; have HLB := n1; have HB := n3; clear n1 n3 hb))
    go_ret2
    rw [HN.out]
    exact ⟨none, 0, 0, rfl, rfl, Kd.C_nil _, Nat.le_refl _, HB.out⟩
  have HN : Aside0 (X = (l.take F ++ bytesOf S ++ l.drop G, 0)) := ⟨by rw [HX.out, if_pos ⟨rfl, rfl, rfl, rfl, rfl, rfl⟩, if_pos (by rw [← HE.out]; exact hE0), HS.out, bytesOf_toS, Int.toNat_natCast, Int.toNat_natCast]⟩
  have hz : (E == 0) = true := beq_iff_eq.mpr hE0
  have HE0 := Aside0.mk hE0
  clear hE0
  go_upto_region 7 with (first
    | (go_at_call 8; refine (line_Text.calls r1 ea ep m HA.out.1 HA.out.2 _ (HT.out.below HB.out) ((HB.out.cell (World.block_lt_of_cell? w _ HM.out)).trans HM.out)).mono ?_; rintro e' w3 ⟨rfl, hb⟩; rw [← HS.out, ← HE.out]; have n1 := Aside0.mk (blk_below HLB.out hb); have n3 := Aside0.mk (HB.out.trans (hb.mono HB.out.size)); clear HLB HEB HB HFO l0 l1 l2 l3 l4 f0 f1 f2 f3 f4 e0 e1; have HLB := n1; have HB := n3; clear n1 n3 hb))
  refine line_Put.r7 A c l F G S w.heap.size w3 ((blk_cell HLB.out 1).trans rfl) ((blk_cell HLB.out 2).trans rfl) (Kd.C_below HR.out HB.out) HC.out HFG.out.1 HFG.out.2 (by rw [HS.out]; show (textL r1 ea ep).toArray.size ≤ _; have := textL_len r1 ea ep HA.out.1; rw [List.size_toArray]; omega) HL.out HBY.out _ ?_
  intro y34 y35 y36 y37 y38 y39 y40 y41 y42 y43 y44 y45 y46 y47 A' n' c' W' hn hC hle hb
  have R := Aside0.mk (And.intro hn (And.intro hC (And.intro hle hb)))
  clear hn hC hle hb
  go_wp2_with (fail)
  go_ret2
  rw [HN.out]
  exact ⟨A', n', c', rfl, R.out.1, R.out.2.1, R.out.2.2.1, HB.out.trans (R.out.2.2.2.mono HB.out.size)⟩
end Go.Proofs.YtnbanjbhjjhkdaaDoor.P
