/- Regions of tcp.Build, each walked once: the two appends, the check, the two stores. No statement of its own. -/
import Derived.Test.YthnhpbplglmmmaaP0
import Derived.Test.YthnhpbplglmmmaaPoctet
import Derived.Test.YthnhpbplglmmmaaPudp
namespace Go.Proofs.Ythnhpbplglmmmaa.P
open Go.RowKit Go.Proofs.YthnhpbplglmmmaaW.PrintWords Go.Proofs.YthnhpbplglmmmaaW.PrintLast Go.Proofs.YthnhpbplglmmmaaW.PrintMore
set_option linter.unusedVariables false
set_option linter.unusedSimpArgs false
def regionOf (n : Nat) : Code → Option Code
  | .region m ops b => if m = n then some (.region m ops b) else none
  | .loop c => regionOf n c
  | .seq a b => match regionOf n a with
    | some c => some c
    | none => regionOf n b
  | .block _ c => regionOf n c
  | .scope c => regionOf n c
  | .cond _ a b => match regionOf n a with
    | some c => some c
    | none => regionOf n b
  | _ => none
def regionIn (n : Nat) (f : Func) : Code := (f.body.bind (regionOf n)).getD .skip
/-- Many bytes appended to nothing. -/
theorem fresh_step {ops : Array Oper} {o : Oper} {a : Act} {W w0 : World} {K : Act → World → Prop} {Q : Exit → Act → World → Prop} {E : Prop} (hgd : o.guard = none) (x : Operand) (ho : o.op = .call { callee := .builtin .append, args := #[.const (.slice none 0 0), x], argTypes := #[23, 23] })
    {ys : List Int} {A : Option Addr} {c : Nat} (hx : a.eval x = .slice A ys.length c)
    (HR : Kd.C (Kd.int .u8) W A ys.length ys) (HB : Below w0.heap.size w0 W) (hl : ys.length ≤ 2000000)
    (hK : ∀ v1 w1, Kd.R (Kd.int .u8) 5 w1 w0.heap.size (fun _ => True) v1 ys → Below W.heap.size W w1 → (∀ k, v1.ownBlock = some k → W.heap.size ≤ k) → K (a.put o.dst v1) w1) :
    if Region.wanted o (yielded ops a.tmps) = true then Oper.wp Try.prog o a W K Q else E := by
  have hw : Region.wanted o (yielded ops a.tmps) = true := by simp [Region.wanted, hgd]
  rw [if_pos hw]
  have h := Kd.R_append_rows_step (P := Try.prog) (W := W) (ops := ops) (o := o) (a := a) (Q := Q) (Kc := K) (Kd.int .u8) (w0 := W) W.heap.size hw (.const (.slice none 0 0)) x 23 5 (.int .u8 0) 1 ho Try.underlying23 info5 rfl (by decide) (by omega) (.slice none 0 0) [] ys A ys.length c (fun _ => True) (fun _ => False) rfl hx (Kd.R_nil _ _ _ _ _) HR (fun _ _ h => h) (fun _ h => h.elim) (fun _ _ => trivial) (Below.refl _ _) (Nat.le_refl _) (by simp; omega) (fun v1 w1 ho hb hg hat => hK v1 w1 (Kd.R_lower ho HB.size) hb (fun k hk => by
    rcases hat with h | ⟨b, h, hle⟩
    · rw [h] at hk; simp [Value.ownBlock] at hk
    · rw [h] at hk; injection hk with hk; omega))
  rw [if_pos hw] at h
  exact h
theorem nine_set {w : World} {g t : Nat} {u0 u1 u2 u3 u4 u5 u6 u7 u8 v0 v1 v2 v3 v4 v5 v6 v7 v8 : Value} (h : w.heap[g]? = some (.cells #[u0, u1, u2, u3, u4, u5, u6, u7, u8] t (0, 0))) :
    (((((((((w.setCell ⟨g, 0, none⟩ v0).setCell ⟨g, 1, none⟩ v1).setCell ⟨g, 2, none⟩ v2).setCell ⟨g, 3, none⟩ v3).setCell ⟨g, 4, none⟩ v4).setCell ⟨g, 5, none⟩ v5).setCell ⟨g, 6, none⟩ v6).setCell ⟨g, 7, none⟩ v7).setCell ⟨g, 8, none⟩ v8).heap[g]? = some (.cells #[v0, v1, v2, v3, v4, v5, v6, v7, v8] t (0, 0)) :=
  by
    have h0 := blk_put (cs' := #[v0, u1, u2, u3, u4, u5, u6, u7, u8]) h 0 v0 rfl
    have h1 := blk_put (cs' := #[v0, v1, u2, u3, u4, u5, u6, u7, u8]) h0 1 v1 rfl
    have h2 := blk_put (cs' := #[v0, v1, v2, u3, u4, u5, u6, u7, u8]) h1 2 v2 rfl
    have h3 := blk_put (cs' := #[v0, v1, v2, v3, u4, u5, u6, u7, u8]) h2 3 v3 rfl
    have h4 := blk_put (cs' := #[v0, v1, v2, v3, v4, u5, u6, u7, u8]) h3 4 v4 rfl
    have h5 := blk_put (cs' := #[v0, v1, v2, v3, v4, v5, u6, u7, u8]) h4 5 v5 rfl
    have h6 := blk_put (cs' := #[v0, v1, v2, v3, v4, v5, v6, u7, u8]) h5 6 v6 rfl
    have h7 := blk_put (cs' := #[v0, v1, v2, v3, v4, v5, v6, v7, u8]) h6 7 v7 rfl
    have h8 := blk_put (cs' := #[v0, v1, v2, v3, v4, v5, v6, v7, v8]) h7 8 v8 rfl
    exact h8
theorem nine_far {w : World} {g : Nat} {v0 v1 v2 v3 v4 v5 v6 v7 v8 : Value} (k : Nat) (hk : k ≠ g) :
    (((((((((w.setCell ⟨g, 0, none⟩ v0).setCell ⟨g, 1, none⟩ v1).setCell ⟨g, 2, none⟩ v2).setCell ⟨g, 3, none⟩ v3).setCell ⟨g, 4, none⟩ v4).setCell ⟨g, 5, none⟩ v5).setCell ⟨g, 6, none⟩ v6).setCell ⟨g, 7, none⟩ v7).setCell ⟨g, 8, none⟩ v8).heap[k]? = w.heap[k]? := by
  iterate 9 rw [Below.heap_setCell _ _ _ k hk]
/-- Many bytes appended to a row of one's own. -/
theorem rows_step {ops : Array Oper} {o : Oper} {a : Act} {W w0 : World} {K : Act → World → Prop} {Q : Exit → Act → World → Prop} {E : Prop} (hgd : o.guard = none) (s x : Operand) (ho : o.op = .call { callee := .builtin .append, args := #[s, x], argTypes := #[23, 23] })
    {v : Value} {xs ys : List Int} {A : Option Addr} {c : Nat} (hs : a.eval s = v) (hx : a.eval x = .slice A ys.length c)
    (HO : Kd.R (Kd.int .u8) 5 W w0.heap.size (fun _ => True) v xs) (HR : Kd.C (Kd.int .u8) W A ys.length ys) (HB : Below w0.heap.size w0 W) (hl : xs.length + ys.length ≤ 2000000)
    (hK : ∀ v1 w1, Kd.R (Kd.int .u8) 5 w1 w0.heap.size (fun _ => True) v1 (xs ++ ys) → Below w0.heap.size w0 w1 → W.grownBy w1 v.ownBlock → K (a.put o.dst v1) w1) :
    if Region.wanted o (yielded ops a.tmps) = true then Oper.wp Try.prog o a W K Q else E := by
  have hw : Region.wanted o (yielded ops a.tmps) = true := by simp [Region.wanted, hgd]
  rw [if_pos hw]
  have h := Kd.R_append_rows_step (P := Try.prog) (W := W) (ops := ops) (o := o) (a := a) (Q := Q) (Kc := K) (Kd.int .u8) (w0 := w0) w0.heap.size hw s x 23 5 (.int .u8 0) 1 ho Try.underlying23 info5 rfl (by decide) (by omega) v xs ys A ys.length c (fun _ => True) (fun _ => False) hs hx HO HR (fun _ _ h => h) (fun _ h => h.elim) (fun _ _ => trivial) HB (below_size HB) (by omega) (fun v1 w1 ho hb hg _ => hK v1 w1 ho hb hg)
  rw [if_pos hw] at h
  exact h
set_option maxHeartbeats 3200000 in
set_option maxRecDepth 100000 in
theorem tcp_Build.r17 {s0 s1 s2 s3 s4 s6 s7 s8 s10 s11 s12 s13 s14 s15 s16 s17 s18 s19 s20 s21 s22 s23 s24 s25 s26 s27 s28 s29 s30 s31 s32 s33 s34 s35 s36 s37 s38 s39 s40 s41 s42 s43 s44 s45 s46 s47 s48 s49 s50 s51 s52 s53 s54 s55 s56 s57 s58 s59 s60 s61 s62 s63 s64 s65 s66 s67 s68 s69 s70 s71 s72 s73 s74 s75 s76 s77 s78 s79 s80 s81 s82 s83 s84 s85 s86 s87 s88 s89 s90 s91 s92 s93 s94 s95 s96 s97 s98 s99 s100 s101 s102 s103 s104 s105 s106 s107 s108 s109 s110 s111 s112 s113 s114 s115 s116 s117 s118 s119 s120 s121 s122 s123 : Value} {gb g : Nat} {v : Value} {A7 A8 : Option Addr} {c7 c8 : Nat} {xs l7 l8 : List Int} {cs : Array Value} {w0 w : World} {Q : Exit → Act → World → Prop}
    (hg : w.heap[g]? = some (.cells #[v] 23 (0, 0))) (hp : w.heap[gb]? = some (.cells cs 46 (0, 0))) (h7 : cs[7]? = some (.slice A7 l7.length c7)) (h8 : cs[8]? = some (.slice A8 l8.length c8))
    (ho : Kd.R (Kd.int .u8) 5 w w0.heap.size (fun _ => True) v xs) (hr7 : Kd.C (Kd.int .u8) w0 A7 l7.length l7) (hr8 : Kd.C (Kd.int .u8) w0 A8 l8.length l8) (hb : Below w0.heap.size w0 w)
    (hl : xs.length + l7.length + l8.length ≤ 1000000) (hgg : w0.heap.size ≤ g)
    (hQ : ∀ v1 v2 w', w'.heap[g]? = some (.cells #[v2] 23 (0, 0)) → w'.heap[gb]? = some (.cells cs 46 (0, 0)) → Kd.R (Kd.int .u8) 5 w' w0.heap.size (fun _ => True) v2 (xs ++ l7 ++ l8) → Below w0.heap.size w0 w' → Q .normal ⟨#[s0, s1, s2, s3, s4, .pointer (some ⟨gb, 0, none⟩), s6, s7, s8, .pointer (some ⟨g, 0, none⟩), s10, s11, s12, s13, s14, s15, s16, s17, s18, s19, s20, s21, s22, s23, s24, s25, s26, s27, s28, s29, s30, s31, s32, s33, s34, s35, s36, s37, s38, s39, s40, s41, s42, s43, s44, s45, s46, s47, s48, s49, s50, s51, s52, s53, s54, s55, s56, s57, s58, s59, s60, s61, s62, s63, s64, s65, s66, s67, s68, s69, s70, s71, s72, s73, s74, s75, s76, s77, s78, s79, s80, s81, s82, s83, s84, s85, s86, s87, s88, s89, s90, s91, s92, s93, s94, s95, s96, s97, s98, v, .pointer (some ⟨gb, 7, none⟩), .slice A7 l7.length c7, v1, .pointer (some ⟨gb, 8, none⟩), .slice A8 l8.length c8, v2, s106, s107, s108, s109, s110, s111, s112, s113, s114, s115, s116, s117, s118, s119, s120, s121, s122, s123], []⟩ w') :
    (regionIn 17 Try.f25).wp Try.prog Q ⟨#[s0, s1, s2, s3, s4, .pointer (some ⟨gb, 0, none⟩), s6, s7, s8, .pointer (some ⟨g, 0, none⟩), s10, s11, s12, s13, s14, s15, s16, s17, s18, s19, s20, s21, s22, s23, s24, s25, s26, s27, s28, s29, s30, s31, s32, s33, s34, s35, s36, s37, s38, s39, s40, s41, s42, s43, s44, s45, s46, s47, s48, s49, s50, s51, s52, s53, s54, s55, s56, s57, s58, s59, s60, s61, s62, s63, s64, s65, s66, s67, s68, s69, s70, s71, s72, s73, s74, s75, s76, s77, s78, s79, s80, s81, s82, s83, s84, s85, s86, s87, s88, s89, s90, s91, s92, s93, s94, s95, s96, s97, s98, s99, s100, s101, s102, s103, s104, s105, s106, s107, s108, s109, s110, s111, s112, s113, s114, s115, s116, s117, s118, s119, s120, s121, s122, s123], []⟩ w := by
  conv => arg 2; whnf
  have HG := Aside0.mk hg
  have HP := Aside0.mk hp
  have HO := Aside0.mk ho
  have HR7 := Aside0.mk hr7
  have HR8 := Aside0.mk hr8
  have HB := Aside0.mk hb
  have HL := Aside0.mk hl
  have HQ := Aside0.mk hQ
  have HGG := Aside0.mk hgg
  have k1 : w.cell? ⟨g, 0, none⟩ = some v := (blk_cell hg 0).trans rfl
  have k2 : w.cell? ⟨gb, 7, none⟩ = some (.slice A7 l7.length c7) := (blk_cell hp 7).trans h7
  have k3 : w.cell? ⟨gb, 8, none⟩ = some (.slice A8 l8.length c8) := (blk_cell hp 8).trans h8
  have H7 := Aside0.mk h7
  have H8 := Aside0.mk h8
  clear hg hp ho hr7 hr8 hb hl hQ hgg h7 h8
  refine wp_region_noPanic ?_
  go_region_law
    (first
      | (refine rows_step (w0 := w0) rfl (.tmp 99) (.tmp 101) rfl (v := v) (xs := xs) (ys := l7) (A := A7) (c := c7) (by rfl) (by rfl) (Kd.R_drew HO.out) (Kd.C_below HR7.out (below_drew HB.out)) (below_drew HB.out) (by have := HL.out; omega) ?_
         intro v1 w1 ho1 hb1 hg1
         have n1 := blk_grown (blk_drew HG.out) hg1 (Kd.R_ne (Kd.R_drew HO.out) (blk_drew HG.out) (by decide))
         have n2 := blk_grown (blk_drew HP.out) hg1 (Kd.R_ne (Kd.R_drew HO.out) (blk_drew HP.out) (by decide))
         clear HG HP HO HB
         have HG := Aside0.mk n1
         have HP := Aside0.mk n2
         have HO := Aside0.mk ho1
         have HB := Aside0.mk hb1
         have k4 : w1.cell? ⟨gb, 8, none⟩ = some (.slice A8 l8.length c8) := (blk_cell HP.out 8).trans H8.out
         clear n1 n2 ho1 hb1 hg1)
      | (refine rows_step (w0 := w0) rfl (.tmp 102) (.tmp 104) rfl (v := v1) (xs := xs ++ l7) (ys := l8) (A := A8) (c := c8) (by rfl) (by rfl) HO.out (Kd.C_below HR8.out HB.out) HB.out (by have := HL.out; rw [List.length_append]; omega) ?_
         intro v2 w2 ho1 hb1 hg1
         obtain ⟨A2, c2, rfl⟩ := Kd.R_slice ho1
         have n1 := blk_grown HG.out hg1 (Kd.R_ne HO.out HG.out (by decide))
         have n2 := blk_grown HP.out hg1 (Kd.R_ne HO.out HP.out (by decide))
         clear HG HP HO HB
         have HG := Aside0.mk n1
         have HP := Aside0.mk n2
         have HO := Aside0.mk ho1
         have HB := Aside0.mk hb1
         have hc2 : w2.cell? ⟨g, 0, none⟩ = some v := (blk_cell HG.out 0).trans rfl
         have hf2 : w2.frozen? ⟨g, 0, none⟩ = false := blk_frozen HG.out 0
         clear n1 n2 ho1 hb1 hg1))
  all_goals
    refine NoPanic.normal (HQ.out _ _ _ ?_ ?_ ?_ ?_)
    · simpa using blk_set HG.out 0 _
    · exact blk_far HP.out (blk_ne HP.out HG.out (by decide)) _
    · have h := Kd.R_set HO.out HG.out (by decide) 0 (.slice A2 (xs.length + (l7.length + l8.length)) c2)
      first | exact h | simpa using h
    · exact below_set HB.out HGG.out
theorem C_two {W : World} {g t e : Nat} {A B : Option Addr} {c d : Nat} {l m : List Int} (h : W.heap[g]? = some (.cells #[.slice A l.length c, .slice B m.length d] t (0, 0))) (hc : l.length ≤ c) (hd : m.length ≤ d) (hr : Kd.C (Kd.int .u8) W A l.length l) (hs : Kd.C (Kd.int .u8) W B m.length m) : Kd.C (Kd.slice e (Kd.int .u8)) W (some ⟨g, 0, none⟩) [l, m].length [l, m] := by
  refine ⟨rfl, by simp, fun _ => ⟨⟨g, 0, none⟩, rfl, fun j p hj => ?_⟩⟩
  match j, hj with
  | 0, hj =>
    simp at hj
    subst hj
    refine ⟨[.slice A l.length c], rfl, ⟨A, c, rfl, hc, hr⟩, fun i u hu => ?_⟩
    match i, hu with
    | 0, hu =>
      simp at hu
      subst hu
      have := blk_cell h 0
      simpa [Addr.add] using this
  | 1, hj =>
    simp at hj
    subst hj
    refine ⟨[.slice B m.length d], rfl, ⟨B, d, rfl, hd, hs⟩, fun i u hu => ?_⟩
    match i, hu with
    | 0, hu =>
      simp at hu
      subst hu
      have := blk_cell h 1
      simpa [Addr.add, Kd.slice] using this
set_option maxHeartbeats 3200000 in
set_option maxRecDepth 100000 in
theorem tcp_Build.r18 {s2 s3 s4 s6 s7 s8 s10 s11 s12 s13 s14 s15 s16 s17 s18 s19 s20 s21 s22 s23 s24 s25 s26 s27 s28 s29 s30 s31 s32 s33 s34 s35 s36 s37 s38 s39 s40 s41 s42 s43 s44 s45 s46 s47 s48 s49 s50 s51 s52 s53 s54 s55 s56 s57 s58 s59 s60 s61 s62 s63 s64 s65 s66 s67 s68 s69 s70 s71 s72 s73 s74 s75 s76 s77 s78 s79 s80 s81 s82 s83 s84 s85 s86 s87 s88 s89 s90 s91 s92 s93 s94 s95 s96 s97 s98 s99 s100 s101 s102 s103 s104 s105 s106 s107 s108 s109 s110 s111 s112 s113 s114 s115 s116 s117 s118 s119 s120 s121 s122 s123 : Value} {gb g : Nat} {a0 a1 ck : Int} {v : Value} {M ps : List Int} {cs : Array Value} {w0 w : World} {Q : Exit → Act → World → Prop}
    (hg : w.heap[g]? = some (.cells #[v] 23 (0, 0))) (hp : w.heap[gb]? = some (.cells cs 46 (0, 0)))
    (ho : Kd.R (Kd.int .u8) 5 w w0.heap.size (fun _ => True) v M) (hb : Below w0.heap.size w0 w)
    (hps : udp_Pseudo.f 20 a0 a1 6 (M.length : Int) = some ps) (hck : octet_Check.f [ps, M] = some ck)
    (hl : M.length ≤ 1000000)
    (hQ : ∀ v1 v2 w', w'.heap[g]? = some (.cells #[v] 23 (0, 0)) → w'.heap[gb]? = some (.cells cs 46 (0, 0)) → Kd.R (Kd.int .u8) 5 w' w0.heap.size (fun _ => True) v M → Below w0.heap.size w0 w' → Q .normal ⟨#[.int .u32 a0, .int .u32 a1, s2, s3, s4, .pointer (some ⟨gb, 0, none⟩), s6, s7, s8, .pointer (some ⟨g, 0, none⟩), s10, .int .i64 ck, s12, s13, s14, s15, s16, s17, s18, s19, s20, s21, s22, s23, s24, s25, s26, s27, s28, s29, s30, s31, s32, s33, s34, s35, s36, s37, s38, s39, s40, s41, s42, s43, s44, s45, s46, s47, s48, s49, s50, s51, s52, s53, s54, s55, s56, s57, s58, s59, s60, s61, s62, s63, s64, s65, s66, s67, s68, s69, s70, s71, s72, s73, s74, s75, s76, s77, s78, s79, s80, s81, s82, s83, s84, s85, s86, s87, s88, s89, s90, s91, s92, s93, s94, s95, s96, s97, s98, s99, s100, s101, s102, s103, s104, s105, .int .u32 a0, .int .u32 a1, v, .int .i64 M.length, v1, v, v2, .int .i64 ck, s114, s115, s116, s117, s118, s119, s120, s121, s122, s123], []⟩ w') :
    (regionIn 18 Try.f25).wp Try.prog Q ⟨#[.int .u32 a0, .int .u32 a1, s2, s3, s4, .pointer (some ⟨gb, 0, none⟩), s6, s7, s8, .pointer (some ⟨g, 0, none⟩), s10, s11, s12, s13, s14, s15, s16, s17, s18, s19, s20, s21, s22, s23, s24, s25, s26, s27, s28, s29, s30, s31, s32, s33, s34, s35, s36, s37, s38, s39, s40, s41, s42, s43, s44, s45, s46, s47, s48, s49, s50, s51, s52, s53, s54, s55, s56, s57, s58, s59, s60, s61, s62, s63, s64, s65, s66, s67, s68, s69, s70, s71, s72, s73, s74, s75, s76, s77, s78, s79, s80, s81, s82, s83, s84, s85, s86, s87, s88, s89, s90, s91, s92, s93, s94, s95, s96, s97, s98, s99, s100, s101, s102, s103, s104, s105, s106, s107, s108, s109, s110, s111, s112, s113, s114, s115, s116, s117, s118, s119, s120, s121, s122, s123], []⟩ w := by
  conv => arg 2; whnf
  obtain ⟨A, c, rfl⟩ := Kd.R_slice ho
  have HG := Aside0.mk hg
  have HP := Aside0.mk hp
  have HO := Aside0.mk ho
  have HB := Aside0.mk hb
  have HL := Aside0.mk hl
  have HQ := Aside0.mk hQ
  have HPS := Aside0.mk hps
  have HCK := Aside0.mk hck
  have k1 : w.cell? ⟨g, 0, none⟩ = some (.slice A M.length c) := (blk_cell hg 0).trans rfl
  clear hg hp ho hb hl hQ hps hck
  refine wp_region_noPanic ?_
  go_region_law
    (first
      | (refine goes_ (f := 47) Try.func47 (by kernel_rfl) rfl #[.int .u32 a0, .int .u32 a1, .int .i64 6, .int .i64 M.length] (by rfl) rfl rfl (by first | rfl | (go_simp; done) | (simp [Act.eval]; done)) ?_
         refine (udp_Pseudo.calls 20 a0 a1 6 M.length ps _ HPS.out).mono ?_
         rintro e w1 ⟨v1, rfl, ho1, hb1⟩
         refine ⟨_, rfl, ?_⟩
         obtain ⟨A1, c1, rfl⟩ := Kd.R_slice ho1
         have n1 := blk_below (blk_drew HG.out) hb1
         have n2 := blk_below (blk_drew HP.out) hb1
         have n3 := Kd.R_below (Kd.R_drew HO.out) hb1
         have n4 := below_step (below_drew HB.out) hb1
         clear HG HP HO HB
         have HG := Aside0.mk n1
         have HP := Aside0.mk n2
         have HO := Aside0.mk n3
         have HB := Aside0.mk n4
         have HO1 := Aside0.mk (Kd.R_reads' ho1)
         have k2 : w1.cell? ⟨g, 0, none⟩ = some (.slice A M.length c) := (blk_cell HG.out 0).trans rfl
         clear n1 n2 n3 n4 ho1 hb1)
      | (refine goes_ (f := 36) Try.func36 (by kernel_rfl) rfl #[.slice (some ⟨w1.heap.size, 0, none⟩) 2 2] (by rfl) rfl rfl (by first | rfl | (go_simp; done) | (simp [Act.eval]; done)) ?_
         refine (octet_Check.calls (some ⟨w1.heap.size, 0, none⟩) 2 [ps, M] ck _ (C_two (heap_alloc_new w1 _) HO1.out.2.1 (Kd.R_reads' HO.out).2.1 (Kd.C_alloc HO1.out.2.2 _) (Kd.C_alloc (Kd.R_reads' HO.out).2.2 _)) (Nat.le_refl 2) HCK.out).mono ?_
         rintro e w2 ⟨rfl, hb2⟩
         refine ⟨_, rfl, ?_⟩
         have n1 := blk_below (blk_alloc HG.out _) hb2
         have n2 := blk_below (blk_alloc HP.out _) hb2
         have n3 := Kd.R_below (Kd.R_alloc HO.out _) hb2
         have n4 := below_step (below_alloc HB.out _) hb2
         clear HG HP HO HB
         have HG := Aside0.mk n1
         have HP := Aside0.mk n2
         have HO := Aside0.mk n3
         have HB := Aside0.mk n4
         clear n1 n2 n3 n4 hb2))
  all_goals exact NoPanic.normal (HQ.out _ _ _ HG.out HP.out HO.out HB.out)
set_option maxHeartbeats 3200000 in
set_option maxRecDepth 100000 in
theorem tcp_Build.r19 {s0 s1 s2 s3 s4 s6 s7 s8 s10 s12 s13 s14 s15 s16 s17 s18 s19 s20 s21 s22 s23 s24 s25 s26 s27 s28 s29 s30 s31 s32 s33 s34 s35 s36 s37 s38 s39 s40 s41 s42 s43 s44 s45 s46 s47 s48 s49 s50 s51 s52 s53 s54 s55 s56 s57 s58 s59 s60 s61 s62 s63 s64 s65 s66 s67 s68 s69 s70 s71 s72 s73 s74 s75 s76 s77 s78 s79 s80 s81 s82 s83 s84 s85 s86 s87 s88 s89 s90 s91 s92 s93 s94 s95 s96 s97 s98 s99 s100 s101 s102 s103 s104 s105 s106 s107 s108 s109 s110 s111 s112 s113 s114 s115 s116 s117 s118 s119 s120 s121 s122 s123 : Value} {gb g : Nat} {ck : Int} {v : Value} {M : List Int} {cs : Array Value} {w0 w : World} {Q : Exit → Act → World → Prop}
    (hg : w.heap[g]? = some (.cells #[v] 23 (0, 0))) (hp : w.heap[gb]? = some (.cells cs 46 (0, 0)))
    (ho : Kd.R (Kd.int .u8) 5 w w0.heap.size (fun _ => True) v M) (hb : Below w0.heap.size w0 w)
    (hl : 20 ≤ M.length) (hl2 : M.length ≤ 1000000)
    (hQ : ∀ x114 x115 x116 x117 x118 x119 x120 x121 x122 w', w'.heap[g]? = some (.cells #[v] 23 (0, 0)) → w'.heap[gb]? = some (.cells cs 46 (0, 0)) → Kd.R (Kd.int .u8) 5 w' w0.heap.size (fun _ => True) v ((M.set 16 ((ck / 256) % 256)).set 17 (ck % 256)) → Below w0.heap.size w0 w' → Q .normal ⟨#[s0, s1, s2, s3, s4, .pointer (some ⟨gb, 0, none⟩), s6, s7, s8, .pointer (some ⟨g, 0, none⟩), s10, .int .i64 ck, s12, s13, s14, s15, s16, s17, s18, s19, s20, s21, s22, s23, s24, s25, s26, s27, s28, s29, s30, s31, s32, s33, s34, s35, s36, s37, s38, s39, s40, s41, s42, s43, s44, s45, s46, s47, s48, s49, s50, s51, s52, s53, s54, s55, s56, s57, s58, s59, s60, s61, s62, s63, s64, s65, s66, s67, s68, s69, s70, s71, s72, s73, s74, s75, s76, s77, s78, s79, s80, s81, s82, s83, s84, s85, s86, s87, s88, s89, s90, s91, s92, s93, s94, s95, s96, s97, s98, s99, s100, s101, s102, s103, s104, s105, s106, s107, s108, s109, s110, s111, s112, s113, x114, x115, x116, x117, x118, x119, x120, x121, x122, s123], []⟩ w') :
    (regionIn 19 Try.f25).wp Try.prog Q ⟨#[s0, s1, s2, s3, s4, .pointer (some ⟨gb, 0, none⟩), s6, s7, s8, .pointer (some ⟨g, 0, none⟩), s10, .int .i64 ck, s12, s13, s14, s15, s16, s17, s18, s19, s20, s21, s22, s23, s24, s25, s26, s27, s28, s29, s30, s31, s32, s33, s34, s35, s36, s37, s38, s39, s40, s41, s42, s43, s44, s45, s46, s47, s48, s49, s50, s51, s52, s53, s54, s55, s56, s57, s58, s59, s60, s61, s62, s63, s64, s65, s66, s67, s68, s69, s70, s71, s72, s73, s74, s75, s76, s77, s78, s79, s80, s81, s82, s83, s84, s85, s86, s87, s88, s89, s90, s91, s92, s93, s94, s95, s96, s97, s98, s99, s100, s101, s102, s103, s104, s105, s106, s107, s108, s109, s110, s111, s112, s113, s114, s115, s116, s117, s118, s119, s120, s121, s122, s123], []⟩ w := by
  conv => arg 2; whnf
  obtain ⟨h, c, rfl, hbh, hlt, cells, hcells⟩ := Kd.R_form ho (by omega)
  have k1 : w.cell? ⟨g, 0, none⟩ = some (.slice (some ⟨h, 0, none⟩) M.length c) := (blk_cell hg 0).trans rfl
  have k2 := Kd.R_cell 0 ho 16 (by decide) (by omega)
  have k3 := Kd.R_cell 0 ho 17 (by decide) (by omega)
  simp only [Int.reduceToNat] at k2 k3
  have k2a := k2.1
  have k2b := k2.2
  have k3a := k3.1
  have k3b := k3.2
  have b1 : (16 : Int) < (M.length : Int) := by omega
  have b2 : (17 : Int) < (M.length : Int) := by omega
  have b3 : 16 < M.length := by omega
  have b4 : 17 < M.length := by omega
  have HG := Aside0.mk hg
  have HP := Aside0.mk hp
  have HO := Aside0.mk ho
  have HB := Aside0.mk hb
  have HL := Aside0.mk hl
  have HQ := Aside0.mk hQ
  have HC := Aside0.mk hcells
  have HBH := Aside0.mk hbh
  clear k2 k3 hg hp ho hb hl hQ hl2 hcells hbh
  refine wp_region_noPanic ?_
  go_region_law fail
  all_goals
    refine NoPanic.normal (HQ.out _ _ _ _ _ _ _ _ _ _ ?_ ?_ ?_ ?_)
  all_goals try rw [IntKind.wrap_u8]
  all_goals try rw [IntKind.wrap_u8]
  all_goals try exact blk_drew (blk_far (blk_far HG.out (blk_ne HG.out HC.out (by decide)) _) (blk_ne HG.out HC.out (by decide)) _)
  all_goals try exact blk_drew (blk_far (blk_far HP.out (blk_ne HP.out HC.out (by decide)) _) (blk_ne HP.out HC.out (by decide)) _)
  all_goals try exact below_drew (below_set (below_set HB.out HBH.out) HBH.out)
  all_goals
    first
      | exact Kd.R_drew (Kd.R_putn (Kd.R_putn HO.out 16 (ck / 256 % 256)) 17 (ck % 256))
      | (rw [List.set_comm _ _ (by decide)]; exact Kd.R_drew (Kd.R_putn (Kd.R_putn HO.out 17 (ck % 256)) 16 (ck / 256 % 256)))
end Go.Proofs.Ythnhpbplglmmmaa.P
