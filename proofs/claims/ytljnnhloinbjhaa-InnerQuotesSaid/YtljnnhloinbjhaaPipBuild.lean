-- Laid by a program (wip/tools/myprint.py) out of the translation. Not trusted: Lean checks it.
import Derived.Test.YtljnnhloinbjhaaP0
import Derived.Test.YtljnnhloinbjhaaPoctet
import Derived.Test.YtljnnhloinbjhaaPipwithin
import Derived.Test.YtljnnhloinbjhaaPipput
import Derived.Test.YtljnnhloinbjhaaPureWIp
import Derived.WalkSmall
namespace Go.Proofs.Ytljnnhloinbjhaa.P
open Go.RowKit Go.Proofs.YtljnnhloinbjhaaW.PrintWords Go.Proofs.YtljnnhloinbjhaaW.PrintLast
set_option linter.unusedVariables false
set_option linter.unusedSimpArgs false

/-! ### ip_Build: function 91, by hand -/
def ip_Build.inW (x n : Int) : Bool := if x ≥ 0 then (shr .i64 x n == 0) else false
def ip_Build.part (df mf : Bool) (off : Int) : Int := (fun p : Int => if mf = true then Go.bits .or .i64 p 8192 else p) (if df = true then Go.bits .or .i64 off 16384 else off)
def ip_Build.put (l : List Int) (a n x : Int) : Option (List Int) := ip_put.f 10 l a n x
def ip_Build.f (tos id : Int) (df mf : Bool) (off ttl proto src dst : Int) (opts body : List Int) : Option (List Int × Int) :=
  if ip_Build.inW tos 8 = false then some ([], 1)
  else if ip_Build.inW ttl 8 = false then some ([], 1)
  else if ip_Build.inW proto 8 = false then some ([], 1)
  else if ip_Build.inW id 16 = false then some ([], 1)
  else if ip_Build.inW off 13 = false then some ([], 1)
  else if (opts.length : Int) > 40 then some ([], 1)
  else if opts.length % 4 ≠ 0 then some ([], 1)
  else if (body.length : Int) > 2028 - (opts.length : Int) then some ([], 3)
  else
    (ip_Build.put (List.replicate (20 + opts.length) 0) 0 1 (Go.bits .or .i64 64 (wrap64 ((20 + (opts.length : Int)).tdiv 4)))).bind fun b1 =>
    (ip_Build.put b1 1 1 tos).bind fun b2 =>
    (ip_Build.put b2 2 2 (20 + (opts.length : Int) + (body.length : Int))).bind fun b3 =>
    (ip_Build.put b3 4 2 id).bind fun b4 =>
    (ip_Build.put b4 6 2 (ip_Build.part df mf off)).bind fun b5 =>
    (ip_Build.put b5 8 1 ttl).bind fun b6 =>
    (ip_Build.put b6 9 1 proto).bind fun b7 =>
    (ip_Build.put b7 12 4 (wrap64 src)).bind fun b8 =>
    (ip_Build.put b8 16 4 (wrap64 dst)).bind fun b9 =>
    if b9.length = 20 + opts.length then
      (octet_Check.f [b9.take 20 ++ opts]).bind fun c => (ip_Build.put (b9.take 20 ++ opts) 10 2 c).bind fun b10 => if b10.length ≤ 1000 then some (b10 ++ body, 0) else none
    else none
/-- One number laid into a row of one's own. -/
theorem ip_put.one {w0 w : World} {h n c : Nat} {l r : List Int} {a m x : Int} (hB : Below w0.heap.size w0 w) (ho : Kd.R (Kd.int .u8) 5 w w0.heap.size (fun _ => True) (.slice (some ⟨h, 0, none⟩) n c) l) (hf : ip_put.f 10 l a m x = some r) :
    Calls Try.prog 126 #[.slice (some ⟨h, 0, none⟩) n c, .int .i64 a, .int .i64 m, .int .i64 x] w fun e w' => e = .returned (.tuple #[]) ∧ Kd.R (Kd.int .u8) 5 w' w0.heap.size (fun _ => True) (.slice (some ⟨h, 0, none⟩) n c) r ∧ Below w0.heap.size w0 w' ∧ Kept w w' (fun k => k = h) := by
  refine (ip_put.calls 10 (fun k => k = h) (.slice (some ⟨h, 0, none⟩) n c) l a m x r w0 w hB (Kd.R_of_own (Kd.own_of_R ho) (fun k hk => by injection hk with hk; exact hk.symm)) hf).mono ?_
  rintro e w' ⟨rfl, h1, h2, h3⟩
  exact ⟨rfl, Kd.R_mono h1 (fun _ _ => trivial), h2, h3⟩
set_option maxRecDepth 100000 in
theorem inW_calls (x n : Int) (hn : 0 ≤ n) (w : World) : Calls Try.prog 125 #[.int .i64 x, .int .i64 n] w fun e w' => e = .returned (.bool (ip_Build.inW x n)) ∧ ∃ m, w' = w.drewN m := by
  refine (ip_within.calls x n (ip_Build.inW x n) w ?_).mono ?_
  · unfold ip_within.f ip_Build.inW
    split
    · first | rfl | (rw [if_pos hn])
    · rfl
  · rintro e w' ⟨rfl, h⟩
    exact ⟨rfl, h.out⟩
set_option maxRecDepth 100000 in
/-- copy(b[20:], opts): b a row of one's own that ends with the options' places. -/
theorem ip_Build.copy_step {ops : Array Oper} {o : Oper} {a : Act} {W w0 : World} {K : Act → World → Prop} {Q : Exit → Act → World → Prop} {E : Prop} (hgd : o.guard = none) (s x : Operand) (ho : o.op = .call { callee := .builtin .copy, args := #[s, x], argTypes := #[23, 23] })
    {h c c' : Nat} {A : Option Addr} {D : Option Addr} {n' d' : Nat} {xs ys : List Int} (hs : a.eval s = .slice D n' d') (hx : a.eval x = .slice A ys.length c')
    (hn : n' = ys.length) (hD : 0 < ys.length → D = some ⟨h, 20, none⟩) (hl : xs.length = 20 + ys.length)
    (HO : Kd.R (Kd.int .u8) 5 W w0.heap.size (fun _ => True) (.slice (some ⟨h, 0, none⟩) xs.length c) xs) (HR : Kd.C (Kd.int .u8) W A ys.length ys) (HB : Below w0.heap.size w0 W)
    (hK : ∀ w1, Kd.R (Kd.int .u8) 5 w1 w0.heap.size (fun _ => True) (.slice (some ⟨h, 0, none⟩) xs.length c) (xs.take 20 ++ ys) → Below w0.heap.size w0 w1 → W.grownBy w1 (some h) → K (a.put o.dst (.int .i64 ys.length)) w1) :
    if Region.wanted o (yielded ops a.tmps) = true then Oper.wp Try.prog o a W K Q else E := by
  have hw : Region.wanted o (yielded ops a.tmps) = true := by simp [Region.wanted, hgd]
  rw [if_pos hw]
  have hsz : (Try.prog.info? 5).map (·.size) = some 1 := by obtain ⟨i0, hi, hz, hz1, hz2⟩ := info_parts info5; rw [hi]; simp [hz1]
  obtain ⟨h', c1, he, hbh, hlt, cells, hcells⟩ := Kd.R_form HO (by omega)
  injection he with he1 he2 he3
  injection he1 with he1
  injection he1 with he1
  subst he1 he3
  subst hn
  have fin : ∀ w1, (Builtin.copy_ #[23, 23] o.type #[.slice D ys.length d', .slice A ys.length c']).run Try.prog W = .ok (goInt ys.length) w1 → Kd.R (Kd.int .u8) 5 w1 w0.heap.size (fun _ => True) (.slice (some ⟨h, 0, none⟩) xs.length c) (xs.take 20 ++ ys) → W.grownBy w1 (some h) → Oper.wp Try.prog o a W K Q := by
    intro w1 hr hrow hg
    unfold Oper.wp execOp
    simp only [ho, resolve, invoke, builtin, Sem.run_bind, Sem.run_pure, Result.andThen_ok, List.map_toArray, List.map_cons, List.map_nil, hs, hx, hr]
    exact hK w1 hrow (pw_below_grown HB _ HB.size hg (fun k hk => by injection hk with hk; omega)) hg
  rcases Nat.eq_zero_or_pos ys.length with h0 | hp
  · have hy : ys = [] := List.eq_nil_of_length_eq_zero h0
    subst hy
    refine fin W ?_ (by rw [List.take_of_length_le (by simp at hl; omega), List.append_nil]; exact HO) (World.grownBy.refl W _)
    exact run_copy_none W _ _ o.type 5 D A 0 d' 0 c' Try.underlying23 hsz rfl
  · have hd := hD hp
    subst hd
    obtain ⟨ad, rfl, hc⟩ := HR.2.2 hp
    have hrow := R_setCells ys W xs 20 (by omega) HO
    rw [List.drop_of_length_le (by omega), List.append_nil] at hrow
    have hrun := run_copy_cells (P := Try.prog) W 23 23 o.type 5 h 20 ys.length d' ad ys.length c' (ys.map (Value.int .u8)) Try.underlying23 hsz (by simp)
      (fun j v hj => by
        have hjl : j < ys.length := by
          have := (List.getElem?_eq_some_iff.1 hj).1
          simpa using this
        obtain ⟨ad', e', hq⟩ := Kd.at_int HR (j : Int) (by omega) (by omega)
        injection e' with e'
        subst e'
        rw [List.getElem?_map] at hj
        simp only [Int.toNat_natCast] at hq
        rw [hq, rd_getD0]
        rw [List.getElem?_eq_getElem hjl] at hj
        simp only [Option.map_some] at hj
        rw [← hj, List.getD_eq_getElem?_getD, List.getElem?_eq_getElem hjl]
        rfl)
      (fun j hj => by
        simp only [List.length_map] at hj
        have := (Kd.R_celln 0 HO ((20 + j : Nat) : Int) (by omega) (by omega)).1
        simp only [Int.toNat_natCast] at this
        rw [this]; rfl)
      (fun j hj => by
        simp only [List.length_map] at hj
        have := (Kd.R_celln 0 HO ((20 + j : Nat) : Int) (by omega) (by omega)).2
        simpa only [Int.toNat_natCast] using this)
      (fun v hv => by
        obtain ⟨y, _, rfl⟩ := List.mem_map.1 hv
        rfl)
    rw [List.length_map] at hrun
    exact fin _ hrun hrow.1 hrow.2
set_option maxHeartbeats 3200000 in
set_option maxRecDepth 100000 in
theorem ip_Build.r21 {s0 s4 s5 s6 s7 s8 s9 s10 s11 s12 s13 s14 s15 s16 s17 s18 s19 s20 s21 s22 s23 s24 s25 s26 s27 s28 s29 s30 s31 s32 s33 s34 s35 s36 s37 s38 s39 s40 s41 s42 s43 s44 s45 s46 s47 s48 s49 s50 s51 s52 s53 s54 s55 s56 s57 s58 s59 s60 s61 s62 s63 s64 s65 s66 s67 s68 s69 s70 s71 s72 s73 s74 s75 s76 s77 s78 s79 s80 s81 s82 s83 s84 s85 s86 s87 s88 s89 s90 s91 s92 s93 s94 s95 s96 s97 s98 s99 s100 s101 s102 s103 s104 s105 s106 s107 s108 s109 s110 s111 s112 s113 s114 s115 s116 s117 s118 s119 s120 s121 s122 s123 s124 s125 s126 s127 s128 s129 s130 : Value} {D : List Deferred} {L opts : List Int} {A9 : Option Addr} {c9 : Nat} {gb p q h c : Nat} {cs : Array Value} {w0 w : World} {Q : Exit → Act → World → Prop}
    (hbx : w.heap[gb]? = some (.cells cs 29 (0, 0))) (hp : w.heap[p]? = some (.cells #[.slice (some ⟨h, 0, none⟩) L.length c] 23 (0, 0))) (hq : w.heap[q]? = some (.cells #[.int .i64 0] 47 (0, 0))) (ho : Kd.R (Kd.int .u8) 5 w w0.heap.size (fun _ => True) (.slice (some ⟨h, 0, none⟩) L.length c) L) (hb : Below w0.heap.size w0 w)
    (h9 : cs[9]? = some (.slice A9 opts.length c9)) (hr9 : Kd.C (Kd.int .u8) w0 A9 opts.length opts) (hl : L.length = 20 + opts.length) (hlc : L.length ≤ c)
    (hQ : ∀ y117 y118 y119 y120 y121 w', w'.heap[gb]? = some (.cells cs 29 (0, 0)) → w'.heap[p]? = some (.cells #[.slice (some ⟨h, 0, none⟩) L.length c] 23 (0, 0)) → w'.heap[q]? = some (.cells #[.int .i64 0] 47 (0, 0)) → Kd.R (Kd.int .u8) 5 w' w0.heap.size (fun _ => True) (.slice (some ⟨h, 0, none⟩) L.length c) (L.take 20 ++ opts) → Below w0.heap.size w0 w' → Q .normal ⟨#[s0, .pointer (some ⟨gb, 0, none⟩), .pointer (some ⟨p, 0, none⟩), .pointer (some ⟨q, 0, none⟩), s4, s5, s6, s7, s8, s9, s10, s11, s12, s13, s14, s15, s16, s17, s18, s19, s20, s21, s22, s23, s24, s25, s26, s27, s28, s29, s30, s31, s32, s33, s34, s35, s36, s37, s38, s39, s40, s41, s42, s43, s44, s45, s46, s47, s48, s49, s50, s51, s52, s53, s54, s55, s56, s57, s58, s59, s60, s61, s62, s63, s64, s65, s66, s67, s68, s69, s70, s71, s72, s73, s74, s75, s76, s77, s78, s79, s80, s81, s82, s83, s84, s85, s86, s87, s88, s89, s90, s91, s92, s93, s94, s95, s96, s97, s98, s99, s100, s101, s102, s103, s104, s105, s106, s107, s108, s109, s110, s111, s112, s113, s114, s115, s116, y117, y118, y119, y120, y121, s122, s123, s124, s125, s126, s127, s128, s129, s130], D⟩ w') :
    (regionIn 21 Try.f91).wp Try.prog Q ⟨#[s0, .pointer (some ⟨gb, 0, none⟩), .pointer (some ⟨p, 0, none⟩), .pointer (some ⟨q, 0, none⟩), s4, s5, s6, s7, s8, s9, s10, s11, s12, s13, s14, s15, s16, s17, s18, s19, s20, s21, s22, s23, s24, s25, s26, s27, s28, s29, s30, s31, s32, s33, s34, s35, s36, s37, s38, s39, s40, s41, s42, s43, s44, s45, s46, s47, s48, s49, s50, s51, s52, s53, s54, s55, s56, s57, s58, s59, s60, s61, s62, s63, s64, s65, s66, s67, s68, s69, s70, s71, s72, s73, s74, s75, s76, s77, s78, s79, s80, s81, s82, s83, s84, s85, s86, s87, s88, s89, s90, s91, s92, s93, s94, s95, s96, s97, s98, s99, s100, s101, s102, s103, s104, s105, s106, s107, s108, s109, s110, s111, s112, s113, s114, s115, s116, s117, s118, s119, s120, s121, s122, s123, s124, s125, s126, s127, s128, s129, s130], D⟩ w := by
  conv => arg 2; whnf
  have HBX := Aside0.mk hbx
  have HP := Aside0.mk hp
  have HE := Aside0.mk hq
  have HO := Aside0.mk ho
  have HB := Aside0.mk hb
  have HR9 := Aside0.mk hr9
  have HQ := Aside0.mk hQ
  have HL := Aside0.mk hl
  obtain ⟨h', c1, he, hbh, hlt, cells, hcells⟩ := Kd.R_form ho (by omega)
  injection he with he1 he2 he3
  injection he1 with he1
  injection he1 with he1
  subst he1 he3
  have HC := Aside0.mk hcells
  obtain ⟨iz, hin, hz, hsz, hbb⟩ := info_parts info5
  have m1 := cut_from (P := Try.prog) 23 5 .i64 Try.underlying23 hin 1 hsz (some ⟨h, 0, none⟩) L.length c 20 (by decide) (by omega)
  obtain ⟨D1, hD1⟩ : ∃ y, y = (if c = (20 : Int).toNat then (some (⟨h, 0, none⟩ : Addr)) else (some (⟨h, 0, none⟩ : Addr)).map (·.add ((20 : Int).toNat * 1))) := ⟨_, rfl⟩
  rw [← hD1, show (20 : Int).toNat = 20 from rfl] at m1
  have HD : Aside0 (0 < opts.length → D1 = some ⟨h, 20, none⟩) := ⟨fun hp => by rw [hD1, show (20 : Int).toNat = 20 from rfl, if_neg (by omega)]; rfl⟩
  have k1 : w.cell? ⟨p, 0, none⟩ = some (.slice (some ⟨h, 0, none⟩) L.length c) := (blk_cell hp 0).trans rfl
  have k2 : w.cell? ⟨gb, 9, none⟩ = some (.slice A9 opts.length c9) := (blk_cell hbx 9).trans h9
  clear hbx hp hq ho hb hr9 hQ hl hcells hD1 hin hz hsz hbb h9 hlc
  refine wp_region_noPanic ?_
  go_region_law
    (first
      | (refine ip_Build.copy_step (w0 := w0) (h := h) (c := c) (xs := L) (ys := opts) (D := D1) (n' := L.length - 20) (d' := c - 20) (A := A9) (c' := c9) rfl (.tmp 118) (.tmp 120) rfl (by rfl) (by rfl) (by have := HL.out; omega) HD.out HL.out (Kd.R_drew HO.out) (Kd.C_below HR9.out (below_drew HB.out)) (below_drew HB.out) ?_
         intro w1 ho1 hb1 hg1
         have n1 := blk_grown (blk_drew HBX.out) hg1 (fun e => blk_ne HBX.out HC.out (by decide) (Option.some.inj e))
         have n2 := blk_grown (blk_drew HP.out) hg1 (fun e => blk_ne HP.out HC.out (by decide) (Option.some.inj e))
         have n3 := blk_grown (blk_drew HE.out) hg1 (fun e => blk_ne HE.out HC.out (by decide) (Option.some.inj e))))
  all_goals exact NoPanic.normal (HQ.out _ _ _ _ _ _ n1 n2 n3 ho1 hb1)
set_option maxHeartbeats 3200000 in
set_option maxRecDepth 100000 in
theorem ip_Build.r22 {s0 s4 s5 s6 s7 s8 s9 s10 s11 s12 s13 s14 s15 s16 s17 s18 s19 s20 s21 s22 s23 s24 s25 s26 s27 s28 s29 s30 s31 s32 s33 s34 s35 s36 s37 s38 s39 s40 s41 s42 s43 s44 s45 s46 s47 s48 s49 s50 s51 s52 s53 s54 s55 s56 s57 s58 s59 s60 s61 s62 s63 s64 s65 s66 s67 s68 s69 s70 s71 s72 s73 s74 s75 s76 s77 s78 s79 s80 s81 s82 s83 s84 s85 s86 s87 s88 s89 s90 s91 s92 s93 s94 s95 s96 s97 s98 s99 s100 s101 s102 s103 s104 s105 s106 s107 s108 s109 s110 s111 s112 s113 s114 s115 s116 s117 s118 s119 s120 s121 s122 s123 s124 s125 s126 s127 s128 s129 s130 : Value} {D : List Deferred} {L r : List Int} {ck : Int} {gb p q h c : Nat} {cs : Array Value} {w0 w : World} {Q : Exit → Act → World → Prop}
    (hbx : w.heap[gb]? = some (.cells cs 29 (0, 0))) (hp : w.heap[p]? = some (.cells #[.slice (some ⟨h, 0, none⟩) L.length c] 23 (0, 0))) (hq : w.heap[q]? = some (.cells #[.int .i64 0] 47 (0, 0))) (ho : Kd.R (Kd.int .u8) 5 w w0.heap.size (fun _ => True) (.slice (some ⟨h, 0, none⟩) L.length c) L) (hb : Below w0.heap.size w0 w)
    (hck : octet_Check.f [L] = some ck) (hr : ip_put.f 10 L 10 2 ck = some r) (h0 : 0 < L.length)
    (hQ : ∀ y122 y123 y124 y125 y126 w', w'.heap[gb]? = some (.cells cs 29 (0, 0)) → w'.heap[p]? = some (.cells #[.slice (some ⟨h, 0, none⟩) L.length c] 23 (0, 0)) → w'.heap[q]? = some (.cells #[.int .i64 0] 47 (0, 0)) → Kd.R (Kd.int .u8) 5 w' w0.heap.size (fun _ => True) (.slice (some ⟨h, 0, none⟩) L.length c) r → Below w0.heap.size w0 w' → Q .normal ⟨#[s0, .pointer (some ⟨gb, 0, none⟩), .pointer (some ⟨p, 0, none⟩), .pointer (some ⟨q, 0, none⟩), s4, s5, s6, s7, s8, s9, s10, s11, s12, s13, s14, s15, s16, s17, s18, s19, s20, s21, s22, s23, s24, s25, s26, s27, s28, s29, s30, s31, s32, s33, s34, s35, s36, s37, s38, s39, s40, s41, s42, s43, s44, s45, s46, s47, s48, s49, s50, s51, s52, s53, s54, s55, s56, s57, s58, s59, s60, s61, s62, s63, s64, s65, s66, s67, s68, s69, s70, s71, s72, s73, s74, s75, s76, s77, s78, s79, s80, s81, s82, s83, s84, s85, s86, s87, s88, s89, s90, s91, s92, s93, s94, s95, s96, s97, s98, s99, s100, s101, s102, s103, s104, s105, s106, s107, s108, s109, s110, s111, s112, s113, s114, s115, s116, s117, s118, s119, s120, s121, y122, y123, y124, y125, y126, s127, s128, s129, s130], D⟩ w') :
    (regionIn 22 Try.f91).wp Try.prog Q ⟨#[s0, .pointer (some ⟨gb, 0, none⟩), .pointer (some ⟨p, 0, none⟩), .pointer (some ⟨q, 0, none⟩), s4, s5, s6, s7, s8, s9, s10, s11, s12, s13, s14, s15, s16, s17, s18, s19, s20, s21, s22, s23, s24, s25, s26, s27, s28, s29, s30, s31, s32, s33, s34, s35, s36, s37, s38, s39, s40, s41, s42, s43, s44, s45, s46, s47, s48, s49, s50, s51, s52, s53, s54, s55, s56, s57, s58, s59, s60, s61, s62, s63, s64, s65, s66, s67, s68, s69, s70, s71, s72, s73, s74, s75, s76, s77, s78, s79, s80, s81, s82, s83, s84, s85, s86, s87, s88, s89, s90, s91, s92, s93, s94, s95, s96, s97, s98, s99, s100, s101, s102, s103, s104, s105, s106, s107, s108, s109, s110, s111, s112, s113, s114, s115, s116, s117, s118, s119, s120, s121, s122, s123, s124, s125, s126, s127, s128, s129, s130], D⟩ w := by
  conv => arg 2; whnf
  have HBX := Aside0.mk hbx
  have HP := Aside0.mk hp
  have HE := Aside0.mk hq
  have HO := Aside0.mk ho
  have HB := Aside0.mk hb
  have HCK := Aside0.mk hck
  have HRR := Aside0.mk hr
  have HQ := Aside0.mk hQ
  obtain ⟨h', c1, he, hbh, hlt, cells, hcells⟩ := Kd.R_form ho h0
  injection he with he1 he2 he3
  injection he1 with he1
  injection he1 with he1
  subst he1 he3
  have HC := Aside0.mk (And.intro (blk_ne hbx hcells (by decide)) (And.intro (blk_ne hp hcells (by decide)) (blk_ne hq hcells (by decide))))
  have k1 : w.cell? ⟨p, 0, none⟩ = some (.slice (some ⟨h, 0, none⟩) L.length c) := (blk_cell hp 0).trans rfl
  have k1' : (w.alloc (.cells #[.slice (some ⟨h, 0, none⟩) L.length c] 23)).cell? ⟨p, 0, none⟩ = some (.slice (some ⟨h, 0, none⟩) L.length c) := (blk_cell (blk_alloc hp _) 0).trans rfl
  clear hbx hp hq ho hb hck hr hQ hcells h0
  refine wp_region_noPanic ?_
  go_region_law
    (first
      | (refine goes_ (f := 122) Try.func122 (by kernel_rfl) rfl #[.slice (some ⟨w.heap.size, 0, none⟩) 1 1] (by rfl) rfl rfl ?ha ?_
         (case ha => first | rfl | (go_simp; done) | (simp [Act.eval]; done))
         refine (octet_Check.calls (some ⟨w.heap.size, 0, none⟩) 1 [L] ck _ (by first | exact C_one (heap_alloc_new w _) (Kd.R_reads' HO.out).2.1 (Kd.C_alloc (Kd.R_reads' HO.out).2.2 _) | exact C_one (blk_drew (heap_alloc_new w _)) (Kd.R_reads' HO.out).2.1 (Kd.C_drew (Kd.C_alloc (Kd.R_reads' HO.out).2.2 _))) (Nat.le_refl 1) HCK.out).mono ?_
         rintro e w2 ⟨rfl, hb2⟩
         refine ⟨_, rfl, ?_⟩
         have n1 := Aside0.mk (blk_below (by first | exact blk_alloc HBX.out _ | exact blk_drew (blk_alloc HBX.out _)) hb2)
         have n2 := Aside0.mk (blk_below (by first | exact blk_alloc HP.out _ | exact blk_drew (blk_alloc HP.out _)) hb2)
         have n3 := Aside0.mk (blk_below (by first | exact blk_alloc HE.out _ | exact blk_drew (blk_alloc HE.out _)) hb2)
         have n4 := Aside0.mk (Kd.R_below (by first | exact Kd.R_alloc HO.out _ | exact Kd.R_drew (Kd.R_alloc HO.out _)) hb2)
         have n5 := Aside0.mk (below_step (by first | exact below_alloc HB.out _ | exact below_drew (below_alloc HB.out _)) hb2)
         clear HBX HP HE HO HB hb2
         have HBX := n1
         have HP := n2
         have HE := n3
         have HO := n4
         have HB := n5
         clear n1 n2 n3 n4 n5
         have k2 : w2.cell? ⟨p, 0, none⟩ = some (.slice (some ⟨h, 0, none⟩) L.length c) := (blk_cell HP.out 0).trans rfl)
      | (refine goes_ (f := 126) Try.func126 (by kernel_rfl) rfl #[.slice (some ⟨h, 0, none⟩) L.length c, .int .i64 10, .int .i64 2, .int .i64 ck] (by rfl) rfl rfl ?ha ?_
         (case ha => first | rfl | (go_simp; done) | (simp [Act.eval]; done))
         refine (ip_put.one HB.out HO.out HRR.out).mono ?_
         rintro e w3 ⟨rfl, ho3, hb3, hk3⟩
         refine ⟨_, rfl, ?_⟩
         have n1 := kept_blk hk3 HBX.out HC.out.1
         have n2 := kept_blk hk3 HP.out HC.out.2.1
         have n3 := kept_blk hk3 HE.out HC.out.2.2))
  all_goals exact NoPanic.normal (HQ.out _ _ _ _ _ _ n1 n2 n3 ho3 hb3)
set_option maxHeartbeats 3200000 in
set_option maxRecDepth 100000 in
theorem ip_Build.r23 {s0 s4 s5 s6 s7 s8 s9 s10 s11 s12 s13 s14 s15 s16 s17 s18 s19 s20 s21 s22 s23 s24 s25 s26 s27 s28 s29 s30 s31 s32 s33 s34 s35 s36 s37 s38 s39 s40 s41 s42 s43 s44 s45 s46 s47 s48 s49 s50 s51 s52 s53 s54 s55 s56 s57 s58 s59 s60 s61 s62 s63 s64 s65 s66 s67 s68 s69 s70 s71 s72 s73 s74 s75 s76 s77 s78 s79 s80 s81 s82 s83 s84 s85 s86 s87 s88 s89 s90 s91 s92 s93 s94 s95 s96 s97 s98 s99 s100 s101 s102 s103 s104 s105 s106 s107 s108 s109 s110 s111 s112 s113 s114 s115 s116 s117 s118 s119 s120 s121 s122 s123 s124 s125 s126 s127 s128 s129 s130 : Value} {D : List Deferred} {L body : List Int} {A10 : Option Addr} {c10 : Nat} {gb p q h c : Nat} {cs : Array Value} {w0 w : World} {Q : Exit → Act → World → Prop}
    (hbx : w.heap[gb]? = some (.cells cs 29 (0, 0))) (hp : w.heap[p]? = some (.cells #[.slice (some ⟨h, 0, none⟩) L.length c] 23 (0, 0))) (hq : w.heap[q]? = some (.cells #[.int .i64 0] 47 (0, 0))) (ho : Kd.R (Kd.int .u8) 5 w w0.heap.size (fun _ => True) (.slice (some ⟨h, 0, none⟩) L.length c) L) (hb : Below w0.heap.size w0 w)
    (h10 : cs[10]? = some (.slice A10 body.length c10)) (hr10 : Kd.C (Kd.int .u8) w0 A10 body.length body) (hl : L.length + body.length ≤ 1000000) (hgp : w0.heap.size ≤ p) (hgq : w0.heap.size ≤ q) (hne : ¬ p = q)
    (hQ : ∀ y127 y128 y129 y130 v1 w', w'.heap[p]? = some (.cells #[v1] 23 (0, 0)) → w'.heap[q]? = some (.cells #[.int .i64 0] 47 (0, 0)) → Kd.R (Kd.int .u8) 5 w' w0.heap.size (fun _ => True) v1 (L ++ body) → Below w0.heap.size w0 w' → Q .normal ⟨#[s0, .pointer (some ⟨gb, 0, none⟩), .pointer (some ⟨p, 0, none⟩), .pointer (some ⟨q, 0, none⟩), s4, s5, s6, s7, s8, s9, s10, s11, s12, s13, s14, s15, s16, s17, s18, s19, s20, s21, s22, s23, s24, s25, s26, s27, s28, s29, s30, s31, s32, s33, s34, s35, s36, s37, s38, s39, s40, s41, s42, s43, s44, s45, s46, s47, s48, s49, s50, s51, s52, s53, s54, s55, s56, s57, s58, s59, s60, s61, s62, s63, s64, s65, s66, s67, s68, s69, s70, s71, s72, s73, s74, s75, s76, s77, s78, s79, s80, s81, s82, s83, s84, s85, s86, s87, s88, s89, s90, s91, s92, s93, s94, s95, s96, s97, s98, s99, s100, s101, s102, s103, s104, s105, s106, s107, s108, s109, s110, s111, s112, s113, s114, s115, s116, s117, s118, s119, s120, s121, s122, s123, s124, s125, s126, y127, y128, y129, y130], D⟩ w') :
    (regionIn 23 Try.f91).wp Try.prog Q ⟨#[s0, .pointer (some ⟨gb, 0, none⟩), .pointer (some ⟨p, 0, none⟩), .pointer (some ⟨q, 0, none⟩), s4, s5, s6, s7, s8, s9, s10, s11, s12, s13, s14, s15, s16, s17, s18, s19, s20, s21, s22, s23, s24, s25, s26, s27, s28, s29, s30, s31, s32, s33, s34, s35, s36, s37, s38, s39, s40, s41, s42, s43, s44, s45, s46, s47, s48, s49, s50, s51, s52, s53, s54, s55, s56, s57, s58, s59, s60, s61, s62, s63, s64, s65, s66, s67, s68, s69, s70, s71, s72, s73, s74, s75, s76, s77, s78, s79, s80, s81, s82, s83, s84, s85, s86, s87, s88, s89, s90, s91, s92, s93, s94, s95, s96, s97, s98, s99, s100, s101, s102, s103, s104, s105, s106, s107, s108, s109, s110, s111, s112, s113, s114, s115, s116, s117, s118, s119, s120, s121, s122, s123, s124, s125, s126, s127, s128, s129, s130], D⟩ w := by
  conv => arg 2; whnf
  have HBX := Aside0.mk hbx
  have HP := Aside0.mk hp
  have HE := Aside0.mk hq
  have HO := Aside0.mk ho
  have HB := Aside0.mk hb
  have HR10 := Aside0.mk hr10
  have HQ := Aside0.mk hQ
  have HL := Aside0.mk hl
  have HG := Aside0.mk (And.intro hgp (And.intro hgq hne))
  have hne' : ¬ q = p := fun h => hne h.symm
  have k1 : w.cell? ⟨p, 0, none⟩ = some (.slice (some ⟨h, 0, none⟩) L.length c) := (blk_cell hp 0).trans rfl
  have k2 : w.cell? ⟨gb, 10, none⟩ = some (.slice A10 body.length c10) := (blk_cell hbx 10).trans h10
  clear hbx hp hq ho hb hr10 hQ hl h10 hgp hgq
  refine wp_region_noPanic ?_
  go_wp2_with (first | (at_builtin; refine rows_list (w0 := w0) rfl (.tmp 127) (.tmp 129) rfl (v := .slice (some ⟨h, 0, none⟩) L.length c) (xs := L) (ys := body) (A := A10) (c := c10) (by rfl) (by rfl) HO.out (Kd.C_below HR10.out HB.out) HB.out (by have := HL.out; omega) ?_; intro v1 w1 ho1 hb1 hg1; obtain ⟨V1, C1, rfl⟩ := Kd.R_slice ho1; have n2 := Aside0.mk (blk_grown HP.out hg1 (Kd.R_ne HO.out HP.out (by decide))); have n3 := Aside0.mk (blk_grown HE.out hg1 (Kd.R_ne HO.out HE.out (by decide))); have HO1 := Aside0.mk ho1; have HB1 := Aside0.mk hb1; clear ho1 hb1 hg1; have q1 : w1.cell? ⟨p, 0, none⟩ = some (.slice (some ⟨h, 0, none⟩) L.length c) := (blk_cell n2.out 0).trans rfl; have q2 : w1.frozen? ⟨p, 0, none⟩ = false := blk_frozen n2.out 0; have q3 : w1.cell? ⟨q, 0, none⟩ = some (.int .i64 0) := (blk_cell n3.out 0).trans rfl; have q4 : w1.frozen? ⟨q, 0, none⟩ = false := blk_frozen n3.out 0))
  refine NoPanic.normal (HQ.out _ _ _ _ (.slice V1 (L.length + body.length) C1) _ ?_ ?_ ?_ ?_)
  · exact blk_far (blk_put n2.out 0 _ rfl) HG.out.2.2 _
  · exact blk_put (cs := #[.int .i64 0]) (blk_far n3.out hne' _) 0 _ rfl
  · exact Kd.R_set (by first | exact Kd.R_set HO1.out n2.out (by decide) 0 _ | simpa using Kd.R_set HO1.out n2.out (by decide) 0 _) (blk_far n3.out hne' _) (by decide) 0 _
  · exact below_set (below_set HB1.out HG.out.1) HG.out.2.1
set_option maxRecDepth 100000 in
theorem ip_Build.refused {tmps : Array Value} {w w0 : World} {p q : Nat} {e : Int} {v : Value} {R : Ending → World → Prop} (h2 : tmps.getD 2 undef = .pointer (some ⟨p, 0, none⟩)) (h3 : tmps.getD 3 undef = .pointer (some ⟨q, 0, none⟩))
    (hp : w.heap[p]? = some (.cells #[v] 23 (0, 0))) (hq : w.heap[q]? = some (.cells #[.int .i64 0] 47 (0, 0))) (hne : ¬ p = q) (hB : Below w0.heap.size w0 w) (hgp : w0.heap.size ≤ p) (hgq : w0.heap.size ≤ q)
    (hR : ∀ w', Below w0.heap.size w0 w' → R (.returned (.tuple #[.slice none 0 0, .int .i64 e])) w') :
    Leaves Try.prog Try.f91 tmps R [{ target := .fn (.func 124) #[.pointer (some ⟨p, 0, none⟩), .pointer (some ⟨q, 0, none⟩)], args := #[] }] (.panicking [{ v := .iface 47 (.int .i64 e), recovered := false }]) w := by
  refine leaves_cons (f := 124) (args := #[.pointer (some ⟨p, 0, none⟩), .pointer (some ⟨q, 0, none⟩)]) (by simp) (by simp [go_sem]) ?_
  refine (ip_Build.catch p q e _ _ [] w ((blk_cell hp 0).trans rfl) (blk_frozen hp 0) ((blk_cell hq 0).trans rfl) (blk_frozen hq 0) hne).mono ?_
  rintro e' u' w'' ⟨rfl, rfl, rfl⟩
  refine ⟨_, results_ss rfl _ _ p q 23 47 (.slice none 0 0) (.int .i64 e) (0, 0) (0, 0) h2 ?_ h3 ?_ (fun w h => bytes_load p _ w h) (fun w h => errno_load q _ w h), ?_⟩
  · exact blk_far (blk_put (cs := #[v]) hp 0 _ rfl) hne _
  · exact blk_put (cs := #[.int .i64 0]) (blk_far hq (fun h => hne h.symm) _) 0 _ rfl
  · exact hR _ (below_set (below_set hB hgp) hgq)
set_option maxHeartbeats 8000000 in
set_option maxRecDepth 100000 in
theorem ip_Build.calls (tos id : Int) (df mf : Bool) (off ttl proto src dst : Int) (A9 : Option Addr) (c9 : Nat) (opts : List Int) (A10 : Option Addr) (c10 : Nat) (body : List Int) (r1 : List Int) (r2 : Int) (w : World) (hr9 : Kd.C (Kd.int .u8) w A9 opts.length opts) (hc9 : opts.length ≤ c9) (hr10 : Kd.C (Kd.int .u8) w A10 body.length body) (hc10 : body.length ≤ c10) (h : ip_Build.f tos id df mf off ttl proto src dst opts body = some (r1, r2)) :
    Calls Try.prog 91 #[.agg #[.int .i64 tos, .int .i64 id, .bool df, .bool mf, .int .i64 off, .int .i64 ttl, .int .i64 proto, .int .u32 src, .int .u32 dst, .slice A9 opts.length c9, .slice A10 body.length c10]] w fun e w' => ∃ v0_ : Value, e = .returned (.tuple #[v0_, .int .i64 r2]) ∧ Kd.R (Kd.int .u8) 5 w' w.heap.size (fun _ => True) v0_ r1 ∧ Below w.heap.size w w' := by
  have hmf : ∀ (fn : Fn) (first cap : Array Value) (w : World), (Instr.makeFunc fn first cap).run Try.prog w = .ok (.func fn first cap) w := fun _ _ _ _ => rfl
  have hu := Try.underlying29
  have HR9 := Aside0.mk hr9
  have HC9 := Aside0.mk hc9
  have HR10 := Aside0.mk hr10
  have HC10 := Aside0.mk hc10
  have HB : Aside0 (Below w.heap.size w (((w.alloc (.cells #[.int .i64 tos, .int .i64 id, .bool df, .bool mf, .int .i64 off, .int .i64 ttl, .int .i64 proto, .int .u32 src, .int .u32 dst, .slice A9 opts.length c9, .slice A10 body.length c10] 29)).alloc (.cells #[.slice none 0 0] 23)).alloc (.cells #[.int .i64 0] 47))) := ⟨below_alloc (below_alloc (below_alloc (Below.refl _ _) _) _) _⟩
  have HBX : Aside0 ((((w.alloc (.cells #[.int .i64 tos, .int .i64 id, .bool df, .bool mf, .int .i64 off, .int .i64 ttl, .int .i64 proto, .int .u32 src, .int .u32 dst, .slice A9 opts.length c9, .slice A10 body.length c10] 29)).alloc (.cells #[.slice none 0 0] 23)).alloc (.cells #[.int .i64 0] 47)).heap[w.heap.size]? = some (.cells #[.int .i64 tos, .int .i64 id, .bool df, .bool mf, .int .i64 off, .int .i64 ttl, .int .i64 proto, .int .u32 src, .int .u32 dst, .slice A9 opts.length c9, .slice A10 body.length c10] 29 (0, 0))) := ⟨blk_alloc (blk_alloc (heap_alloc_new w _) _) _⟩
  have HP : Aside0 ((((w.alloc (.cells #[.int .i64 tos, .int .i64 id, .bool df, .bool mf, .int .i64 off, .int .i64 ttl, .int .i64 proto, .int .u32 src, .int .u32 dst, .slice A9 opts.length c9, .slice A10 body.length c10] 29)).alloc (.cells #[.slice none 0 0] 23)).alloc (.cells #[.int .i64 0] 47)).heap[w.heap.size + 1]? = some (.cells #[.slice none 0 0] 23 (0, 0))) := ⟨blk_alloc (by simpa using heap_alloc_new (w.alloc (.cells #[.int .i64 tos, .int .i64 id, .bool df, .bool mf, .int .i64 off, .int .i64 ttl, .int .i64 proto, .int .u32 src, .int .u32 dst, .slice A9 opts.length c9, .slice A10 body.length c10] 29)) (.cells #[.slice none 0 0] 23)) _⟩
  have HE : Aside0 ((((w.alloc (.cells #[.int .i64 tos, .int .i64 id, .bool df, .bool mf, .int .i64 off, .int .i64 ttl, .int .i64 proto, .int .u32 src, .int .u32 dst, .slice A9 opts.length c9, .slice A10 body.length c10] 29)).alloc (.cells #[.slice none 0 0] 23)).alloc (.cells #[.int .i64 0] 47)).heap[w.heap.size + 2]? = some (.cells #[.int .i64 0] 47 (0, 0))) := ⟨by simpa using heap_alloc_new ((w.alloc (.cells #[.int .i64 tos, .int .i64 id, .bool df, .bool mf, .int .i64 off, .int .i64 ttl, .int .i64 proto, .int .u32 src, .int .u32 dst, .slice A9 opts.length c9, .slice A10 body.length c10] 29)).alloc (.cells #[.slice none 0 0] 23)) (.cells #[.int .i64 0] 47)⟩
  clear hr9 hc9 hr10 hc10
  unfold ip_Build.f at h
  by_cases a1 : ip_Build.inW tos 8 = false
  · rw [if_pos a1] at h
    simp only [Option.some.injEq, Prod.mk.injEq] at h
    obtain ⟨rfl, rfl⟩ := h
    go_enter_defers Try.func91, Try.ntmps91
    go_wp2_with (first | (go_at_call 125; (with_reducible refine (inW_calls _ _ (by omega) _).mono ?_); rintro e' w1 ⟨rfl, n1, rfl⟩) | (go_at_call 105; (with_reducible refine (ip_refuse.gives _ _).mono ?_); rintro e' w1 ⟨rfl, rfl⟩))
    refine ip_Build.refused (w0 := w) rfl rfl (by repeat (first | exact HP.out | refine blk_drewN ?_ _)) (by repeat (first | exact HE.out | refine blk_drewN ?_ _)) (by omega) (by repeat (first | exact HB.out | refine pw_below_drewN ?_ _)) (by omega) (by omega) ?_
    intro w' hb
    exact ⟨_, rfl, Kd.R_nil _ _ _ _ _, hb⟩
  rw [if_neg a1] at h
  replace a1 : ip_Build.inW tos 8 = true := by simpa using a1
  by_cases a2 : ip_Build.inW ttl 8 = false
  · rw [if_pos a2] at h
    simp only [Option.some.injEq, Prod.mk.injEq] at h
    obtain ⟨rfl, rfl⟩ := h
    go_enter_defers Try.func91, Try.ntmps91
    go_wp2_with (first | (go_at_call 125; (with_reducible refine (inW_calls _ _ (by omega) _).mono ?_); rintro e' w1 ⟨rfl, n1, rfl⟩) | (go_at_call 105; (with_reducible refine (ip_refuse.gives _ _).mono ?_); rintro e' w1 ⟨rfl, rfl⟩))
    refine ip_Build.refused (w0 := w) rfl rfl (by repeat (first | exact HP.out | refine blk_drewN ?_ _)) (by repeat (first | exact HE.out | refine blk_drewN ?_ _)) (by omega) (by repeat (first | exact HB.out | refine pw_below_drewN ?_ _)) (by omega) (by omega) ?_
    intro w' hb
    exact ⟨_, rfl, Kd.R_nil _ _ _ _ _, hb⟩
  rw [if_neg a2] at h
  replace a2 : ip_Build.inW ttl 8 = true := by simpa using a2
  by_cases a3 : ip_Build.inW proto 8 = false
  · rw [if_pos a3] at h
    simp only [Option.some.injEq, Prod.mk.injEq] at h
    obtain ⟨rfl, rfl⟩ := h
    go_enter_defers Try.func91, Try.ntmps91
    go_wp2_with (first | (go_at_call 125; (with_reducible refine (inW_calls _ _ (by omega) _).mono ?_); rintro e' w1 ⟨rfl, n1, rfl⟩) | (go_at_call 105; (with_reducible refine (ip_refuse.gives _ _).mono ?_); rintro e' w1 ⟨rfl, rfl⟩))
    refine ip_Build.refused (w0 := w) rfl rfl (by repeat (first | exact HP.out | refine blk_drewN ?_ _)) (by repeat (first | exact HE.out | refine blk_drewN ?_ _)) (by omega) (by repeat (first | exact HB.out | refine pw_below_drewN ?_ _)) (by omega) (by omega) ?_
    intro w' hb
    exact ⟨_, rfl, Kd.R_nil _ _ _ _ _, hb⟩
  rw [if_neg a3] at h
  replace a3 : ip_Build.inW proto 8 = true := by simpa using a3
  by_cases a4 : ip_Build.inW id 16 = false
  · rw [if_pos a4] at h
    simp only [Option.some.injEq, Prod.mk.injEq] at h
    obtain ⟨rfl, rfl⟩ := h
    go_enter_defers Try.func91, Try.ntmps91
    go_wp2_with (first | (go_at_call 125; (with_reducible refine (inW_calls _ _ (by omega) _).mono ?_); rintro e' w1 ⟨rfl, n1, rfl⟩) | (go_at_call 105; (with_reducible refine (ip_refuse.gives _ _).mono ?_); rintro e' w1 ⟨rfl, rfl⟩))
    refine ip_Build.refused (w0 := w) rfl rfl (by repeat (first | exact HP.out | refine blk_drewN ?_ _)) (by repeat (first | exact HE.out | refine blk_drewN ?_ _)) (by omega) (by repeat (first | exact HB.out | refine pw_below_drewN ?_ _)) (by omega) (by omega) ?_
    intro w' hb
    exact ⟨_, rfl, Kd.R_nil _ _ _ _ _, hb⟩
  rw [if_neg a4] at h
  replace a4 : ip_Build.inW id 16 = true := by simpa using a4
  by_cases a5 : ip_Build.inW off 13 = false
  · rw [if_pos a5] at h
    simp only [Option.some.injEq, Prod.mk.injEq] at h
    obtain ⟨rfl, rfl⟩ := h
    go_enter_defers Try.func91, Try.ntmps91
    go_wp2_with (first | (go_at_call 125; (with_reducible refine (inW_calls _ _ (by omega) _).mono ?_); rintro e' w1 ⟨rfl, n1, rfl⟩) | (go_at_call 105; (with_reducible refine (ip_refuse.gives _ _).mono ?_); rintro e' w1 ⟨rfl, rfl⟩))
    refine ip_Build.refused (w0 := w) rfl rfl (by repeat (first | exact HP.out | refine blk_drewN ?_ _)) (by repeat (first | exact HE.out | refine blk_drewN ?_ _)) (by omega) (by repeat (first | exact HB.out | refine pw_below_drewN ?_ _)) (by omega) (by omega) ?_
    intro w' hb
    exact ⟨_, rfl, Kd.R_nil _ _ _ _ _, hb⟩
  rw [if_neg a5] at h
  replace a5 : ip_Build.inW off 13 = true := by simpa using a5
  by_cases a6 : (opts.length : Int) > 40
  · rw [if_pos a6] at h
    simp only [Option.some.injEq, Prod.mk.injEq] at h
    obtain ⟨rfl, rfl⟩ := h
    have a6b0 : decide ((opts.length : Int) > 40) = true := decide_eq_true a6
    have a6b1 : decide (40 < (opts.length : Int)) = true := decide_eq_true a6
    have a6b2 : decide (40 < opts.length) = true := decide_eq_true (by omega)
    clear a6
    go_enter_defers Try.func91, Try.ntmps91
    go_wp2_with (first | (go_at_call 125; (with_reducible refine (inW_calls _ _ (by omega) _).mono ?_); rintro e' w1 ⟨rfl, n1, rfl⟩) | (go_at_call 105; (with_reducible refine (ip_refuse.pass _ _).mono ?_); rintro e' w1 ⟨rfl, rfl⟩) | (go_at_call 105; (with_reducible refine (ip_refuse.gives _ _).mono ?_); rintro e' w1 ⟨rfl, rfl⟩))
    refine ip_Build.refused (w0 := w) rfl rfl (by repeat (first | exact HP.out | refine blk_drewN ?_ _)) (by repeat (first | exact HE.out | refine blk_drewN ?_ _)) (by omega) (by repeat (first | exact HB.out | refine pw_below_drewN ?_ _)) (by omega) (by omega) ?_
    intro w' hb
    exact ⟨_, rfl, Kd.R_nil _ _ _ _ _, hb⟩
  rw [if_neg a6] at h
  have a6b0 : decide ((opts.length : Int) > 40) = false := decide_eq_false a6
  have a6b1 : decide (40 < (opts.length : Int)) = false := decide_eq_false a6
  have a6b2 : decide (40 < opts.length) = false := decide_eq_false (by omega)
  have HL9 := Aside0.mk (show opts.length ≤ 40 by omega)
  have e4 : Int.tmod (opts.length : Int) 4 = ((opts.length % 4 : Nat) : Int) := by rw [Int.tmod_eq_emod_of_nonneg (by omega)]; simp
  have e4' : (opts.length : Int) % 4 = ((opts.length % 4 : Nat) : Int) := by simp
  clear a6
  by_cases a7 : opts.length % 4 ≠ 0
  · rw [if_pos a7] at h
    simp only [Option.some.injEq, Prod.mk.injEq] at h
    obtain ⟨rfl, rfl⟩ := h
    have a7b0 : ((opts.length : Int) % 4 != 0) = true := bne_iff_ne.2 (by omega)
    have a7b1 : ((opts.length : Int) % 4 == 0) = false := beq_eq_false_iff_ne.2 (by omega)
    clear a7 e4 e4'
    go_enter_defers Try.func91, Try.ntmps91
    go_wp2_with (first | (go_at_call 125; (with_reducible refine (inW_calls _ _ (by omega) _).mono ?_); rintro e' w1 ⟨rfl, n1, rfl⟩) | (go_at_call 105; (with_reducible refine (ip_refuse.pass _ _).mono ?_); rintro e' w1 ⟨rfl, rfl⟩) | (go_at_call 105; (with_reducible refine (ip_refuse.gives _ _).mono ?_); rintro e' w1 ⟨rfl, rfl⟩))
    refine ip_Build.refused (w0 := w) rfl rfl (by repeat (first | exact HP.out | refine blk_drewN ?_ _)) (by repeat (first | exact HE.out | refine blk_drewN ?_ _)) (by omega) (by repeat (first | exact HB.out | refine pw_below_drewN ?_ _)) (by omega) (by omega) ?_
    intro w' hb
    exact ⟨_, rfl, Kd.R_nil _ _ _ _ _, hb⟩
  rw [if_neg a7] at h
  have a7b0 : ((opts.length : Int) % 4 != 0) = false := bne_eq_false_iff_eq.2 (by omega)
  have a7b1 : ((opts.length : Int) % 4 == 0) = true := beq_iff_eq.2 (by omega)
  clear a7 e4 e4'
  by_cases a8 : (body.length : Int) > 2028 - (opts.length : Int)
  · rw [if_pos a8] at h
    simp only [Option.some.injEq, Prod.mk.injEq] at h
    obtain ⟨rfl, rfl⟩ := h
    have a8b0 : decide ((body.length : Int) > 2028 - (opts.length : Int)) = true := decide_eq_true a8
    have a8b1 : decide (2028 - (opts.length : Int) < (body.length : Int)) = true := decide_eq_true a8
    have e5 : wrap64 (20 + (opts.length : Int)) = 20 + (opts.length : Int) := by have := HL9.out; unfold wrap64; omega
    have e6 : wrap64 (2048 - (20 + (opts.length : Int))) = 2028 - (opts.length : Int) := by have := HL9.out; unfold wrap64; omega
    clear a8
    go_enter_defers Try.func91, Try.ntmps91
    go_wp2_with (first | (go_at_call 125; (with_reducible refine (inW_calls _ _ (by omega) _).mono ?_); rintro e' w1 ⟨rfl, n1, rfl⟩) | (go_at_call 105; (with_reducible refine (ip_refuse.pass _ _).mono ?_); rintro e' w1 ⟨rfl, rfl⟩) | (go_at_call 105; (with_reducible refine (ip_refuse.gives _ _).mono ?_); rintro e' w1 ⟨rfl, rfl⟩))
    refine ip_Build.refused (w0 := w) rfl rfl (by repeat (first | exact HP.out | refine blk_drewN ?_ _)) (by repeat (first | exact HE.out | refine blk_drewN ?_ _)) (by omega) (by repeat (first | exact HB.out | refine pw_below_drewN ?_ _)) (by omega) (by omega) ?_
    intro w' hb
    exact ⟨_, rfl, Kd.R_nil _ _ _ _ _, hb⟩
  rw [if_neg a8] at h
  have a8b0 : decide ((body.length : Int) > 2028 - (opts.length : Int)) = false := decide_eq_false a8
  have a8b1 : decide (2028 - (opts.length : Int) < (body.length : Int)) = false := decide_eq_false a8
  have e5 : wrap64 (20 + (opts.length : Int)) = 20 + (opts.length : Int) := by have := HL9.out; unfold wrap64; omega
  have e6 : wrap64 (2048 - (20 + (opts.length : Int))) = 2028 - (opts.length : Int) := by have := HL9.out; unfold wrap64; omega
  have HL10 := Aside0.mk (show body.length ≤ 2028 by omega)
  have e7 : wrap64 (20 + (opts.length : Int) + (body.length : Int)) = 20 + (opts.length : Int) + (body.length : Int) := by have := HL9.out; unfold wrap64; omega
  clear a8
  obtain ⟨part, hpart⟩ : ∃ x, x = ip_Build.part df mf off := ⟨_, rfl⟩
  rw [← hpart] at h
  obtain ⟨b1, hb1, h⟩ := Option.bind_eq_some_iff.mp h
  have HF1 : Aside0 (ip_put.f 10 (List.replicate (20 + opts.length) 0) 0 1 (Go.bits .or .i64 64 (wrap64 ((20 + (opts.length : Int)).tdiv 4))) = some b1) := ⟨hb1⟩
  clear hb1
  obtain ⟨b2, hb2, h⟩ := Option.bind_eq_some_iff.mp h
  have HF2 : Aside0 (ip_put.f 10 b1 1 1 tos = some b2) := ⟨hb2⟩
  clear hb2
  obtain ⟨b3, hb3, h⟩ := Option.bind_eq_some_iff.mp h
  have HF3 : Aside0 (ip_put.f 10 b2 2 2 (20 + (opts.length : Int) + (body.length : Int)) = some b3) := ⟨hb3⟩
  clear hb3
  obtain ⟨b4, hb4, h⟩ := Option.bind_eq_some_iff.mp h
  have HF4 : Aside0 (ip_put.f 10 b3 4 2 id = some b4) := ⟨hb4⟩
  clear hb4
  obtain ⟨b5, hb5, h⟩ := Option.bind_eq_some_iff.mp h
  have HF5 : Aside0 (ip_put.f 10 b4 6 2 part = some b5) := ⟨hb5⟩
  clear hb5
  obtain ⟨b6, hb6, h⟩ := Option.bind_eq_some_iff.mp h
  have HF6 : Aside0 (ip_put.f 10 b5 8 1 ttl = some b6) := ⟨hb6⟩
  clear hb6
  obtain ⟨b7, hb7, h⟩ := Option.bind_eq_some_iff.mp h
  have HF7 : Aside0 (ip_put.f 10 b6 9 1 proto = some b7) := ⟨hb7⟩
  clear hb7
  obtain ⟨b8, hb8, h⟩ := Option.bind_eq_some_iff.mp h
  have HF8 : Aside0 (ip_put.f 10 b7 12 4 (wrap64 src) = some b8) := ⟨hb8⟩
  clear hb8
  obtain ⟨b9, hb9, h⟩ := Option.bind_eq_some_iff.mp h
  have HF9 : Aside0 (ip_put.f 10 b8 16 4 (wrap64 dst) = some b9) := ⟨hb9⟩
  clear hb9
  by_cases hlen : b9.length = 20 + opts.length
  case neg => rw [if_neg hlen] at h; cases h
  rw [if_pos hlen] at h
  obtain ⟨ck, hck, h⟩ := Option.bind_eq_some_iff.mp h
  obtain ⟨b10, hb10, h⟩ := Option.bind_eq_some_iff.mp h
  by_cases hlen2 : b10.length ≤ 1000
  case neg => rw [if_neg hlen2] at h; cases h
  rw [if_pos hlen2] at h
  simp only [Option.some.injEq, Prod.mk.injEq] at h
  obtain ⟨rfl, rfl⟩ := h
  have HLEN := Aside0.mk hlen
  have HLEN2 := Aside0.mk hlen2
  have HCK := Aside0.mk hck
  have HF10 : Aside0 (ip_put.f 10 (b9.take 20 ++ opts) 10 2 ck = some b10) := ⟨hb10⟩
  have HPART := Aside0.mk hpart
  clear hlen hlen2 hck hb10 hpart
  obtain ⟨iz, hin, hz, hsz, hbb⟩ := info_parts info5
  obtain ⟨mc, hmc⟩ : ∃ m, m = madeCells #[Value.int .u8 0] (20 + opts.length + body.length) := ⟨_, rfl⟩
  have hmk : ∀ W : World, (Instr.makeSlice 23 (.int .i64 (20 + (opts.length : Int))) (.int .i64 (20 + (opts.length : Int) + (body.length : Int)))).run Try.prog W = .ok (.slice (some ⟨W.heap.size, 0, none⟩) (20 + opts.length) (20 + opts.length + body.length)) (W.alloc (.cells mc 5)) := fun W => by
    have := HL9.out
    have := HL10.out
    have hh := run_make (P := Try.prog) W 23 5 iz (.int .u8 0) Try.underlying23 hin hz .i64 .i64 (20 + (opts.length : Int)) (20 + (opts.length : Int) + (body.length : Int)) (by omega) (by omega) (by rw [hbb]; omega) (by omega)
    rw [hh, show (20 + (opts.length : Int)).toNat = 20 + opts.length by omega, show (20 + (opts.length : Int) + (body.length : Int)).toNat = 20 + opts.length + body.length by omega, hsz, Nat.mul_one, hmc]
    rfl
  have HMC := Aside0.mk hmc
  clear hin hz hsz hbb hmc
  go_enter_defers Try.func91, Try.ntmps91
  go_upto_if 69 with (first | (go_at_call 125; (with_reducible refine (inW_calls _ _ (by omega) _).mono ?_); rintro e' w1 ⟨rfl, n1, rfl⟩) | (go_at_call_of 105 (Value.int IntKind.i64 3); (with_reducible refine (ip_refuse.pass _ _).mono ?_); rintro e' w6 ⟨rfl, hw6⟩; have n1_ := Aside0.mk (show w6.heap[w.heap.size]? = some (.cells #[.int .i64 tos, .int .i64 id, .bool df, .bool mf, .int .i64 off, .int .i64 ttl, .int .i64 proto, .int .u32 src, .int .u32 dst, .slice A9 opts.length c9, .slice A10 body.length c10] 29 (0, 0)) from by rw [← hw6]; repeat (first | exact HBX.out | refine blk_drewN ?_ _)); have n2_ := Aside0.mk (show w6.heap[w.heap.size + 1]? = some (.cells #[.slice none 0 0] 23 (0, 0)) from by rw [← hw6]; repeat (first | exact HP.out | refine blk_drewN ?_ _)); have n3_ := Aside0.mk (show w6.heap[w.heap.size + 2]? = some (.cells #[.int .i64 0] 47 (0, 0)) from by rw [← hw6]; repeat (first | exact HE.out | refine blk_drewN ?_ _)); have n4_ := Aside0.mk (show Below w.heap.size w w6 from by rw [← hw6]; repeat (first | exact HB.out | refine pw_below_drewN ?_ _)); clear hw6 HBX HP HE HB; have HBX := n1_; have HP := n2_; have HE := n3_; have HB := n4_; clear n1_ n2_ n3_ n4_; have hz10 : w6.cell? ⟨w.heap.size, 10, none⟩ = some (.slice A10 body.length c10) := (blk_cell HBX.out 10).trans rfl; have hx4 : (w6.alloc (.cells mc 5)).cell? ⟨w.heap.size, 4, none⟩ = some (.int .i64 off) := (blk_cell (blk_alloc HBX.out _) 4).trans rfl; have hx2 : (w6.alloc (.cells mc 5)).cell? ⟨w.heap.size, 2, none⟩ = some (.bool df) := (blk_cell (blk_alloc HBX.out _) 2).trans rfl; have hx3 : (w6.alloc (.cells mc 5)).cell? ⟨w.heap.size, 3, none⟩ = some (.bool mf) := (blk_cell (blk_alloc HBX.out _) 3).trans rfl; have hxp : (w6.alloc (.cells mc 5)).cell? ⟨w.heap.size + 1, 0, none⟩ = some (.slice none 0 0) := (blk_cell (blk_alloc HP.out _) 0).trans rfl; have hfp : (w6.alloc (.cells mc 5)).frozen? ⟨w.heap.size + 1, 0, none⟩ = false := blk_frozen (blk_alloc HP.out _) 0) | (go_at_call 105; (with_reducible refine (ip_refuse.pass _ _).mono ?_); rintro e' w1 ⟨rfl, rfl⟩))
  obtain ⟨h, hh⟩ : ∃ h, h = w6.heap.size := ⟨_, rfl⟩
  have hO6 : Kd.R (Kd.int .u8) 5 (w6.alloc (.cells mc 5)) w.heap.size (fun _ => True) (.slice (some ⟨h, 0, none⟩) (20 + opts.length) (20 + opts.length + body.length)) (List.replicate (20 + opts.length) (0 : Int)) := by
    have q1 := HL9.out
    have q2 := HL10.out
    have hl := own_made w6 0 5 .u8 (20 + opts.length + body.length) (Nat.zero_le _) (by omega)
    rw [← HMC.out] at hl
    rcases hl.2 with ⟨e, _⟩ | ⟨g', cap', cur, e, _, hcur, _, _, hsz, htk⟩
    · simp at e
    injection e with e1 e2 e3
    injection e1 with e1
    injection e1 with e1
    subst e1
    have hc := heap_alloc_new w6 (.cells mc 5)
    rw [hcur] at hc
    injection hc with hc
    injection hc with hc
    subst hc
    refine Kd.R_of_own ⟨by simp [encs], .inr ⟨h, 20 + opts.length + body.length, cur, by simp, by rw [hh]; exact HB.out.size, by rw [hh]; exact hcur, by simp, by unfold maxLen; omega, ?_, ?_⟩⟩ (fun _ _ => trivial)
    · rw [← e3] at hsz; simpa using hsz
    · have := congrArg (List.take (20 + opts.length)) htk
      rw [List.take_take, Nat.mul_one] at this
      simp only [List.length_replicate, Nat.mul_one]
      rw [Nat.min_eq_left (by omega)] at this
      rw [this]
      simp [nums, encs, List.take_replicate]
  obtain ⟨w7, hw7⟩ : ∃ w7, w7 = (w6.alloc (.cells mc 5)).setCell ⟨w.heap.size + 1, 0, none⟩ (.slice (some ⟨w6.heap.size, 0, none⟩) (20 + opts.length) (20 + opts.length + body.length)) := ⟨_, rfl⟩
  rw [← hw7]
  rw [← hh] at hw7
  have n1_ := Aside0.mk (show w7.heap[w.heap.size]? = some (.cells #[.int .i64 tos, .int .i64 id, .bool df, .bool mf, .int .i64 off, .int .i64 ttl, .int .i64 proto, .int .u32 src, .int .u32 dst, .slice A9 opts.length c9, .slice A10 body.length c10] 29 (0, 0)) from by rw [hw7]; exact blk_far (blk_alloc HBX.out _) (by simp) _)
  have n2_ := Aside0.mk (show w7.heap[w.heap.size + 1]? = some (.cells #[.slice (some ⟨h, 0, none⟩) (20 + opts.length) (20 + opts.length + body.length)] 23 (0, 0)) from by rw [hw7]; exact blk_put (cs := #[.slice none 0 0]) (blk_alloc HP.out _) 0 _ rfl)
  have n3_ := Aside0.mk (show w7.heap[w.heap.size + 2]? = some (.cells #[.int .i64 0] 47 (0, 0)) from by rw [hw7]; exact blk_far (blk_alloc HE.out _) (by simp) _)
  have n4_ := Aside0.mk (show Below w.heap.size w w7 from by rw [hw7]; exact below_set (below_alloc HB.out _) (by simp))
  have n5_ := Aside0.mk (show Kd.R (Kd.int .u8) 5 w7 w.heap.size (fun _ => True) (.slice (some ⟨h, 0, none⟩) (20 + opts.length) (20 + opts.length + body.length)) (List.replicate (20 + opts.length) (0 : Int)) from by rw [hw7]; exact Kd.R_set hO6 (blk_alloc HP.out _) (by decide) 0 _)
  have HNH := Aside0.mk (show w.heap.size ≠ h ∧ w.heap.size + 1 ≠ h ∧ w.heap.size + 2 ≠ h from by have := blk_lt HE.out; omega)
  clear HBX HP HE HB hO6 hw7 hx4 hx2 hx3 hxp hfp hz10 hmk hh
  have HBX := n1_
  have HP := n2_
  have HE := n3_
  have HB := n4_
  have HO := n5_
  clear n1_ n2_ n3_ n4_ n5_
  have hz3 : w7.cell? ⟨w.heap.size, 3, none⟩ = some (.bool mf) := (blk_cell HBX.out 3).trans rfl
  obtain ⟨p1, hp1⟩ : ∃ x, x = (if df = true then Go.bits .or .i64 off 16384 else off) := ⟨_, rfl⟩
  have HP1 := Aside0.mk hp1
  clear hp1
  go_cut [5] from 6 to 130 (fun v5 wc => v5 = .int .i64 p1 ∧ w7 = wc)
  case first =>
    cases df <;> (go_wp2; go_meet; case rel => exact ⟨by rw [HP1.out]; simp, rfl⟩)
  case rest =>
  obtain ⟨rfl, rfl⟩ := hcut
  go_upto_if 73 with fail
  go_cut [5] from 6 to 130 (fun v5 wc => v5 = .int .i64 part ∧ w7 = wc)
  case first =>
    cases mf <;> (go_wp2; go_meet; case rel => exact ⟨by rw [HPART.out, HP1.out]; simp [ip_Build.part], rfl⟩)
  case rest =>
  obtain ⟨rfl, rfl⟩ := hcut
  have hs0 : w7.cell? ⟨w.heap.size + 1, 0, none⟩ = some (.slice (some ⟨h, 0, none⟩) (20 + opts.length) (20 + opts.length + body.length)) := (blk_cell HP.out 0).trans rfl
  go_wp2_with (fail)
  ((with_reducible refine (ip_put.one (r := b1) (a := 0) (m := 1) (x := (Go.bits .or .i64 64 (wrap64 ((20 + (opts.length : Int)).tdiv 4)))) HB.out HO.out HF1.out).mono ?_); rintro e' wp1 ⟨rfl, ho, hb, hk⟩; have n1_ := Aside0.mk (kept_blk hk HBX.out HNH.out.1); have n2_ := Aside0.mk (kept_blk hk HP.out HNH.out.2.1); have n3_ := Aside0.mk (kept_blk hk HE.out HNH.out.2.2); clear HBX HP HE HB HO hk; have HBX := n1_; have HP := n2_; have HE := n3_; have HB := Aside0.mk hb; have HO := Aside0.mk ho; clear n1_ n2_ n3_ ho hb)
  have hs1 : wp1.cell? ⟨w.heap.size + 1, 0, none⟩ = some (.slice (some ⟨h, 0, none⟩) (20 + opts.length) (20 + opts.length + body.length)) := (blk_cell HP.out 0).trans rfl
  have hv1_0 : wp1.cell? ⟨w.heap.size, 0, none⟩ = some (.int .i64 tos) := (blk_cell HBX.out 0).trans rfl
  go_wp2_with (fail)
  ((with_reducible refine (ip_put.one (r := b2) (a := 1) (m := 1) (x := tos) HB.out HO.out HF2.out).mono ?_); rintro e' wp2 ⟨rfl, ho, hb, hk⟩; have n1_ := Aside0.mk (kept_blk hk HBX.out HNH.out.1); have n2_ := Aside0.mk (kept_blk hk HP.out HNH.out.2.1); have n3_ := Aside0.mk (kept_blk hk HE.out HNH.out.2.2); clear HBX HP HE HB HO hk; have HBX := n1_; have HP := n2_; have HE := n3_; have HB := Aside0.mk hb; have HO := Aside0.mk ho; clear n1_ n2_ n3_ ho hb)
  have hs2 : wp2.cell? ⟨w.heap.size + 1, 0, none⟩ = some (.slice (some ⟨h, 0, none⟩) (20 + opts.length) (20 + opts.length + body.length)) := (blk_cell HP.out 0).trans rfl
  have hv2_10 : wp2.cell? ⟨w.heap.size, 10, none⟩ = some (.slice A10 body.length c10) := (blk_cell HBX.out 10).trans rfl
  go_wp2_with (fail)
  ((with_reducible refine (ip_put.one (r := b3) (a := 2) (m := 2) (x := (20 + (opts.length : Int) + (body.length : Int))) HB.out HO.out HF3.out).mono ?_); rintro e' wp3 ⟨rfl, ho, hb, hk⟩; have n1_ := Aside0.mk (kept_blk hk HBX.out HNH.out.1); have n2_ := Aside0.mk (kept_blk hk HP.out HNH.out.2.1); have n3_ := Aside0.mk (kept_blk hk HE.out HNH.out.2.2); clear HBX HP HE HB HO hk; have HBX := n1_; have HP := n2_; have HE := n3_; have HB := Aside0.mk hb; have HO := Aside0.mk ho; clear n1_ n2_ n3_ ho hb)
  have hs3 : wp3.cell? ⟨w.heap.size + 1, 0, none⟩ = some (.slice (some ⟨h, 0, none⟩) (20 + opts.length) (20 + opts.length + body.length)) := (blk_cell HP.out 0).trans rfl
  have hv3_1 : wp3.cell? ⟨w.heap.size, 1, none⟩ = some (.int .i64 id) := (blk_cell HBX.out 1).trans rfl
  go_wp2_with (fail)
  ((with_reducible refine (ip_put.one (r := b4) (a := 4) (m := 2) (x := id) HB.out HO.out HF4.out).mono ?_); rintro e' wp4 ⟨rfl, ho, hb, hk⟩; have n1_ := Aside0.mk (kept_blk hk HBX.out HNH.out.1); have n2_ := Aside0.mk (kept_blk hk HP.out HNH.out.2.1); have n3_ := Aside0.mk (kept_blk hk HE.out HNH.out.2.2); clear HBX HP HE HB HO hk; have HBX := n1_; have HP := n2_; have HE := n3_; have HB := Aside0.mk hb; have HO := Aside0.mk ho; clear n1_ n2_ n3_ ho hb)
  have hs4 : wp4.cell? ⟨w.heap.size + 1, 0, none⟩ = some (.slice (some ⟨h, 0, none⟩) (20 + opts.length) (20 + opts.length + body.length)) := (blk_cell HP.out 0).trans rfl
  go_wp2_with (fail)
  ((with_reducible refine (ip_put.one (r := b5) (a := 6) (m := 2) (x := part) HB.out HO.out HF5.out).mono ?_); rintro e' wp5 ⟨rfl, ho, hb, hk⟩; have n1_ := Aside0.mk (kept_blk hk HBX.out HNH.out.1); have n2_ := Aside0.mk (kept_blk hk HP.out HNH.out.2.1); have n3_ := Aside0.mk (kept_blk hk HE.out HNH.out.2.2); clear HBX HP HE HB HO hk; have HBX := n1_; have HP := n2_; have HE := n3_; have HB := Aside0.mk hb; have HO := Aside0.mk ho; clear n1_ n2_ n3_ ho hb)
  have hs5 : wp5.cell? ⟨w.heap.size + 1, 0, none⟩ = some (.slice (some ⟨h, 0, none⟩) (20 + opts.length) (20 + opts.length + body.length)) := (blk_cell HP.out 0).trans rfl
  have hv5_5 : wp5.cell? ⟨w.heap.size, 5, none⟩ = some (.int .i64 ttl) := (blk_cell HBX.out 5).trans rfl
  go_wp2_with (fail)
  ((with_reducible refine (ip_put.one (r := b6) (a := 8) (m := 1) (x := ttl) HB.out HO.out HF6.out).mono ?_); rintro e' wp6 ⟨rfl, ho, hb, hk⟩; have n1_ := Aside0.mk (kept_blk hk HBX.out HNH.out.1); have n2_ := Aside0.mk (kept_blk hk HP.out HNH.out.2.1); have n3_ := Aside0.mk (kept_blk hk HE.out HNH.out.2.2); clear HBX HP HE HB HO hk; have HBX := n1_; have HP := n2_; have HE := n3_; have HB := Aside0.mk hb; have HO := Aside0.mk ho; clear n1_ n2_ n3_ ho hb)
  have hs6 : wp6.cell? ⟨w.heap.size + 1, 0, none⟩ = some (.slice (some ⟨h, 0, none⟩) (20 + opts.length) (20 + opts.length + body.length)) := (blk_cell HP.out 0).trans rfl
  have hv6_6 : wp6.cell? ⟨w.heap.size, 6, none⟩ = some (.int .i64 proto) := (blk_cell HBX.out 6).trans rfl
  go_wp2_with (fail)
  ((with_reducible refine (ip_put.one (r := b7) (a := 9) (m := 1) (x := proto) HB.out HO.out HF7.out).mono ?_); rintro e' wp7 ⟨rfl, ho, hb, hk⟩; have n1_ := Aside0.mk (kept_blk hk HBX.out HNH.out.1); have n2_ := Aside0.mk (kept_blk hk HP.out HNH.out.2.1); have n3_ := Aside0.mk (kept_blk hk HE.out HNH.out.2.2); clear HBX HP HE HB HO hk; have HBX := n1_; have HP := n2_; have HE := n3_; have HB := Aside0.mk hb; have HO := Aside0.mk ho; clear n1_ n2_ n3_ ho hb)
  have hs7 : wp7.cell? ⟨w.heap.size + 1, 0, none⟩ = some (.slice (some ⟨h, 0, none⟩) (20 + opts.length) (20 + opts.length + body.length)) := (blk_cell HP.out 0).trans rfl
  have hv7_7 : wp7.cell? ⟨w.heap.size, 7, none⟩ = some (.int .u32 src) := (blk_cell HBX.out 7).trans rfl
  go_wp2_with (fail)
  ((with_reducible refine (ip_put.one (r := b8) (a := 12) (m := 4) (x := (wrap64 src)) HB.out HO.out HF8.out).mono ?_); rintro e' wp8 ⟨rfl, ho, hb, hk⟩; have n1_ := Aside0.mk (kept_blk hk HBX.out HNH.out.1); have n2_ := Aside0.mk (kept_blk hk HP.out HNH.out.2.1); have n3_ := Aside0.mk (kept_blk hk HE.out HNH.out.2.2); clear HBX HP HE HB HO hk; have HBX := n1_; have HP := n2_; have HE := n3_; have HB := Aside0.mk hb; have HO := Aside0.mk ho; clear n1_ n2_ n3_ ho hb)
  have hs8 : wp8.cell? ⟨w.heap.size + 1, 0, none⟩ = some (.slice (some ⟨h, 0, none⟩) (20 + opts.length) (20 + opts.length + body.length)) := (blk_cell HP.out 0).trans rfl
  have hv8_8 : wp8.cell? ⟨w.heap.size, 8, none⟩ = some (.int .u32 dst) := (blk_cell HBX.out 8).trans rfl
  go_wp2_with (fail)
  ((with_reducible refine (ip_put.one (r := b9) (a := 16) (m := 4) (x := (wrap64 dst)) HB.out HO.out HF9.out).mono ?_); rintro e' wp9 ⟨rfl, ho, hb, hk⟩; have n1_ := Aside0.mk (kept_blk hk HBX.out HNH.out.1); have n2_ := Aside0.mk (kept_blk hk HP.out HNH.out.2.1); have n3_ := Aside0.mk (kept_blk hk HE.out HNH.out.2.2); clear HBX HP HE HB HO hk; have HBX := n1_; have HP := n2_; have HE := n3_; have HB := Aside0.mk hb; have HO := Aside0.mk ho; clear n1_ n2_ n3_ ho hb)
  have hs9 : wp9.cell? ⟨w.heap.size + 1, 0, none⟩ = some (.slice (some ⟨h, 0, none⟩) (20 + opts.length) (20 + opts.length + body.length)) := (blk_cell HP.out 0).trans rfl
  go_wp2_with (fail)
  have HP' : Aside0 (wp9.heap[w.heap.size + 1]? = some (.cells #[.slice (some ⟨h, 0, none⟩) b9.length (20 + opts.length + body.length)] 23 (0, 0))) := ⟨by rw [HLEN.out]; exact HP.out⟩
  have HO' : Aside0 (Kd.R (Kd.int .u8) 5 wp9 w.heap.size (fun _ => True) (.slice (some ⟨h, 0, none⟩) b9.length (20 + opts.length + body.length)) b9) := ⟨by rw [HLEN.out]; exact HO.out⟩
  refine ip_Build.r21 (w0 := w) (L := b9) (opts := opts) HBX.out HP'.out HE.out HO'.out HB.out rfl HR9.out HLEN.out (by have := HLEN.out; omega) ?_
  intro y117 y118 y119 y120 y121 w21 hbx hp hq ho hb
  clear HBX HP HP' HE HB HO HO'
  have HLT : Aside0 (b9.length = (b9.take 20 ++ opts).length) := ⟨by have := HLEN.out; simp; omega⟩
  rw [HLT.out] at hp ho
  have HBX := Aside0.mk hbx
  have HP := Aside0.mk hp
  have HE := Aside0.mk hq
  have HB := Aside0.mk hb
  have HO := Aside0.mk ho
  clear hbx hp hq ho hb
  go_wp2_with (fail)
  refine ip_Build.r22 (w0 := w) (L := b9.take 20 ++ opts) (r := b10) HBX.out HP.out HE.out HO.out HB.out HCK.out HF10.out (by have := HLEN.out; simp; omega) ?_
  intro y122 y123 y124 y125 y126 w22 hbx hp hq ho hb
  clear HBX HP HE HB HO
  have HLU : Aside0 ((b9.take 20 ++ opts).length = b10.length) := ⟨(Kd.R_reads' ho).1⟩
  rw [HLU.out] at hp ho
  have HBX := Aside0.mk hbx
  have HP := Aside0.mk hp
  have HE := Aside0.mk hq
  have HB := Aside0.mk hb
  have HO := Aside0.mk ho
  clear hbx hp hq ho hb
  go_upto_region 23 with (fail)
  refine ip_Build.r23 (w0 := w) (L := b10) (body := body) HBX.out HP.out HE.out HO.out HB.out rfl HR10.out (by have := HLEN2.out; have := HL10.out; omega) (by omega) (by omega) (by omega) ?_
  intro y127 y128 y129 y130 v1 w23 hp hq ho hb
  have HP1 := Aside0.mk hp
  have HE1 := Aside0.mk hq
  have HO1 := Aside0.mk ho
  have HB1 := Aside0.mk hb
  clear hp hq ho hb HBX HP HE HB HO
  go_wp2
  refine leaves_cons (f := 124) (args := #[.pointer (some ⟨w.heap.size + 1, 0, none⟩), .pointer (some ⟨w.heap.size + 2, 0, none⟩)]) (by simp) (by simp [go_sem]) ?_
  refine (ip_Build.idle (w.heap.size + 1) (w.heap.size + 2) _).mono ?_
  rintro e' u' w24 ⟨rfl, rfl, rfl⟩
  exact ⟨_, results_ss rfl _ _ (w.heap.size + 1) (w.heap.size + 2) 23 47 v1 (.int .i64 0) (0, 0) (0, 0) rfl HP1.out rfl HE1.out (fun w h => bytes_load _ _ w h) (fun w h => errno_load _ _ w h), _, rfl, HO1.out, HB1.out⟩

end Go.Proofs.Ytljnnhloinbjhaa.P
