-- Laid by a program (wip/tools/myprint.py) out of the translation. Not trusted: Lean checks it.
import Derived.Test.YthnhpbplglmmmaaDoorP0
import Derived.Test.YthnhpbplglmmmaaDoorPoctet
import Derived.Test.YthnhpbplglmmmaaDoorPureWIp
import Derived.WalkSmall
namespace Go.Proofs.YthnhpbplglmmmaaDoor.P
open Go.RowKit Go.Proofs.YthnhpbplglmmmaaDoorW.PrintWords Go.Proofs.YthnhpbplglmmmaaDoorW.PrintLast
set_option linter.unusedVariables false
set_option linter.unusedSimpArgs false

/-! ### ip_within: function 24 -/
def ip_within.f (a0 : Int) (a1 : Int) : Option (Bool) := if a0 ≥ 0 then (if 0 ≤ a1 then (some ((shr .i64 a0 a1) == 0)) else (none)) else (some false)
set_option maxHeartbeats 8000000 in
set_option maxRecDepth 100000 in
theorem ip_within.calls (a0 : Int) (a1 : Int) (r : Bool) (w : World) (h : ip_within.f a0 a1 = some r) :
    Calls Tryd.prog 24 #[.int .i64 a0, .int .i64 a1] w fun e w' => e = .returned (.bool r) ∧ Drawn0 w w' := by
  have H : (if a0 ≥ 0 then (if 0 ≤ a1 then (some ((shr .i64 a0 a1) == 0)) else (none)) else (some false)) = some r := h
  clear h
  by_cases c3 : a0 ≥ 0
  · rw [if_pos c3] at H
    have c3b0 : decide (0 ≤ a0) = true := decide_eq_true c3
    clear c3
    by_cases c4 : 0 ≤ a1
    · rw [if_pos c4] at H
      have c4b0 := eq_true c4
      have c4b1 : decide (0 ≤ a1) = true := decide_eq_true c4
      clear c4
      obtain ⟨ji5, hji5⟩ : ∃ j_ : Int, (shr .i64 a0 a1) = j_ := ⟨_, rfl⟩
      replace H : (some ((ji5) == 0)) = some r := by first | (rw [hji5] at H; exact H) | (simp only [hji5] at H ⊢; exact H)
      have hji5_ : (a0 / 2 ^ min a1.toNat 64) = ji5 := hji5
      have hji5z : a1 ≤ 64 → (a0 / 2 ^ a1.toNat) = ji5 := shr_small hji5
      obtain rfl := Option.some.inj H
      go_enter Tryd.func24, Tryd.ntmps24
      go_wp2
      go_ret
      exact ⟨by first | rfl | (simp; done) | (simp only [← hji5] <;> (first | rfl | simp)) | (simp [*]; done), by repeat (first | exact Drawn0.refl _ | apply Drawn0.step)⟩
    · rw [if_neg c4] at H
      exact absurd H (by simp)
  · rw [if_neg c3] at H
    have c3b0 : decide (0 ≤ a0) = false := decide_eq_false c3
    clear c3
    obtain rfl := Option.some.inj H
    go_enter Tryd.func24, Tryd.ntmps24
    go_wp2
    go_ret
    exact ⟨by first | rfl | (simp; done) | (simp [*]; done), by repeat (first | exact Drawn0.refl _ | apply Drawn0.step)⟩

/-! ### ip_put: function 25 -/
def ip_put.l0 : Nat → List Int → Int → Int → Int → Option (List Int)
  | 0, _, _, _, _ => none
  | k + 1, x0, x1, x3, x8 => if x8 ≥ 0 then (if 0 ≤ (wrap64 (x1 + x8)) then (if (wrap64 (x1 + x8)) < (x0.length : Int) then (ip_put.l0 k (x0.set ((wrap64 (x1 + x8)) : Int).toNat ((x3) % 256)) x1 (x3 / 256) (wrap64 (x8 - 1))) else (none)) else (none)) else (some x0)
def ip_put.f (k : Nat) (l0 : List Int) (a1 : Int) (a2 : Int) (a3 : Int) : Option (List Int) := ip_put.l0 k l0 a1 a3 (wrap64 (a2 - 1))
theorem ip_put.mono_l : ∀ k, (∀ y0 y1 y2 y3, LeO (ip_put.l0 k y0 y1 y2 y3) (ip_put.l0 (k + 1) y0 y1 y2 y3))
  | 0 => fun _ _ _ _ r h => by simp [ip_put.l0] at h
  | k + 1 => by
    have ih0 := ip_put.mono_l k
    · intro y0 y1 y2 y3
      unfold ip_put.l0
      repeat' first
      | (with_reducible exact ih0 _ _ _ _)
      | (with_reducible exact LeO.refl _)
      | (with_reducible exact LeO.none _)
      | (with_reducible refine LeO.ite ?_ ?_)
      | (with_reducible refine LeO.bind ?_ (fun _ => ?_))
      | exact ih0 _ _ _ _
      | exact LeO.none _
      | refine LeO.ite ?_ ?_
      | refine LeO.bind ?_ (fun _ => ?_)
theorem ip_put.mono : ∀ a0 a1 a2 a3 k, LeO (ip_put.f k a0 a1 a2 a3) (ip_put.f (k + 1) a0 a1 a2 a3) := by
  intro a0 a1 a2 a3 k
  have ih0 := ip_put.mono_l k
  unfold ip_put.f
  repeat' first
      | (with_reducible exact ih0 _ _ _ _)
      | (with_reducible exact LeO.refl _)
      | (with_reducible exact LeO.none _)
      | (with_reducible refine LeO.ite ?_ ?_)
      | (with_reducible refine LeO.bind ?_ (fun _ => ?_))
      | exact ih0 _ _ _ _
      | exact LeO.none _
      | refine LeO.ite ?_ ?_
      | refine LeO.bind ?_ (fun _ => ?_)
set_option maxHeartbeats 8000000 in
set_option maxRecDepth 100000 in
theorem ip_put.calls (k : Nat) (P0_ : Nat → Prop) (u9000_ : Value) (l0 : List Int) (a1 : Int) (a2 : Int) (a3 : Int) (r : List Int) (w0 w : World) (hB : Below w0.heap.size w0 w) (ho0 : Kd.R (Kd.int .u8) 5 w w0.heap.size P0_ u9000_ l0) (h : ip_put.f k l0 a1 a2 a3 = some r) :
    Calls Tryd.prog 25 #[u9000_, .int .i64 a1, .int .i64 a2, .int .i64 a3] w fun e w' => e = .returned (.tuple #[]) ∧ Kd.R (Kd.int .u8) 5 w' w0.heap.size (fun k_ => (P0_ k_ ∨ w.heap.size ≤ k_)) u9000_ r ∧ Below w0.heap.size w0 w' ∧ Kept w w' (fun k_ => P0_ k_) := by
  have HO0 := Aside0.mk (show Kd.R (Kd.int .u8) 5 w w0.heap.size (fun k_ => (P0_ k_ ∨ w.heap.size ≤ k_)) u9000_ l0 from Kd.R_mono ho0 (fun k_ hk => (.inl hk)))
  have HK := Aside0.mk (Kept.refl w (fun k_ => P0_ k_))
  have HW0 := Aside0.mk hB.size
  have HB := Aside0.mk hB
  clear hB
  have H : (ip_put.l0 k l0 a1 a3 (wrap64 (a2 - 1))) = some r := h
  clear h
  have H' := Aside0.mk H
  clear H
  go_enter Tryd.func25, Tryd.ntmps25
  go_wp2
  go_loopg [3, 8] k (fun kq v3 v8 w' => ∃ (x0_1 : List Int) (x3_1 : Int) (x8_1 : Int), v3 = .int .i64 x3_1 ∧ v8 = .int .i64 x8_1 ∧ Aside0 (ip_put.l0 kq x0_1 a1 x3_1 x8_1 = some r) ∧ Aside0 (kq ≤ k) ∧ Aside0 (Kd.R (Kd.int .u8) 5 w' w0.heap.size (fun k_ => (P0_ k_ ∨ w.heap.size ≤ k_)) u9000_ x0_1) ∧ Aside0 (Kept w w' (fun k_ => P0_ k_)) ∧ Aside0 (Below w0.heap.size w0 w'))
  case atStart => exact ⟨(l0), (a3), (wrap64 (a2 - 1)), (by first | rfl | (simp; done) | (simp [*]; done)), (by first | rfl | (simp; done) | (simp [*]; done)), H', ⟨Nat.le_refl _⟩, ⟨by (with_reducible repeat (first | apply Kd.R_alloc | apply Kd.R_drewN | apply Kd.R_drew)); exact HO0.out⟩, ⟨by repeat (first | (with_reducible first | exact HK.out | apply Kept.alloc | apply Kept.drewN | apply Kept.drew) | exact HK.out)⟩, ⟨by repeat (first | (with_reducible first | exact HB.out | apply below_alloc | apply pw_below_drewN | apply below_drew1) | exact HB.out)⟩⟩
  case round =>
    clear H'
    try clear c2
    try clear p2
    obtain ⟨x0_1, x3_1, x8_1, rfl, rfl, HA, HK1, HO_0, HK, HB⟩ := hrel
    cases gk with
    | zero => exact absurd HA.out (by simp [ip_put.l0])
    | succ k1 =>
      have H := HA.out
      clear HA
      simp only [ip_put.l0] at H
      by_cases c5 : x8_1 ≥ 0
      · rw [if_pos c5] at H
        have c5b0 : decide (0 ≤ x8_1) = true := decide_eq_true c5
        clear c5
        obtain ⟨ji6, hji6⟩ : ∃ j_ : Int, (wrap64 (a1 + x8_1)) = j_ := ⟨_, rfl⟩
        replace H : (if 0 ≤ (ji6) then (if (ji6) < (x0_1.length : Int) then (ip_put.l0 k1 (x0_1.set ((ji6) : Int).toNat ((x3_1) % 256)) a1 (x3_1 / 256) (wrap64 (x8_1 - 1))) else (none)) else (none)) = some r := by first | (rw [hji6] at H; exact H) | (simp only [hji6] at H ⊢; exact H)
        have hji6w : (IntKind.i64.wrap (a1 + x8_1)) = ji6 := (i64_w _).trans hji6
        by_cases c7 : 0 ≤ (ji6)
        · rw [if_pos c7] at H
          have c7b0 : decide (0 ≤ (ji6)) = true := decide_eq_true c7
          clear c7
          by_cases c8 : (ji6) < (x0_1.length : Int)
          · rw [if_pos c8] at H
            have c8b0 : decide ((ji6) < (x0_1.length : Int)) = true := decide_eq_true c8
            clear c8
            obtain ⟨y101, hy101⟩ : ∃ y_ : List Int, y_ = (x0_1.set ((ji6) : Int).toNat ((x3_1) % 256)) := ⟨_, rfl⟩
            replace H : (ip_put.l0 k1 y101 a1 (x3_1 / 256) (wrap64 (x8_1 - 1))) = some r := by first | (rw [hy101]; with_reducible exact H) | (have H2_ := (Option.bind_some _ _).symm.trans H; rw [hy101]; with_reducible exact H2_) | (have H2_ := (Option.bind_some _ _).symm.trans H; with_reducible exact H2_) | with_reducible exact H | (rw [hy101]; exact H) | exact H
            have Ny101 := Aside0.mk hy101
            clear hy101
            have H' := Aside0.mk H
            clear H
            have p9 : 0 ≤ ((ji6) : Int) := of_decide_eq_true (by first | (with_reducible assumption) | assumption)
            have q9 : ((ji6) : Int) < ((x0_1.length : Int) : Int) := of_decide_eq_true (by first | (with_reducible assumption) | assumption)
            obtain ⟨go9, co9, eo9, gb9, gl9, cl9, HG9⟩ := Kd.R_form HO_0.out (by omega)
            (first | cases eo9 | (injection eo9 with ea_ en_ ec_; (first | subst ea_ | (injection ea_ with ea_; subst ea_)); subst ec_; clear en_))
            have GB9 := Aside0.mk gb9
            have GG9 := Aside0.mk HG9
            clear gb9 gl9 HG9
            have HMgo9 := Aside0.mk (show (P0_ go9 ∨ w.heap.size ≤ go9) from (HO_0.out.1 _ rfl))
            obtain ⟨hx9_0, hf9_0⟩ := Kd.R_celln 0 HO_0.out ((ji6) : Int) p9 q9
            replace p9 := eq_true p9
            replace q9 := eq_true q9
            have HP10 := Kd.R_putg HO_0.out ((ji6) : Int) ((x3_1) % 256)
            go_wp2_with (first | ((with_reducible refine gate_store (t := 5) (p := 21) rfl ?_); refine store_event (t := 5) (p := 21) (v := ?vo_w11) (w1 := (wr.setCell ⟨go9, ((ji6) : Int).toNat, none⟩ (.int .u8 ((x3_1) % 256)))) ?hg ?ho ?hn ?hr ?_; (case ho => rfl); (case hg => rfl); (case hn => rfl); (case hr => first | (go_simp; done) | (go_simp; rfl)); intro w11 hw; have hg : wr.grownBy w11 (some go9) := (by rw [hw]; exact HP10.2); have hp_ : Kd.R (Kd.int .u8) 5 w11 w0.heap.size (fun k_ => (P0_ k_ ∨ w.heap.size ≤ k_)) (.slice (some ⟨go9, 0, none⟩) x0_1.length co9) y101 := (by rw [hw, Ny101.out]; exact HP10.1); clear HP10; have n0_ := Aside0.mk (hp_); have n1_ := Aside0.mk ((by rw [hw]; exact below_set (HB.out) GB9.out : Below w0.heap.size w0 w11)); have n2_ := Aside0.mk (Kept.of_grown (S := (fun k_ => P0_ k_)) hg (by repeat (first | (with_reducible first | exact HK.out | apply Kept.alloc | apply Kept.drewN | apply Kept.drew) | exact HK.out)) (fun k_ e_ => (HO_0.out.1 k_ e_))); clear HO_0; clear HB; clear HK; have HO_0 := n0_; have HB := n1_; have HK := n2_; clear n0_ n1_ n2_; clear hg hw hp_))
            go_roundg k1
            case measure => have := HK1.out; omega
            case rel => exact ⟨(y101), (x3_1 / 256), (wrap64 (x8_1 - 1)), (by first | rfl | (simp; done) | (simp [*]; done)), (by first | rfl | (simp; done) | (simp [*]; done)), H', ⟨by have := HK1.out; omega⟩, ⟨by (with_reducible repeat (first | apply Kd.R_alloc | apply Kd.R_drewN | apply Kd.R_drew)); exact HO_0.out⟩, ⟨by repeat (first | (with_reducible first | exact HK.out | apply Kept.alloc | apply Kept.drewN | apply Kept.drew) | exact HK.out)⟩, ⟨by repeat (first | (with_reducible first | exact HB.out | apply below_alloc | apply pw_below_drewN | apply below_drew1) | exact HB.out)⟩⟩
          · rw [if_neg c8] at H
            exact absurd H (by simp)
        · rw [if_neg c7] at H
          exact absurd H (by simp)
      · rw [if_neg c5] at H
        have c5b0 : decide (0 ≤ x8_1) = false := decide_eq_false c5
        clear c5
        obtain rfl := Option.some.inj H
        go_wp2
        first | go_end0 | ((try simp only [Exit.inBlock, Exit.then]); refine bodyPost_ret (results_none rfl _ _ _) rfl ?_)
        exact ⟨by first | rfl | (simp [errW_none, errW_some] <;> rfl) | (simp [*, errW_none, errW_some] <;> rfl), by (with_reducible repeat (first | apply Kd.R_alloc | apply Kd.R_drewN | apply Kd.R_drew)); exact HO_0.out, by repeat (first | (with_reducible first | exact HB.out | apply below_alloc | apply pw_below_drewN | apply below_drew1) | exact HB.out), by repeat (first | (with_reducible first | exact HK.out | apply Kept.alloc | apply Kept.drewN | apply Kept.drew) | exact HK.out)⟩

/-! ### ip_Build: function 11, by hand -/
def ip_Build.inW (x n : Int) : Bool := if x ≥ 0 then (shr .i64 x n == 0) else false
def ip_Build.part (df mf : Bool) (off : Int) : Int := (fun p : Int => if mf = true then Go.bits .or .i64 p 8192 else p) (if df = true then Go.bits .or .i64 off 16384 else off)
def ip_Build.put (l : List Int) (a n x : Int) : Option (List Int) := ip_put.f 10 l a n x
def ip_Build.f (tos id : Int) (df mf : Bool) (off ttl proto src dst : Int) (opts body : List Int) : Option (List Int × Int) :=
  if ip_Build.inW tos 8 = false then some ([], 1)
  else if ip_Build.inW ttl 8 = false then some ([], 1)
  else if ip_Build.inW proto 8 = false then some ([], 1)
  else if ip_Build.inW id 16 = false then some ([], 1)
  else if ip_Build.inW off 13 = false then some ([], 1)
  else if (opts.length : Int) > 40 then some ([], 1)
  else if opts.length % 4 ≠ 0 then some ([], 1)
  else if (body.length : Int) > 2028 - (opts.length : Int) then some ([], 3)
  else
    (ip_Build.put (List.replicate (20 + opts.length) 0) 0 1 (Go.bits .or .i64 64 (wrap64 ((20 + (opts.length : Int)).tdiv 4)))).bind fun b1 =>
    (ip_Build.put b1 1 1 tos).bind fun b2 =>
    (ip_Build.put b2 2 2 (20 + (opts.length : Int) + (body.length : Int))).bind fun b3 =>
    (ip_Build.put b3 4 2 id).bind fun b4 =>
    (ip_Build.put b4 6 2 (ip_Build.part df mf off)).bind fun b5 =>
    (ip_Build.put b5 8 1 ttl).bind fun b6 =>
    (ip_Build.put b6 9 1 proto).bind fun b7 =>
    (ip_Build.put b7 12 4 (wrap64 src)).bind fun b8 =>
    (ip_Build.put b8 16 4 (wrap64 dst)).bind fun b9 =>
    if b9.length = 20 + opts.length then
      (octet_Check.f [b9.take 20 ++ opts]).bind fun c => (ip_Build.put (b9.take 20 ++ opts) 10 2 c).bind fun b10 => if b10.length ≤ 1000 then some (b10 ++ body, 0) else none
    else none
/-- One number laid into a row of one's own. -/
theorem ip_put.one {w0 w : World} {h n c : Nat} {l r : List Int} {a m x : Int} (hB : Below w0.heap.size w0 w) (ho : Kd.R (Kd.int .u8) 5 w w0.heap.size (fun _ => True) (.slice (some ⟨h, 0, none⟩) n c) l) (hf : ip_put.f 10 l a m x = some r) :
    Calls Tryd.prog 25 #[.slice (some ⟨h, 0, none⟩) n c, .int .i64 a, .int .i64 m, .int .i64 x] w fun e w' => e = .returned (.tuple #[]) ∧ Kd.R (Kd.int .u8) 5 w' w0.heap.size (fun _ => True) (.slice (some ⟨h, 0, none⟩) n c) r ∧ Below w0.heap.size w0 w' ∧ Kept w w' (fun k => k = h) := by
  refine (ip_put.calls 10 (fun k => k = h) (.slice (some ⟨h, 0, none⟩) n c) l a m x r w0 w hB (Kd.R_of_own (Kd.own_of_R ho) (fun k hk => by injection hk with hk; exact hk.symm)) hf).mono ?_
  rintro e w' ⟨rfl, h1, h2, h3⟩
  exact ⟨rfl, Kd.R_mono h1 (fun _ _ => trivial), h2, h3⟩
set_option maxRecDepth 100000 in
theorem inW_calls (x n : Int) (hn : 0 ≤ n) (w : World) : Calls Tryd.prog 24 #[.int .i64 x, .int .i64 n] w fun e w' => e = .returned (.bool (ip_Build.inW x n)) ∧ ∃ m, w' = w.drewN m := by
  refine (ip_within.calls x n (ip_Build.inW x n) w ?_).mono ?_
  · unfold ip_within.f ip_Build.inW
    split
    · first | rfl | (rw [if_pos hn])
    · rfl
  · rintro e w' ⟨rfl, h⟩
    exact ⟨rfl, h.out⟩
set_option maxRecDepth 100000 in
/-- copy(b[20:], opts): b a row of one's own that ends with the options' places. -/
theorem ip_Build.copy_step {ops : Array Oper} {o : Oper} {a : Act} {W w0 : World} {K : Act → World → Prop} {Q : Exit → Act → World → Prop} {E : Prop} (hgd : o.guard = none) (s x : Operand) (ho : o.op = .call { callee := .builtin .copy, args := #[s, x], argTypes := #[29, 29] })
    {h c c' : Nat} {A : Option Addr} {D : Option Addr} {n' d' : Nat} {xs ys : List Int} (hs : a.eval s = .slice D n' d') (hx : a.eval x = .slice A ys.length c')
    (hn : n' = ys.length) (hD : 0 < ys.length → D = some ⟨h, 20, none⟩) (hl : xs.length = 20 + ys.length)
    (HO : Kd.R (Kd.int .u8) 5 W w0.heap.size (fun _ => True) (.slice (some ⟨h, 0, none⟩) xs.length c) xs) (HR : Kd.C (Kd.int .u8) W A ys.length ys) (HB : Below w0.heap.size w0 W)
    (hK : ∀ w1, Kd.R (Kd.int .u8) 5 w1 w0.heap.size (fun _ => True) (.slice (some ⟨h, 0, none⟩) xs.length c) (xs.take 20 ++ ys) → Below w0.heap.size w0 w1 → W.grownBy w1 (some h) → K (a.put o.dst (.int .i64 ys.length)) w1) :
    if Region.wanted o (yielded ops a.tmps) = true then Oper.wp Tryd.prog o a W K Q else E := by
  have hw : Region.wanted o (yielded ops a.tmps) = true := by simp [Region.wanted, hgd]
  rw [if_pos hw]
  have hsz : (Tryd.prog.info? 5).map (·.size) = some 1 := by obtain ⟨i0, hi, hz, hz1, hz2⟩ := info_parts info5; rw [hi]; simp [hz1]
  obtain ⟨h', c1, he, hbh, hlt, cells, hcells⟩ := Kd.R_form HO (by omega)
  injection he with he1 he2 he3
  injection he1 with he1
  injection he1 with he1
  subst he1 he3
  subst hn
  have fin : ∀ w1, (Builtin.copy_ #[29, 29] o.type #[.slice D ys.length d', .slice A ys.length c']).run Tryd.prog W = .ok (goInt ys.length) w1 → Kd.R (Kd.int .u8) 5 w1 w0.heap.size (fun _ => True) (.slice (some ⟨h, 0, none⟩) xs.length c) (xs.take 20 ++ ys) → W.grownBy w1 (some h) → Oper.wp Tryd.prog o a W K Q := by
    intro w1 hr hrow hg
    unfold Oper.wp execOp
    simp only [ho, resolve, invoke, builtin, Sem.run_bind, Sem.run_pure, Result.andThen_ok, List.map_toArray, List.map_cons, List.map_nil, hs, hx, hr]
    exact hK w1 hrow (pw_below_grown HB _ HB.size hg (fun k hk => by injection hk with hk; omega)) hg
  rcases Nat.eq_zero_or_pos ys.length with h0 | hp
  · have hy : ys = [] := List.eq_nil_of_length_eq_zero h0
    subst hy
    refine fin W ?_ (by rw [List.take_of_length_le (by simp at hl; omega), List.append_nil]; exact HO) (World.grownBy.refl W _)
    exact run_copy_none W _ _ o.type 5 D A 0 d' 0 c' Tryd.underlying29 hsz rfl
  · have hd := hD hp
    subst hd
    obtain ⟨ad, rfl, hc⟩ := HR.2.2 hp
    have hrow := R_setCells ys W xs 20 (by omega) HO
    rw [List.drop_of_length_le (by omega), List.append_nil] at hrow
    have hrun := run_copy_cells (P := Tryd.prog) W 29 29 o.type 5 h 20 ys.length d' ad ys.length c' (ys.map (Value.int .u8)) Tryd.underlying29 hsz (by simp)
      (fun j v hj => by
        have hjl : j < ys.length := by
          have := (List.getElem?_eq_some_iff.1 hj).1
          simpa using this
        obtain ⟨ad', e', hq⟩ := Kd.at_int HR (j : Int) (by omega) (by omega)
        injection e' with e'
        subst e'
        rw [List.getElem?_map] at hj
        simp only [Int.toNat_natCast] at hq
        rw [hq, rd_getD0]
        rw [List.getElem?_eq_getElem hjl] at hj
        simp only [Option.map_some] at hj
        rw [← hj, List.getD_eq_getElem?_getD, List.getElem?_eq_getElem hjl]
        rfl)
      (fun j hj => by
        simp only [List.length_map] at hj
        have := (Kd.R_celln 0 HO ((20 + j : Nat) : Int) (by omega) (by omega)).1
        simp only [Int.toNat_natCast] at this
        rw [this]; rfl)
      (fun j hj => by
        simp only [List.length_map] at hj
        have := (Kd.R_celln 0 HO ((20 + j : Nat) : Int) (by omega) (by omega)).2
        simpa only [Int.toNat_natCast] using this)
      (fun v hv => by
        obtain ⟨y, _, rfl⟩ := List.mem_map.1 hv
        rfl)
    rw [List.length_map] at hrun
    exact fin _ hrun hrow.1 hrow.2
set_option maxHeartbeats 3200000 in
set_option maxRecDepth 100000 in
theorem ip_Build.r21 {s0 s4 s5 s6 s7 s8 s9 s10 s11 s12 s13 s14 s15 s16 s17 s18 s19 s20 s21 s22 s23 s24 s25 s26 s27 s28 s29 s30 s31 s32 s33 s34 s35 s36 s37 s38 s39 s40 s41 s42 s43 s44 s45 s46 s47 s48 s49 s50 s51 s52 s53 s54 s55 s56 s57 s58 s59 s60 s61 s62 s63 s64 s65 s66 s67 s68 s69 s70 s71 s72 s73 s74 s75 s76 s77 s78 s79 s80 s81 s82 s83 s84 s85 s86 s87 s88 s89 s90 s91 s92 s93 s94 s95 s96 s97 s98 s99 s100 s101 s102 s103 s104 s105 s106 s107 s108 s109 s110 s111 s112 s113 s114 s115 s116 s117 s118 s119 s120 s121 s122 s123 s124 s125 s126 s127 s128 s129 s130 : Value} {D : List Deferred} {L opts : List Int} {A9 : Option Addr} {c9 : Nat} {gb p q h c : Nat} {cs : Array Value} {w0 w : World} {Q : Exit → Act → World → Prop}
    (hbx : w.heap[gb]? = some (.cells cs 34 (0, 0))) (hp : w.heap[p]? = some (.cells #[.slice (some ⟨h, 0, none⟩) L.length c] 29 (0, 0))) (hq : w.heap[q]? = some (.cells #[.int .i64 0] 30 (0, 0))) (ho : Kd.R (Kd.int .u8) 5 w w0.heap.size (fun _ => True) (.slice (some ⟨h, 0, none⟩) L.length c) L) (hb : Below w0.heap.size w0 w)
    (h9 : cs[9]? = some (.slice A9 opts.length c9)) (hr9 : Kd.C (Kd.int .u8) w0 A9 opts.length opts) (hl : L.length = 20 + opts.length) (hlc : L.length ≤ c)
    (hQ : ∀ y117 y118 y119 y120 y121 w', w'.heap[gb]? = some (.cells cs 34 (0, 0)) → w'.heap[p]? = some (.cells #[.slice (some ⟨h, 0, none⟩) L.length c] 29 (0, 0)) → w'.heap[q]? = some (.cells #[.int .i64 0] 30 (0, 0)) → Kd.R (Kd.int .u8) 5 w' w0.heap.size (fun _ => True) (.slice (some ⟨h, 0, none⟩) L.length c) (L.take 20 ++ opts) → Below w0.heap.size w0 w' → Q .normal ⟨#[s0, .pointer (some ⟨gb, 0, none⟩), .pointer (some ⟨p, 0, none⟩), .pointer (some ⟨q, 0, none⟩), s4, s5, s6, s7, s8, s9, s10, s11, s12, s13, s14, s15, s16, s17, s18, s19, s20, s21, s22, s23, s24, s25, s26, s27, s28, s29, s30, s31, s32, s33, s34, s35, s36, s37, s38, s39, s40, s41, s42, s43, s44, s45, s46, s47, s48, s49, s50, s51, s52, s53, s54, s55, s56, s57, s58, s59, s60, s61, s62, s63, s64, s65, s66, s67, s68, s69, s70, s71, s72, s73, s74, s75, s76, s77, s78, s79, s80, s81, s82, s83, s84, s85, s86, s87, s88, s89, s90, s91, s92, s93, s94, s95, s96, s97, s98, s99, s100, s101, s102, s103, s104, s105, s106, s107, s108, s109, s110, s111, s112, s113, s114, s115, s116, y117, y118, y119, y120, y121, s122, s123, s124, s125, s126, s127, s128, s129, s130], D⟩ w') :
    (regionIn 21 Tryd.f11).wp Tryd.prog Q ⟨#[s0, .pointer (some ⟨gb, 0, none⟩), .pointer (some ⟨p, 0, none⟩), .pointer (some ⟨q, 0, none⟩), s4, s5, s6, s7, s8, s9, s10, s11, s12, s13, s14, s15, s16, s17, s18, s19, s20, s21, s22, s23, s24, s25, s26, s27, s28, s29, s30, s31, s32, s33, s34, s35, s36, s37, s38, s39, s40, s41, s42, s43, s44, s45, s46, s47, s48, s49, s50, s51, s52, s53, s54, s55, s56, s57, s58, s59, s60, s61, s62, s63, s64, s65, s66, s67, s68, s69, s70, s71, s72, s73, s74, s75, s76, s77, s78, s79, s80, s81, s82, s83, s84, s85, s86, s87, s88, s89, s90, s91, s92, s93, s94, s95, s96, s97, s98, s99, s100, s101, s102, s103, s104, s105, s106, s107, s108, s109, s110, s111, s112, s113, s114, s115, s116, s117, s118, s119, s120, s121, s122, s123, s124, s125, s126, s127, s128, s129, s130], D⟩ w := by
  conv => arg 2; whnf
  have HBX := Aside0.mk hbx
  have HP := Aside0.mk hp
  have HE := Aside0.mk hq
  have HO := Aside0.mk ho
  have HB := Aside0.mk hb
  have HR9 := Aside0.mk hr9
  have HQ := Aside0.mk hQ
  have HL := Aside0.mk hl
  obtain ⟨h', c1, he, hbh, hlt, cells, hcells⟩ := Kd.R_form ho (by omega)
  injection he with he1 he2 he3
  injection he1 with he1
  injection he1 with he1
  subst he1 he3
  have HC := Aside0.mk hcells
  obtain ⟨iz, hin, hz, hsz, hbb⟩ := info_parts info5
  have m1 := cut_from (P := Tryd.prog) 29 5 .i64 Tryd.underlying29 hin 1 hsz (some ⟨h, 0, none⟩) L.length c 20 (by decide) (by omega)
  obtain ⟨D1, hD1⟩ : ∃ y, y = (if c = (20 : Int).toNat then (some (⟨h, 0, none⟩ : Addr)) else (some (⟨h, 0, none⟩ : Addr)).map (·.add ((20 : Int).toNat * 1))) := ⟨_, rfl⟩
  rw [← hD1, show (20 : Int).toNat = 20 from rfl] at m1
  have HD : Aside0 (0 < opts.length → D1 = some ⟨h, 20, none⟩) := ⟨fun hp => by rw [hD1, show (20 : Int).toNat = 20 from rfl, if_neg (by omega)]; rfl⟩
  have k1 : w.cell? ⟨p, 0, none⟩ = some (.slice (some ⟨h, 0, none⟩) L.length c) := (blk_cell hp 0).trans rfl
  have k2 : w.cell? ⟨gb, 9, none⟩ = some (.slice A9 opts.length c9) := (blk_cell hbx 9).trans h9
  clear hbx hp hq ho hb hr9 hQ hl hcells hD1 hin hz hsz hbb h9 hlc
  refine wp_region_noPanic ?_
  go_region_law
    (first
      | (refine ip_Build.copy_step (w0 := w0) (h := h) (c := c) (xs := L) (ys := opts) (D := D1) (n' := L.length - 20) (d' := c - 20) (A := A9) (c' := c9) rfl (.tmp 118) (.tmp 120) rfl (by rfl) (by rfl) (by have := HL.out; omega) HD.out HL.out (Kd.R_drew HO.out) (Kd.C_below HR9.out (below_drew HB.out)) (below_drew HB.out) ?_
         intro w1 ho1 hb1 hg1
         have n1 := blk_grown (blk_drew HBX.out) hg1 (fun e => blk_ne HBX.out HC.out (by decide) (Option.some.inj e))
         have n2 := blk_grown (blk_drew HP.out) hg1 (fun e => blk_ne HP.out HC.out (by decide) (Option.some.inj e))
         have n3 := blk_grown (blk_drew HE.out) hg1 (fun e => blk_ne HE.out HC.out (by decide) (Option.some.inj e))))
  all_goals exact NoPanic.normal (HQ.out _ _ _ _ _ _ n1 n2 n3 ho1 hb1)
set_option maxHeartbeats 3200000 in
set_option maxRecDepth 100000 in
theorem ip_Build.r22 {s0 s4 s5 s6 s7 s8 s9 s10 s11 s12 s13 s14 s15 s16 s17 s18 s19 s20 s21 s22 s23 s24 s25 s26 s27 s28 s29 s30 s31 s32 s33 s34 s35 s36 s37 s38 s39 s40 s41 s42 s43 s44 s45 s46 s47 s48 s49 s50 s51 s52 s53 s54 s55 s56 s57 s58 s59 s60 s61 s62 s63 s64 s65 s66 s67 s68 s69 s70 s71 s72 s73 s74 s75 s76 s77 s78 s79 s80 s81 s82 s83 s84 s85 s86 s87 s88 s89 s90 s91 s92 s93 s94 s95 s96 s97 s98 s99 s100 s101 s102 s103 s104 s105 s106 s107 s108 s109 s110 s111 s112 s113 s114 s115 s116 s117 s118 s119 s120 s121 s122 s123 s124 s125 s126 s127 s128 s129 s130 : Value} {D : List Deferred} {L r : List Int} {ck : Int} {gb p q h c : Nat} {cs : Array Value} {w0 w : World} {Q : Exit → Act → World → Prop}
    (hbx : w.heap[gb]? = some (.cells cs 34 (0, 0))) (hp : w.heap[p]? = some (.cells #[.slice (some ⟨h, 0, none⟩) L.length c] 29 (0, 0))) (hq : w.heap[q]? = some (.cells #[.int .i64 0] 30 (0, 0))) (ho : Kd.R (Kd.int .u8) 5 w w0.heap.size (fun _ => True) (.slice (some ⟨h, 0, none⟩) L.length c) L) (hb : Below w0.heap.size w0 w)
    (hck : octet_Check.f [L] = some ck) (hr : ip_put.f 10 L 10 2 ck = some r) (h0 : 0 < L.length)
    (hQ : ∀ y122 y123 y124 y125 y126 w', w'.heap[gb]? = some (.cells cs 34 (0, 0)) → w'.heap[p]? = some (.cells #[.slice (some ⟨h, 0, none⟩) L.length c] 29 (0, 0)) → w'.heap[q]? = some (.cells #[.int .i64 0] 30 (0, 0)) → Kd.R (Kd.int .u8) 5 w' w0.heap.size (fun _ => True) (.slice (some ⟨h, 0, none⟩) L.length c) r → Below w0.heap.size w0 w' → Q .normal ⟨#[s0, .pointer (some ⟨gb, 0, none⟩), .pointer (some ⟨p, 0, none⟩), .pointer (some ⟨q, 0, none⟩), s4, s5, s6, s7, s8, s9, s10, s11, s12, s13, s14, s15, s16, s17, s18, s19, s20, s21, s22, s23, s24, s25, s26, s27, s28, s29, s30, s31, s32, s33, s34, s35, s36, s37, s38, s39, s40, s41, s42, s43, s44, s45, s46, s47, s48, s49, s50, s51, s52, s53, s54, s55, s56, s57, s58, s59, s60, s61, s62, s63, s64, s65, s66, s67, s68, s69, s70, s71, s72, s73, s74, s75, s76, s77, s78, s79, s80, s81, s82, s83, s84, s85, s86, s87, s88, s89, s90, s91, s92, s93, s94, s95, s96, s97, s98, s99, s100, s101, s102, s103, s104, s105, s106, s107, s108, s109, s110, s111, s112, s113, s114, s115, s116, s117, s118, s119, s120, s121, y122, y123, y124, y125, y126, s127, s128, s129, s130], D⟩ w') :
    (regionIn 22 Tryd.f11).wp Tryd.prog Q ⟨#[s0, .pointer (some ⟨gb, 0, none⟩), .pointer (some ⟨p, 0, none⟩), .pointer (some ⟨q, 0, none⟩), s4, s5, s6, s7, s8, s9, s10, s11, s12, s13, s14, s15, s16, s17, s18, s19, s20, s21, s22, s23, s24, s25, s26, s27, s28, s29, s30, s31, s32, s33, s34, s35, s36, s37, s38, s39, s40, s41, s42, s43, s44, s45, s46, s47, s48, s49, s50, s51, s52, s53, s54, s55, s56, s57, s58, s59, s60, s61, s62, s63, s64, s65, s66, s67, s68, s69, s70, s71, s72, s73, s74, s75, s76, s77, s78, s79, s80, s81, s82, s83, s84, s85, s86, s87, s88, s89, s90, s91, s92, s93, s94, s95, s96, s97, s98, s99, s100, s101, s102, s103, s104, s105, s106, s107, s108, s109, s110, s111, s112, s113, s114, s115, s116, s117, s118, s119, s120, s121, s122, s123, s124, s125, s126, s127, s128, s129, s130], D⟩ w := by
  conv => arg 2; whnf
  have HBX := Aside0.mk hbx
  have HP := Aside0.mk hp
  have HE := Aside0.mk hq
  have HO := Aside0.mk ho
  have HB := Aside0.mk hb
  have HCK := Aside0.mk hck
  have HRR := Aside0.mk hr
  have HQ := Aside0.mk hQ
  obtain ⟨h', c1, he, hbh, hlt, cells, hcells⟩ := Kd.R_form ho h0
  injection he with he1 he2 he3
  injection he1 with he1
  injection he1 with he1
  subst he1 he3
  have HC := Aside0.mk (And.intro (blk_ne hbx hcells (by decide)) (And.intro (blk_ne hp hcells (by decide)) (blk_ne hq hcells (by decide))))
  have k1 : w.cell? ⟨p, 0, none⟩ = some (.slice (some ⟨h, 0, none⟩) L.length c) := (blk_cell hp 0).trans rfl
  have k1' : (w.alloc (.cells #[.slice (some ⟨h, 0, none⟩) L.length c] 29)).cell? ⟨p, 0, none⟩ = some (.slice (some ⟨h, 0, none⟩) L.length c) := (blk_cell (blk_alloc hp _) 0).trans rfl
  clear hbx hp hq ho hb hck hr hQ hcells h0
  refine wp_region_noPanic ?_
  go_region_law
    (first
      | (refine goes_ (f := 26) Tryd.func26 (by kernel_rfl) rfl #[.slice (some ⟨w.heap.size, 0, none⟩) 1 1] (by rfl) rfl rfl ?ha ?_
         (case ha => first | rfl | (go_simp; done) | (simp [Act.eval]; done))
         refine (octet_Check.calls (some ⟨w.heap.size, 0, none⟩) 1 [L] ck _ (by first | exact C_one (heap_alloc_new w _) (Kd.R_reads' HO.out).2.1 (Kd.C_alloc (Kd.R_reads' HO.out).2.2 _) | exact C_one (blk_drew (heap_alloc_new w _)) (Kd.R_reads' HO.out).2.1 (Kd.C_drew (Kd.C_alloc (Kd.R_reads' HO.out).2.2 _))) (Nat.le_refl 1) HCK.out).mono ?_
         rintro e w2 ⟨rfl, hb2⟩
         refine ⟨_, rfl, ?_⟩
         have n1 := Aside0.mk (blk_below (by first | exact blk_alloc HBX.out _ | exact blk_drew (blk_alloc HBX.out _)) hb2)
         have n2 := Aside0.mk (blk_below (by first | exact blk_alloc HP.out _ | exact blk_drew (blk_alloc HP.out _)) hb2)
         have n3 := Aside0.mk (blk_below (by first | exact blk_alloc HE.out _ | exact blk_drew (blk_alloc HE.out _)) hb2)
         have n4 := Aside0.mk (Kd.R_below (by first | exact Kd.R_alloc HO.out _ | exact Kd.R_drew (Kd.R_alloc HO.out _)) hb2)
         have n5 := Aside0.mk (below_step (by first | exact below_alloc HB.out _ | exact below_drew (below_alloc HB.out _)) hb2)
         clear HBX HP HE HO HB hb2
         have HBX := n1
         have HP := n2
         have HE := n3
         have HO := n4
         have HB := n5
         clear n1 n2 n3 n4 n5
         have k2 : w2.cell? ⟨p, 0, none⟩ = some (.slice (some ⟨h, 0, none⟩) L.length c) := (blk_cell HP.out 0).trans rfl)
      | (refine goes_ (f := 25) Tryd.func25 (by kernel_rfl) rfl #[.slice (some ⟨h, 0, none⟩) L.length c, .int .i64 10, .int .i64 2, .int .i64 ck] (by rfl) rfl rfl ?ha ?_
         (case ha => first | rfl | (go_simp; done) | (simp [Act.eval]; done))
         refine (ip_put.one HB.out HO.out HRR.out).mono ?_
         rintro e w3 ⟨rfl, ho3, hb3, hk3⟩
         refine ⟨_, rfl, ?_⟩
         have n1 := kept_blk hk3 HBX.out HC.out.1
         have n2 := kept_blk hk3 HP.out HC.out.2.1
         have n3 := kept_blk hk3 HE.out HC.out.2.2))
  all_goals exact NoPanic.normal (HQ.out _ _ _ _ _ _ n1 n2 n3 ho3 hb3)
set_option maxHeartbeats 3200000 in
set_option maxRecDepth 100000 in
theorem ip_Build.r23 {s0 s4 s5 s6 s7 s8 s9 s10 s11 s12 s13 s14 s15 s16 s17 s18 s19 s20 s21 s22 s23 s24 s25 s26 s27 s28 s29 s30 s31 s32 s33 s34 s35 s36 s37 s38 s39 s40 s41 s42 s43 s44 s45 s46 s47 s48 s49 s50 s51 s52 s53 s54 s55 s56 s57 s58 s59 s60 s61 s62 s63 s64 s65 s66 s67 s68 s69 s70 s71 s72 s73 s74 s75 s76 s77 s78 s79 s80 s81 s82 s83 s84 s85 s86 s87 s88 s89 s90 s91 s92 s93 s94 s95 s96 s97 s98 s99 s100 s101 s102 s103 s104 s105 s106 s107 s108 s109 s110 s111 s112 s113 s114 s115 s116 s117 s118 s119 s120 s121 s122 s123 s124 s125 s126 s127 s128 s129 s130 : Value} {D : List Deferred} {L body : List Int} {A10 : Option Addr} {c10 : Nat} {gb p q h c : Nat} {cs : Array Value} {w0 w : World} {Q : Exit → Act → World → Prop}
    (hbx : w.heap[gb]? = some (.cells cs 34 (0, 0))) (hp : w.heap[p]? = some (.cells #[.slice (some ⟨h, 0, none⟩) L.length c] 29 (0, 0))) (hq : w.heap[q]? = some (.cells #[.int .i64 0] 30 (0, 0))) (ho : Kd.R (Kd.int .u8) 5 w w0.heap.size (fun _ => True) (.slice (some ⟨h, 0, none⟩) L.length c) L) (hb : Below w0.heap.size w0 w)
    (h10 : cs[10]? = some (.slice A10 body.length c10)) (hr10 : Kd.C (Kd.int .u8) w0 A10 body.length body) (hl : L.length + body.length ≤ 1000000) (hgp : w0.heap.size ≤ p) (hgq : w0.heap.size ≤ q) (hne : ¬ p = q)
    (hQ : ∀ y127 y128 y129 y130 v1 w', w'.heap[p]? = some (.cells #[v1] 29 (0, 0)) → w'.heap[q]? = some (.cells #[.int .i64 0] 30 (0, 0)) → Kd.R (Kd.int .u8) 5 w' w0.heap.size (fun _ => True) v1 (L ++ body) → Below w0.heap.size w0 w' → Q .normal ⟨#[s0, .pointer (some ⟨gb, 0, none⟩), .pointer (some ⟨p, 0, none⟩), .pointer (some ⟨q, 0, none⟩), s4, s5, s6, s7, s8, s9, s10, s11, s12, s13, s14, s15, s16, s17, s18, s19, s20, s21, s22, s23, s24, s25, s26, s27, s28, s29, s30, s31, s32, s33, s34, s35, s36, s37, s38, s39, s40, s41, s42, s43, s44, s45, s46, s47, s48, s49, s50, s51, s52, s53, s54, s55, s56, s57, s58, s59, s60, s61, s62, s63, s64, s65, s66, s67, s68, s69, s70, s71, s72, s73, s74, s75, s76, s77, s78, s79, s80, s81, s82, s83, s84, s85, s86, s87, s88, s89, s90, s91, s92, s93, s94, s95, s96, s97, s98, s99, s100, s101, s102, s103, s104, s105, s106, s107, s108, s109, s110, s111, s112, s113, s114, s115, s116, s117, s118, s119, s120, s121, s122, s123, s124, s125, s126, y127, y128, y129, y130], D⟩ w') :
    (regionIn 23 Tryd.f11).wp Tryd.prog Q ⟨#[s0, .pointer (some ⟨gb, 0, none⟩), .pointer (some ⟨p, 0, none⟩), .pointer (some ⟨q, 0, none⟩), s4, s5, s6, s7, s8, s9, s10, s11, s12, s13, s14, s15, s16, s17, s18, s19, s20, s21, s22, s23, s24, s25, s26, s27, s28, s29, s30, s31, s32, s33, s34, s35, s36, s37, s38, s39, s40, s41, s42, s43, s44, s45, s46, s47, s48, s49, s50, s51, s52, s53, s54, s55, s56, s57, s58, s59, s60, s61, s62, s63, s64, s65, s66, s67, s68, s69, s70, s71, s72, s73, s74, s75, s76, s77, s78, s79, s80, s81, s82, s83, s84, s85, s86, s87, s88, s89, s90, s91, s92, s93, s94, s95, s96, s97, s98, s99, s100, s101, s102, s103, s104, s105, s106, s107, s108, s109, s110, s111, s112, s113, s114, s115, s116, s117, s118, s119, s120, s121, s122, s123, s124, s125, s126, s127, s128, s129, s130], D⟩ w := by
  conv => arg 2; whnf
  have HBX := Aside0.mk hbx
  have HP := Aside0.mk hp
  have HE := Aside0.mk hq
  have HO := Aside0.mk ho
  have HB := Aside0.mk hb
  have HR10 := Aside0.mk hr10
  have HQ := Aside0.mk hQ
  have HL := Aside0.mk hl
  have HG := Aside0.mk (And.intro hgp (And.intro hgq hne))
  have hne' : ¬ q = p := fun h => hne h.symm
  have k1 : w.cell? ⟨p, 0, none⟩ = some (.slice (some ⟨h, 0, none⟩) L.length c) := (blk_cell hp 0).trans rfl
  have k2 : w.cell? ⟨gb, 10, none⟩ = some (.slice A10 body.length c10) := (blk_cell hbx 10).trans h10
  clear hbx hp hq ho hb hr10 hQ hl h10 hgp hgq
  refine wp_region_noPanic ?_
  go_wp2_with (first | (at_builtin; refine rows_list (w0 := w0) rfl (.tmp 127) (.tmp 129) rfl (v := .slice (some ⟨h, 0, none⟩) L.length c) (xs := L) (ys := body) (A := A10) (c := c10) (by rfl) (by rfl) HO.out (Kd.C_below HR10.out HB.out) HB.out (by have := HL.out; omega) ?_; intro v1 w1 ho1 hb1 hg1; obtain ⟨V1, C1, rfl⟩ := Kd.R_slice ho1; have n2 := Aside0.mk (blk_grown HP.out hg1 (Kd.R_ne HO.out HP.out (by decide))); have n3 := Aside0.mk (blk_grown HE.out hg1 (Kd.R_ne HO.out HE.out (by decide))); have HO1 := Aside0.mk ho1; have HB1 := Aside0.mk hb1; clear ho1 hb1 hg1; have q1 : w1.cell? ⟨p, 0, none⟩ = some (.slice (some ⟨h, 0, none⟩) L.length c) := (blk_cell n2.out 0).trans rfl; have q2 : w1.frozen? ⟨p, 0, none⟩ = false := blk_frozen n2.out 0; have q3 : w1.cell? ⟨q, 0, none⟩ = some (.int .i64 0) := (blk_cell n3.out 0).trans rfl; have q4 : w1.frozen? ⟨q, 0, none⟩ = false := blk_frozen n3.out 0))
  refine NoPanic.normal (HQ.out _ _ _ _ (.slice V1 (L.length + body.length) C1) _ ?_ ?_ ?_ ?_)
  · exact blk_far (blk_put n2.out 0 _ rfl) HG.out.2.2 _
  · exact blk_put (cs := #[.int .i64 0]) (blk_far n3.out hne' _) 0 _ rfl
  · exact Kd.R_set (by first | exact Kd.R_set HO1.out n2.out (by decide) 0 _ | simpa using Kd.R_set HO1.out n2.out (by decide) 0 _) (blk_far n3.out hne' _) (by decide) 0 _
  · exact below_set (below_set HB1.out HG.out.1) HG.out.2.1
set_option maxRecDepth 100000 in
theorem ip_Build.refused {tmps : Array Value} {w w0 : World} {p q : Nat} {e : Int} {v : Value} {R : Ending → World → Prop} (h2 : tmps.getD 2 undef = .pointer (some ⟨p, 0, none⟩)) (h3 : tmps.getD 3 undef = .pointer (some ⟨q, 0, none⟩))
    (hp : w.heap[p]? = some (.cells #[v] 29 (0, 0))) (hq : w.heap[q]? = some (.cells #[.int .i64 0] 30 (0, 0))) (hne : ¬ p = q) (hB : Below w0.heap.size w0 w) (hgp : w0.heap.size ≤ p) (hgq : w0.heap.size ≤ q)
    (hR : ∀ w', Below w0.heap.size w0 w' → R (.returned (.tuple #[.slice none 0 0, .int .i64 e])) w') :
    Leaves Tryd.prog Tryd.f11 tmps R [{ target := .fn (.func 21) #[.pointer (some ⟨p, 0, none⟩), .pointer (some ⟨q, 0, none⟩)], args := #[] }] (.panicking [{ v := .iface 30 (.int .i64 e), recovered := false }]) w := by
  refine leaves_cons (f := 21) (args := #[.pointer (some ⟨p, 0, none⟩), .pointer (some ⟨q, 0, none⟩)]) (by simp) (by simp [go_sem]) ?_
  refine (ip_Build.catch p q e _ _ [] w ((blk_cell hp 0).trans rfl) (blk_frozen hp 0) ((blk_cell hq 0).trans rfl) (blk_frozen hq 0) hne).mono ?_
  rintro e' u' w'' ⟨rfl, rfl, rfl⟩
  refine ⟨_, results_ss rfl _ _ p q 29 30 (.slice none 0 0) (.int .i64 e) (0, 0) (0, 0) h2 ?_ h3 ?_ (fun w h => bytes_load p _ w h) (fun w h => errno_load q _ w h), ?_⟩
  · exact blk_far (blk_put (cs := #[v]) hp 0 _ rfl) hne _
  · exact blk_put (cs := #[.int .i64 0]) (blk_far hq (fun h => hne h.symm) _) 0 _ rfl
  · exact hR _ (below_set (below_set hB hgp) hgq)
set_option maxHeartbeats 8000000 in
set_option maxRecDepth 100000 in
theorem ip_Build.calls (tos id : Int) (df mf : Bool) (off ttl proto src dst : Int) (A9 : Option Addr) (c9 : Nat) (opts : List Int) (A10 : Option Addr) (c10 : Nat) (body : List Int) (r1 : List Int) (r2 : Int) (w : World) (hr9 : Kd.C (Kd.int .u8) w A9 opts.length opts) (hc9 : opts.length ≤ c9) (hr10 : Kd.C (Kd.int .u8) w A10 body.length body) (hc10 : body.length ≤ c10) (h : ip_Build.f tos id df mf off ttl proto src dst opts body = some (r1, r2)) :
    Calls Tryd.prog 11 #[.agg #[.int .i64 tos, .int .i64 id, .bool df, .bool mf, .int .i64 off, .int .i64 ttl, .int .i64 proto, .int .u32 src, .int .u32 dst, .slice A9 opts.length c9, .slice A10 body.length c10]] w fun e w' => ∃ v0_ : Value, e = .returned (.tuple #[v0_, .int .i64 r2]) ∧ Kd.R (Kd.int .u8) 5 w' w.heap.size (fun _ => True) v0_ r1 ∧ Below w.heap.size w w' := by
  have hmf : ∀ (fn : Fn) (first cap : Array Value) (w : World), (Instr.makeFunc fn first cap).run Tryd.prog w = .ok (.func fn first cap) w := fun _ _ _ _ => rfl
  have hu := Tryd.underlying34
  have HR9 := Aside0.mk hr9
  have HC9 := Aside0.mk hc9
  have HR10 := Aside0.mk hr10
  have HC10 := Aside0.mk hc10
  have HB : Aside0 (Below w.heap.size w (((w.alloc (.cells #[.int .i64 tos, .int .i64 id, .bool df, .bool mf, .int .i64 off, .int .i64 ttl, .int .i64 proto, .int .u32 src, .int .u32 dst, .slice A9 opts.length c9, .slice A10 body.length c10] 34)).alloc (.cells #[.slice none 0 0] 29)).alloc (.cells #[.int .i64 0] 30))) := ⟨below_alloc (below_alloc (below_alloc (Below.refl _ _) _) _) _⟩
  have HBX : Aside0 ((((w.alloc (.cells #[.int .i64 tos, .int .i64 id, .bool df, .bool mf, .int .i64 off, .int .i64 ttl, .int .i64 proto, .int .u32 src, .int .u32 dst, .slice A9 opts.length c9, .slice A10 body.length c10] 34)).alloc (.cells #[.slice none 0 0] 29)).alloc (.cells #[.int .i64 0] 30)).heap[w.heap.size]? = some (.cells #[.int .i64 tos, .int .i64 id, .bool df, .bool mf, .int .i64 off, .int .i64 ttl, .int .i64 proto, .int .u32 src, .int .u32 dst, .slice A9 opts.length c9, .slice A10 body.length c10] 34 (0, 0))) := ⟨blk_alloc (blk_alloc (heap_alloc_new w _) _) _⟩
  have HP : Aside0 ((((w.alloc (.cells #[.int .i64 tos, .int .i64 id, .bool df, .bool mf, .int .i64 off, .int .i64 ttl, .int .i64 proto, .int .u32 src, .int .u32 dst, .slice A9 opts.length c9, .slice A10 body.length c10] 34)).alloc (.cells #[.slice none 0 0] 29)).alloc (.cells #[.int .i64 0] 30)).heap[w.heap.size + 1]? = some (.cells #[.slice none 0 0] 29 (0, 0))) := ⟨blk_alloc (by simpa using heap_alloc_new (w.alloc (.cells #[.int .i64 tos, .int .i64 id, .bool df, .bool mf, .int .i64 off, .int .i64 ttl, .int .i64 proto, .int .u32 src, .int .u32 dst, .slice A9 opts.length c9, .slice A10 body.length c10] 34)) (.cells #[.slice none 0 0] 29)) _⟩
  have HE : Aside0 ((((w.alloc (.cells #[.int .i64 tos, .int .i64 id, .bool df, .bool mf, .int .i64 off, .int .i64 ttl, .int .i64 proto, .int .u32 src, .int .u32 dst, .slice A9 opts.length c9, .slice A10 body.length c10] 34)).alloc (.cells #[.slice none 0 0] 29)).alloc (.cells #[.int .i64 0] 30)).heap[w.heap.size + 2]? = some (.cells #[.int .i64 0] 30 (0, 0))) := ⟨by simpa using heap_alloc_new ((w.alloc (.cells #[.int .i64 tos, .int .i64 id, .bool df, .bool mf, .int .i64 off, .int .i64 ttl, .int .i64 proto, .int .u32 src, .int .u32 dst, .slice A9 opts.length c9, .slice A10 body.length c10] 34)).alloc (.cells #[.slice none 0 0] 29)) (.cells #[.int .i64 0] 30)⟩
  clear hr9 hc9 hr10 hc10
  unfold ip_Build.f at h
  by_cases a1 : ip_Build.inW tos 8 = false
  · rw [if_pos a1] at h
    simp only [Option.some.injEq, Prod.mk.injEq] at h
    obtain ⟨rfl, rfl⟩ := h
    go_enter_defers Tryd.func11, Tryd.ntmps11
    go_wp2_with (first | (go_at_call 24; (with_reducible refine (inW_calls _ _ (by omega) _).mono ?_); rintro e' w1 ⟨rfl, n1, rfl⟩) | (go_at_call 23; (with_reducible refine (ip_refuse.gives _ _).mono ?_); rintro e' w1 ⟨rfl, rfl⟩))
    refine ip_Build.refused (w0 := w) rfl rfl (by repeat (first | exact HP.out | refine blk_drewN ?_ _)) (by repeat (first | exact HE.out | refine blk_drewN ?_ _)) (by omega) (by repeat (first | exact HB.out | refine pw_below_drewN ?_ _)) (by omega) (by omega) ?_
    intro w' hb
    exact ⟨_, rfl, Kd.R_nil _ _ _ _ _, hb⟩
  rw [if_neg a1] at h
  replace a1 : ip_Build.inW tos 8 = true := by simpa using a1
  by_cases a2 : ip_Build.inW ttl 8 = false
  · rw [if_pos a2] at h
    simp only [Option.some.injEq, Prod.mk.injEq] at h
    obtain ⟨rfl, rfl⟩ := h
    go_enter_defers Tryd.func11, Tryd.ntmps11
    go_wp2_with (first | (go_at_call 24; (with_reducible refine (inW_calls _ _ (by omega) _).mono ?_); rintro e' w1 ⟨rfl, n1, rfl⟩) | (go_at_call 23; (with_reducible refine (ip_refuse.gives _ _).mono ?_); rintro e' w1 ⟨rfl, rfl⟩))
    refine ip_Build.refused (w0 := w) rfl rfl (by repeat (first | exact HP.out | refine blk_drewN ?_ _)) (by repeat (first | exact HE.out | refine blk_drewN ?_ _)) (by omega) (by repeat (first | exact HB.out | refine pw_below_drewN ?_ _)) (by omega) (by omega) ?_
    intro w' hb
    exact ⟨_, rfl, Kd.R_nil _ _ _ _ _, hb⟩
  rw [if_neg a2] at h
  replace a2 : ip_Build.inW ttl 8 = true := by simpa using a2
  by_cases a3 : ip_Build.inW proto 8 = false
  · rw [if_pos a3] at h
    simp only [Option.some.injEq, Prod.mk.injEq] at h
    obtain ⟨rfl, rfl⟩ := h
    go_enter_defers Tryd.func11, Tryd.ntmps11
    go_wp2_with (first | (go_at_call 24; (with_reducible refine (inW_calls _ _ (by omega) _).mono ?_); rintro e' w1 ⟨rfl, n1, rfl⟩) | (go_at_call 23; (with_reducible refine (ip_refuse.gives _ _).mono ?_); rintro e' w1 ⟨rfl, rfl⟩))
    refine ip_Build.refused (w0 := w) rfl rfl (by repeat (first | exact HP.out | refine blk_drewN ?_ _)) (by repeat (first | exact HE.out | refine blk_drewN ?_ _)) (by omega) (by repeat (first | exact HB.out | refine pw_below_drewN ?_ _)) (by omega) (by omega) ?_
    intro w' hb
    exact ⟨_, rfl, Kd.R_nil _ _ _ _ _, hb⟩
  rw [if_neg a3] at h
  replace a3 : ip_Build.inW proto 8 = true := by simpa using a3
  by_cases a4 : ip_Build.inW id 16 = false
  · rw [if_pos a4] at h
    simp only [Option.some.injEq, Prod.mk.injEq] at h
    obtain ⟨rfl, rfl⟩ := h
    go_enter_defers Tryd.func11, Tryd.ntmps11
    go_wp2_with (first | (go_at_call 24; (with_reducible refine (inW_calls _ _ (by omega) _).mono ?_); rintro e' w1 ⟨rfl, n1, rfl⟩) | (go_at_call 23; (with_reducible refine (ip_refuse.gives _ _).mono ?_); rintro e' w1 ⟨rfl, rfl⟩))
    refine ip_Build.refused (w0 := w) rfl rfl (by repeat (first | exact HP.out | refine blk_drewN ?_ _)) (by repeat (first | exact HE.out | refine blk_drewN ?_ _)) (by omega) (by repeat (first | exact HB.out | refine pw_below_drewN ?_ _)) (by omega) (by omega) ?_
    intro w' hb
    exact ⟨_, rfl, Kd.R_nil _ _ _ _ _, hb⟩
  rw [if_neg a4] at h
  replace a4 : ip_Build.inW id 16 = true := by simpa using a4
  by_cases a5 : ip_Build.inW off 13 = false
  · rw [if_pos a5] at h
    simp only [Option.some.injEq, Prod.mk.injEq] at h
    obtain ⟨rfl, rfl⟩ := h
    go_enter_defers Tryd.func11, Tryd.ntmps11
    go_wp2_with (first | (go_at_call 24; (with_reducible refine (inW_calls _ _ (by omega) _).mono ?_); rintro e' w1 ⟨rfl, n1, rfl⟩) | (go_at_call 23; (with_reducible refine (ip_refuse.gives _ _).mono ?_); rintro e' w1 ⟨rfl, rfl⟩))
    refine ip_Build.refused (w0 := w) rfl rfl (by repeat (first | exact HP.out | refine blk_drewN ?_ _)) (by repeat (first | exact HE.out | refine blk_drewN ?_ _)) (by omega) (by repeat (first | exact HB.out | refine pw_below_drewN ?_ _)) (by omega) (by omega) ?_
    intro w' hb
    exact ⟨_, rfl, Kd.R_nil _ _ _ _ _, hb⟩
  rw [if_neg a5] at h
  replace a5 : ip_Build.inW off 13 = true := by simpa using a5
  by_cases a6 : (opts.length : Int) > 40
  · rw [if_pos a6] at h
    simp only [Option.some.injEq, Prod.mk.injEq] at h
    obtain ⟨rfl, rfl⟩ := h
    have a6b0 : decide ((opts.length : Int) > 40) = true := decide_eq_true a6
    have a6b1 : decide (40 < (opts.length : Int)) = true := decide_eq_true a6
    have a6b2 : decide (40 < opts.length) = true := decide_eq_true (by omega)
    clear a6
    go_enter_defers Tryd.func11, Tryd.ntmps11
    go_wp2_with (first | (go_at_call 24; (with_reducible refine (inW_calls _ _ (by omega) _).mono ?_); rintro e' w1 ⟨rfl, n1, rfl⟩) | (go_at_call 23; (with_reducible refine (ip_refuse.pass _ _).mono ?_); rintro e' w1 ⟨rfl, rfl⟩) | (go_at_call 23; (with_reducible refine (ip_refuse.gives _ _).mono ?_); rintro e' w1 ⟨rfl, rfl⟩))
    refine ip_Build.refused (w0 := w) rfl rfl (by repeat (first | exact HP.out | refine blk_drewN ?_ _)) (by repeat (first | exact HE.out | refine blk_drewN ?_ _)) (by omega) (by repeat (first | exact HB.out | refine pw_below_drewN ?_ _)) (by omega) (by omega) ?_
    intro w' hb
    exact ⟨_, rfl, Kd.R_nil _ _ _ _ _, hb⟩
  rw [if_neg a6] at h
  have a6b0 : decide ((opts.length : Int) > 40) = false := decide_eq_false a6
  have a6b1 : decide (40 < (opts.length : Int)) = false := decide_eq_false a6
  have a6b2 : decide (40 < opts.length) = false := decide_eq_false (by omega)
  have HL9 := Aside0.mk (show opts.length ≤ 40 by omega)
  have e4 : Int.tmod (opts.length : Int) 4 = ((opts.length % 4 : Nat) : Int) := by rw [Int.tmod_eq_emod_of_nonneg (by omega)]; simp
  have e4' : (opts.length : Int) % 4 = ((opts.length % 4 : Nat) : Int) := by simp
  clear a6
  by_cases a7 : opts.length % 4 ≠ 0
  · rw [if_pos a7] at h
    simp only [Option.some.injEq, Prod.mk.injEq] at h
    obtain ⟨rfl, rfl⟩ := h
    have a7b0 : ((opts.length : Int) % 4 != 0) = true := bne_iff_ne.2 (by omega)
    have a7b1 : ((opts.length : Int) % 4 == 0) = false := beq_eq_false_iff_ne.2 (by omega)
    clear a7 e4 e4'
    go_enter_defers Tryd.func11, Tryd.ntmps11
    go_wp2_with (first | (go_at_call 24; (with_reducible refine (inW_calls _ _ (by omega) _).mono ?_); rintro e' w1 ⟨rfl, n1, rfl⟩) | (go_at_call 23; (with_reducible refine (ip_refuse.pass _ _).mono ?_); rintro e' w1 ⟨rfl, rfl⟩) | (go_at_call 23; (with_reducible refine (ip_refuse.gives _ _).mono ?_); rintro e' w1 ⟨rfl, rfl⟩))
    refine ip_Build.refused (w0 := w) rfl rfl (by repeat (first | exact HP.out | refine blk_drewN ?_ _)) (by repeat (first | exact HE.out | refine blk_drewN ?_ _)) (by omega) (by repeat (first | exact HB.out | refine pw_below_drewN ?_ _)) (by omega) (by omega) ?_
    intro w' hb
    exact ⟨_, rfl, Kd.R_nil _ _ _ _ _, hb⟩
  rw [if_neg a7] at h
  have a7b0 : ((opts.length : Int) % 4 != 0) = false := bne_eq_false_iff_eq.2 (by omega)
  have a7b1 : ((opts.length : Int) % 4 == 0) = true := beq_iff_eq.2 (by omega)
  clear a7 e4 e4'
  by_cases a8 : (body.length : Int) > 2028 - (opts.length : Int)
  · rw [if_pos a8] at h
    simp only [Option.some.injEq, Prod.mk.injEq] at h
    obtain ⟨rfl, rfl⟩ := h
    have a8b0 : decide ((body.length : Int) > 2028 - (opts.length : Int)) = true := decide_eq_true a8
    have a8b1 : decide (2028 - (opts.length : Int) < (body.length : Int)) = true := decide_eq_true a8
    have e5 : wrap64 (20 + (opts.length : Int)) = 20 + (opts.length : Int) := by have := HL9.out; unfold wrap64; omega
    have e6 : wrap64 (2048 - (20 + (opts.length : Int))) = 2028 - (opts.length : Int) := by have := HL9.out; unfold wrap64; omega
    clear a8
    go_enter_defers Tryd.func11, Tryd.ntmps11
    go_wp2_with (first | (go_at_call 24; (with_reducible refine (inW_calls _ _ (by omega) _).mono ?_); rintro e' w1 ⟨rfl, n1, rfl⟩) | (go_at_call 23; (with_reducible refine (ip_refuse.pass _ _).mono ?_); rintro e' w1 ⟨rfl, rfl⟩) | (go_at_call 23; (with_reducible refine (ip_refuse.gives _ _).mono ?_); rintro e' w1 ⟨rfl, rfl⟩))
    refine ip_Build.refused (w0 := w) rfl rfl (by repeat (first | exact HP.out | refine blk_drewN ?_ _)) (by repeat (first | exact HE.out | refine blk_drewN ?_ _)) (by omega) (by repeat (first | exact HB.out | refine pw_below_drewN ?_ _)) (by omega) (by omega) ?_
    intro w' hb
    exact ⟨_, rfl, Kd.R_nil _ _ _ _ _, hb⟩
  rw [if_neg a8] at h
  have a8b0 : decide ((body.length : Int) > 2028 - (opts.length : Int)) = false := decide_eq_false a8
  have a8b1 : decide (2028 - (opts.length : Int) < (body.length : Int)) = false := decide_eq_false a8
  have e5 : wrap64 (20 + (opts.length : Int)) = 20 + (opts.length : Int) := by have := HL9.out; unfold wrap64; omega
  have e6 : wrap64 (2048 - (20 + (opts.length : Int))) = 2028 - (opts.length : Int) := by have := HL9.out; unfold wrap64; omega
  have HL10 := Aside0.mk (show body.length ≤ 2028 by omega)
  have e7 : wrap64 (20 + (opts.length : Int) + (body.length : Int)) = 20 + (opts.length : Int) + (body.length : Int) := by have := HL9.out; unfold wrap64; omega
  clear a8
  obtain ⟨part, hpart⟩ : ∃ x, x = ip_Build.part df mf off := ⟨_, rfl⟩
  rw [← hpart] at h
  obtain ⟨b1, hb1, h⟩ := Option.bind_eq_some_iff.mp h
  have HF1 : Aside0 (ip_put.f 10 (List.replicate (20 + opts.length) 0) 0 1 (Go.bits .or .i64 64 (wrap64 ((20 + (opts.length : Int)).tdiv 4))) = some b1) := ⟨hb1⟩
  clear hb1
  obtain ⟨b2, hb2, h⟩ := Option.bind_eq_some_iff.mp h
  have HF2 : Aside0 (ip_put.f 10 b1 1 1 tos = some b2) := ⟨hb2⟩
  clear hb2
  obtain ⟨b3, hb3, h⟩ := Option.bind_eq_some_iff.mp h
  have HF3 : Aside0 (ip_put.f 10 b2 2 2 (20 + (opts.length : Int) + (body.length : Int)) = some b3) := ⟨hb3⟩
  clear hb3
  obtain ⟨b4, hb4, h⟩ := Option.bind_eq_some_iff.mp h
  have HF4 : Aside0 (ip_put.f 10 b3 4 2 id = some b4) := ⟨hb4⟩
  clear hb4
  obtain ⟨b5, hb5, h⟩ := Option.bind_eq_some_iff.mp h
  have HF5 : Aside0 (ip_put.f 10 b4 6 2 part = some b5) := ⟨hb5⟩
  clear hb5
  obtain ⟨b6, hb6, h⟩ := Option.bind_eq_some_iff.mp h
  have HF6 : Aside0 (ip_put.f 10 b5 8 1 ttl = some b6) := ⟨hb6⟩
  clear hb6
  obtain ⟨b7, hb7, h⟩ := Option.bind_eq_some_iff.mp h
  have HF7 : Aside0 (ip_put.f 10 b6 9 1 proto = some b7) := ⟨hb7⟩
  clear hb7
  obtain ⟨b8, hb8, h⟩ := Option.bind_eq_some_iff.mp h
  have HF8 : Aside0 (ip_put.f 10 b7 12 4 (wrap64 src) = some b8) := ⟨hb8⟩
  clear hb8
  obtain ⟨b9, hb9, h⟩ := Option.bind_eq_some_iff.mp h
  have HF9 : Aside0 (ip_put.f 10 b8 16 4 (wrap64 dst) = some b9) := ⟨hb9⟩
  clear hb9
  by_cases hlen : b9.length = 20 + opts.length
  case neg => rw [if_neg hlen] at h; cases h
  rw [if_pos hlen] at h
  obtain ⟨ck, hck, h⟩ := Option.bind_eq_some_iff.mp h
  obtain ⟨b10, hb10, h⟩ := Option.bind_eq_some_iff.mp h
  by_cases hlen2 : b10.length ≤ 1000
  case neg => rw [if_neg hlen2] at h; cases h
  rw [if_pos hlen2] at h
  simp only [Option.some.injEq, Prod.mk.injEq] at h
  obtain ⟨rfl, rfl⟩ := h
  have HLEN := Aside0.mk hlen
  have HLEN2 := Aside0.mk hlen2
  have HCK := Aside0.mk hck
  have HF10 : Aside0 (ip_put.f 10 (b9.take 20 ++ opts) 10 2 ck = some b10) := ⟨hb10⟩
  have HPART := Aside0.mk hpart
  clear hlen hlen2 hck hb10 hpart
  obtain ⟨iz, hin, hz, hsz, hbb⟩ := info_parts info5
  obtain ⟨mc, hmc⟩ : ∃ m, m = madeCells #[Value.int .u8 0] (20 + opts.length + body.length) := ⟨_, rfl⟩
  have hmk : ∀ W : World, (Instr.makeSlice 29 (.int .i64 (20 + (opts.length : Int))) (.int .i64 (20 + (opts.length : Int) + (body.length : Int)))).run Tryd.prog W = .ok (.slice (some ⟨W.heap.size, 0, none⟩) (20 + opts.length) (20 + opts.length + body.length)) (W.alloc (.cells mc 5)) := fun W => by
    have := HL9.out
    have := HL10.out
    have hh := run_make (P := Tryd.prog) W 29 5 iz (.int .u8 0) Tryd.underlying29 hin hz .i64 .i64 (20 + (opts.length : Int)) (20 + (opts.length : Int) + (body.length : Int)) (by omega) (by omega) (by rw [hbb]; omega) (by omega)
    rw [hh, show (20 + (opts.length : Int)).toNat = 20 + opts.length by omega, show (20 + (opts.length : Int) + (body.length : Int)).toNat = 20 + opts.length + body.length by omega, hsz, Nat.mul_one, hmc]
    rfl
  have HMC := Aside0.mk hmc
  clear hin hz hsz hbb hmc
  go_enter_defers Tryd.func11, Tryd.ntmps11
  go_upto_if 69 with (first | (go_at_call 24; (with_reducible refine (inW_calls _ _ (by omega) _).mono ?_); rintro e' w1 ⟨rfl, n1, rfl⟩) | (go_at_call_of 23 (Value.int IntKind.i64 3); (with_reducible refine (ip_refuse.pass _ _).mono ?_); rintro e' w6 ⟨rfl, hw6⟩; have n1_ := Aside0.mk (show w6.heap[w.heap.size]? = some (.cells #[.int .i64 tos, .int .i64 id, .bool df, .bool mf, .int .i64 off, .int .i64 ttl, .int .i64 proto, .int .u32 src, .int .u32 dst, .slice A9 opts.length c9, .slice A10 body.length c10] 34 (0, 0)) from by rw [← hw6]; repeat (first | exact HBX.out | refine blk_drewN ?_ _)); have n2_ := Aside0.mk (show w6.heap[w.heap.size + 1]? = some (.cells #[.slice none 0 0] 29 (0, 0)) from by rw [← hw6]; repeat (first | exact HP.out | refine blk_drewN ?_ _)); have n3_ := Aside0.mk (show w6.heap[w.heap.size + 2]? = some (.cells #[.int .i64 0] 30 (0, 0)) from by rw [← hw6]; repeat (first | exact HE.out | refine blk_drewN ?_ _)); have n4_ := Aside0.mk (show Below w.heap.size w w6 from by rw [← hw6]; repeat (first | exact HB.out | refine pw_below_drewN ?_ _)); clear hw6 HBX HP HE HB; have HBX := n1_; have HP := n2_; have HE := n3_; have HB := n4_; clear n1_ n2_ n3_ n4_; have hz10 : w6.cell? ⟨w.heap.size, 10, none⟩ = some (.slice A10 body.length c10) := (blk_cell HBX.out 10).trans rfl; have hx4 : (w6.alloc (.cells mc 5)).cell? ⟨w.heap.size, 4, none⟩ = some (.int .i64 off) := (blk_cell (blk_alloc HBX.out _) 4).trans rfl; have hx2 : (w6.alloc (.cells mc 5)).cell? ⟨w.heap.size, 2, none⟩ = some (.bool df) := (blk_cell (blk_alloc HBX.out _) 2).trans rfl; have hx3 : (w6.alloc (.cells mc 5)).cell? ⟨w.heap.size, 3, none⟩ = some (.bool mf) := (blk_cell (blk_alloc HBX.out _) 3).trans rfl; have hxp : (w6.alloc (.cells mc 5)).cell? ⟨w.heap.size + 1, 0, none⟩ = some (.slice none 0 0) := (blk_cell (blk_alloc HP.out _) 0).trans rfl; have hfp : (w6.alloc (.cells mc 5)).frozen? ⟨w.heap.size + 1, 0, none⟩ = false := blk_frozen (blk_alloc HP.out _) 0) | (go_at_call 23; (with_reducible refine (ip_refuse.pass _ _).mono ?_); rintro e' w1 ⟨rfl, rfl⟩))
  obtain ⟨h, hh⟩ : ∃ h, h = w6.heap.size := ⟨_, rfl⟩
  have hO6 : Kd.R (Kd.int .u8) 5 (w6.alloc (.cells mc 5)) w.heap.size (fun _ => True) (.slice (some ⟨h, 0, none⟩) (20 + opts.length) (20 + opts.length + body.length)) (List.replicate (20 + opts.length) (0 : Int)) := by
    have q1 := HL9.out
    have q2 := HL10.out
    have hl := own_made w6 0 5 .u8 (20 + opts.length + body.length) (Nat.zero_le _) (by omega)
    rw [← HMC.out] at hl
    rcases hl.2 with ⟨e, _⟩ | ⟨g', cap', cur, e, _, hcur, _, _, hsz, htk⟩
    · simp at e
    injection e with e1 e2 e3
    injection e1 with e1
    injection e1 with e1
    subst e1
    have hc := heap_alloc_new w6 (.cells mc 5)
    rw [hcur] at hc
    injection hc with hc
    injection hc with hc
    subst hc
    refine Kd.R_of_own ⟨by simp [encs], .inr ⟨h, 20 + opts.length + body.length, cur, by simp, by rw [hh]; exact HB.out.size, by rw [hh]; exact hcur, by simp, by unfold maxLen; omega, ?_, ?_⟩⟩ (fun _ _ => trivial)
    · rw [← e3] at hsz; simpa using hsz
    · have := congrArg (List.take (20 + opts.length)) htk
      rw [List.take_take, Nat.mul_one] at this
      simp only [List.length_replicate, Nat.mul_one]
      rw [Nat.min_eq_left (by omega)] at this
      rw [this]
      simp [nums, encs, List.take_replicate]
  obtain ⟨w7, hw7⟩ : ∃ w7, w7 = (w6.alloc (.cells mc 5)).setCell ⟨w.heap.size + 1, 0, none⟩ (.slice (some ⟨w6.heap.size, 0, none⟩) (20 + opts.length) (20 + opts.length + body.length)) := ⟨_, rfl⟩
  rw [← hw7]
  rw [← hh] at hw7
  have n1_ := Aside0.mk (show w7.heap[w.heap.size]? = some (.cells #[.int .i64 tos, .int .i64 id, .bool df, .bool mf, .int .i64 off, .int .i64 ttl, .int .i64 proto, .int .u32 src, .int .u32 dst, .slice A9 opts.length c9, .slice A10 body.length c10] 34 (0, 0)) from by rw [hw7]; exact blk_far (blk_alloc HBX.out _) (by simp) _)
  have n2_ := Aside0.mk (show w7.heap[w.heap.size + 1]? = some (.cells #[.slice (some ⟨h, 0, none⟩) (20 + opts.length) (20 + opts.length + body.length)] 29 (0, 0)) from by rw [hw7]; exact blk_put (cs := #[.slice none 0 0]) (blk_alloc HP.out _) 0 _ rfl)
  have n3_ := Aside0.mk (show w7.heap[w.heap.size + 2]? = some (.cells #[.int .i64 0] 30 (0, 0)) from by rw [hw7]; exact blk_far (blk_alloc HE.out _) (by simp) _)
  have n4_ := Aside0.mk (show Below w.heap.size w w7 from by rw [hw7]; exact below_set (below_alloc HB.out _) (by simp))
  have n5_ := Aside0.mk (show Kd.R (Kd.int .u8) 5 w7 w.heap.size (fun _ => True) (.slice (some ⟨h, 0, none⟩) (20 + opts.length) (20 + opts.length + body.length)) (List.replicate (20 + opts.length) (0 : Int)) from by rw [hw7]; exact Kd.R_set hO6 (blk_alloc HP.out _) (by decide) 0 _)
  have HNH := Aside0.mk (show w.heap.size ≠ h ∧ w.heap.size + 1 ≠ h ∧ w.heap.size + 2 ≠ h from by have := blk_lt HE.out; omega)
  clear HBX HP HE HB hO6 hw7 hx4 hx2 hx3 hxp hfp hz10 hmk hh
  have HBX := n1_
  have HP := n2_
  have HE := n3_
  have HB := n4_
  have HO := n5_
  clear n1_ n2_ n3_ n4_ n5_
  have hz3 : w7.cell? ⟨w.heap.size, 3, none⟩ = some (.bool mf) := (blk_cell HBX.out 3).trans rfl
  obtain ⟨p1, hp1⟩ : ∃ x, x = (if df = true then Go.bits .or .i64 off 16384 else off) := ⟨_, rfl⟩
  have HP1 := Aside0.mk hp1
  clear hp1
  go_cut [5] from 6 to 130 (fun v5 wc => v5 = .int .i64 p1 ∧ w7 = wc)
  case first =>
    cases df <;> (go_wp2; go_meet; case rel => exact ⟨by rw [HP1.out]; simp, rfl⟩)
  case rest =>
  obtain ⟨rfl, rfl⟩ := hcut
  go_upto_if 73 with fail
  go_cut [5] from 6 to 130 (fun v5 wc => v5 = .int .i64 part ∧ w7 = wc)
  case first =>
    cases mf <;> (go_wp2; go_meet; case rel => exact ⟨by rw [HPART.out, HP1.out]; simp [ip_Build.part], rfl⟩)
  case rest =>
  obtain ⟨rfl, rfl⟩ := hcut
  have hs0 : w7.cell? ⟨w.heap.size + 1, 0, none⟩ = some (.slice (some ⟨h, 0, none⟩) (20 + opts.length) (20 + opts.length + body.length)) := (blk_cell HP.out 0).trans rfl
  go_wp2_with (fail)
  ((with_reducible refine (ip_put.one (r := b1) (a := 0) (m := 1) (x := (Go.bits .or .i64 64 (wrap64 ((20 + (opts.length : Int)).tdiv 4)))) HB.out HO.out HF1.out).mono ?_); rintro e' wp1 ⟨rfl, ho, hb, hk⟩; have n1_ := Aside0.mk (kept_blk hk HBX.out HNH.out.1); have n2_ := Aside0.mk (kept_blk hk HP.out HNH.out.2.1); have n3_ := Aside0.mk (kept_blk hk HE.out HNH.out.2.2); clear HBX HP HE HB HO hk; have HBX := n1_; have HP := n2_; have HE := n3_; have HB := Aside0.mk hb; have HO := Aside0.mk ho; clear n1_ n2_ n3_ ho hb)
  have hs1 : wp1.cell? ⟨w.heap.size + 1, 0, none⟩ = some (.slice (some ⟨h, 0, none⟩) (20 + opts.length) (20 + opts.length + body.length)) := (blk_cell HP.out 0).trans rfl
  have hv1_0 : wp1.cell? ⟨w.heap.size, 0, none⟩ = some (.int .i64 tos) := (blk_cell HBX.out 0).trans rfl
  go_wp2_with (fail)
  ((with_reducible refine (ip_put.one (r := b2) (a := 1) (m := 1) (x := tos) HB.out HO.out HF2.out).mono ?_); rintro e' wp2 ⟨rfl, ho, hb, hk⟩; have n1_ := Aside0.mk (kept_blk hk HBX.out HNH.out.1); have n2_ := Aside0.mk (kept_blk hk HP.out HNH.out.2.1); have n3_ := Aside0.mk (kept_blk hk HE.out HNH.out.2.2); clear HBX HP HE HB HO hk; have HBX := n1_; have HP := n2_; have HE := n3_; have HB := Aside0.mk hb; have HO := Aside0.mk ho; clear n1_ n2_ n3_ ho hb)
  have hs2 : wp2.cell? ⟨w.heap.size + 1, 0, none⟩ = some (.slice (some ⟨h, 0, none⟩) (20 + opts.length) (20 + opts.length + body.length)) := (blk_cell HP.out 0).trans rfl
  have hv2_10 : wp2.cell? ⟨w.heap.size, 10, none⟩ = some (.slice A10 body.length c10) := (blk_cell HBX.out 10).trans rfl
  go_wp2_with (fail)
  ((with_reducible refine (ip_put.one (r := b3) (a := 2) (m := 2) (x := (20 + (opts.length : Int) + (body.length : Int))) HB.out HO.out HF3.out).mono ?_); rintro e' wp3 ⟨rfl, ho, hb, hk⟩; have n1_ := Aside0.mk (kept_blk hk HBX.out HNH.out.1); have n2_ := Aside0.mk (kept_blk hk HP.out HNH.out.2.1); have n3_ := Aside0.mk (kept_blk hk HE.out HNH.out.2.2); clear HBX HP HE HB HO hk; have HBX := n1_; have HP := n2_; have HE := n3_; have HB := Aside0.mk hb; have HO := Aside0.mk ho; clear n1_ n2_ n3_ ho hb)
  have hs3 : wp3.cell? ⟨w.heap.size + 1, 0, none⟩ = some (.slice (some ⟨h, 0, none⟩) (20 + opts.length) (20 + opts.length + body.length)) := (blk_cell HP.out 0).trans rfl
  have hv3_1 : wp3.cell? ⟨w.heap.size, 1, none⟩ = some (.int .i64 id) := (blk_cell HBX.out 1).trans rfl
  go_wp2_with (fail)
  ((with_reducible refine (ip_put.one (r := b4) (a := 4) (m := 2) (x := id) HB.out HO.out HF4.out).mono ?_); rintro e' wp4 ⟨rfl, ho, hb, hk⟩; have n1_ := Aside0.mk (kept_blk hk HBX.out HNH.out.1); have n2_ := Aside0.mk (kept_blk hk HP.out HNH.out.2.1); have n3_ := Aside0.mk (kept_blk hk HE.out HNH.out.2.2); clear HBX HP HE HB HO hk; have HBX := n1_; have HP := n2_; have HE := n3_; have HB := Aside0.mk hb; have HO := Aside0.mk ho; clear n1_ n2_ n3_ ho hb)
  have hs4 : wp4.cell? ⟨w.heap.size + 1, 0, none⟩ = some (.slice (some ⟨h, 0, none⟩) (20 + opts.length) (20 + opts.length + body.length)) := (blk_cell HP.out 0).trans rfl
  go_wp2_with (fail)
  ((with_reducible refine (ip_put.one (r := b5) (a := 6) (m := 2) (x := part) HB.out HO.out HF5.out).mono ?_); rintro e' wp5 ⟨rfl, ho, hb, hk⟩; have n1_ := Aside0.mk (kept_blk hk HBX.out HNH.out.1); have n2_ := Aside0.mk (kept_blk hk HP.out HNH.out.2.1); have n3_ := Aside0.mk (kept_blk hk HE.out HNH.out.2.2); clear HBX HP HE HB HO hk; have HBX := n1_; have HP := n2_; have HE := n3_; have HB := Aside0.mk hb; have HO := Aside0.mk ho; clear n1_ n2_ n3_ ho hb)
  have hs5 : wp5.cell? ⟨w.heap.size + 1, 0, none⟩ = some (.slice (some ⟨h, 0, none⟩) (20 + opts.length) (20 + opts.length + body.length)) := (blk_cell HP.out 0).trans rfl
  have hv5_5 : wp5.cell? ⟨w.heap.size, 5, none⟩ = some (.int .i64 ttl) := (blk_cell HBX.out 5).trans rfl
  go_wp2_with (fail)
  ((with_reducible refine (ip_put.one (r := b6) (a := 8) (m := 1) (x := ttl) HB.out HO.out HF6.out).mono ?_); rintro e' wp6 ⟨rfl, ho, hb, hk⟩; have n1_ := Aside0.mk (kept_blk hk HBX.out HNH.out.1); have n2_ := Aside0.mk (kept_blk hk HP.out HNH.out.2.1); have n3_ := Aside0.mk (kept_blk hk HE.out HNH.out.2.2); clear HBX HP HE HB HO hk; have HBX := n1_; have HP := n2_; have HE := n3_; have HB := Aside0.mk hb; have HO := Aside0.mk ho; clear n1_ n2_ n3_ ho hb)
  have hs6 : wp6.cell? ⟨w.heap.size + 1, 0, none⟩ = some (.slice (some ⟨h, 0, none⟩) (20 + opts.length) (20 + opts.length + body.length)) := (blk_cell HP.out 0).trans rfl
  have hv6_6 : wp6.cell? ⟨w.heap.size, 6, none⟩ = some (.int .i64 proto) := (blk_cell HBX.out 6).trans rfl
  go_wp2_with (fail)
  ((with_reducible refine (ip_put.one (r := b7) (a := 9) (m := 1) (x := proto) HB.out HO.out HF7.out).mono ?_); rintro e' wp7 ⟨rfl, ho, hb, hk⟩; have n1_ := Aside0.mk (kept_blk hk HBX.out HNH.out.1); have n2_ := Aside0.mk (kept_blk hk HP.out HNH.out.2.1); have n3_ := Aside0.mk (kept_blk hk HE.out HNH.out.2.2); clear HBX HP HE HB HO hk; have HBX := n1_; have HP := n2_; have HE := n3_; have HB := Aside0.mk hb; have HO := Aside0.mk ho; clear n1_ n2_ n3_ ho hb)
  have hs7 : wp7.cell? ⟨w.heap.size + 1, 0, none⟩ = some (.slice (some ⟨h, 0, none⟩) (20 + opts.length) (20 + opts.length + body.length)) := (blk_cell HP.out 0).trans rfl
  have hv7_7 : wp7.cell? ⟨w.heap.size, 7, none⟩ = some (.int .u32 src) := (blk_cell HBX.out 7).trans rfl
  go_wp2_with (fail)
  ((with_reducible refine (ip_put.one (r := b8) (a := 12) (m := 4) (x := (wrap64 src)) HB.out HO.out HF8.out).mono ?_); rintro e' wp8 ⟨rfl, ho, hb, hk⟩; have n1_ := Aside0.mk (kept_blk hk HBX.out HNH.out.1); have n2_ := Aside0.mk (kept_blk hk HP.out HNH.out.2.1); have n3_ := Aside0.mk (kept_blk hk HE.out HNH.out.2.2); clear HBX HP HE HB HO hk; have HBX := n1_; have HP := n2_; have HE := n3_; have HB := Aside0.mk hb; have HO := Aside0.mk ho; clear n1_ n2_ n3_ ho hb)
  have hs8 : wp8.cell? ⟨w.heap.size + 1, 0, none⟩ = some (.slice (some ⟨h, 0, none⟩) (20 + opts.length) (20 + opts.length + body.length)) := (blk_cell HP.out 0).trans rfl
  have hv8_8 : wp8.cell? ⟨w.heap.size, 8, none⟩ = some (.int .u32 dst) := (blk_cell HBX.out 8).trans rfl
  go_wp2_with (fail)
  ((with_reducible refine (ip_put.one (r := b9) (a := 16) (m := 4) (x := (wrap64 dst)) HB.out HO.out HF9.out).mono ?_); rintro e' wp9 ⟨rfl, ho, hb, hk⟩; have n1_ := Aside0.mk (kept_blk hk HBX.out HNH.out.1); have n2_ := Aside0.mk (kept_blk hk HP.out HNH.out.2.1); have n3_ := Aside0.mk (kept_blk hk HE.out HNH.out.2.2); clear HBX HP HE HB HO hk; have HBX := n1_; have HP := n2_; have HE := n3_; have HB := Aside0.mk hb; have HO := Aside0.mk ho; clear n1_ n2_ n3_ ho hb)
  have hs9 : wp9.cell? ⟨w.heap.size + 1, 0, none⟩ = some (.slice (some ⟨h, 0, none⟩) (20 + opts.length) (20 + opts.length + body.length)) := (blk_cell HP.out 0).trans rfl
  go_wp2_with (fail)
  have HP' : Aside0 (wp9.heap[w.heap.size + 1]? = some (.cells #[.slice (some ⟨h, 0, none⟩) b9.length (20 + opts.length + body.length)] 29 (0, 0))) := ⟨by rw [HLEN.out]; exact HP.out⟩
  have HO' : Aside0 (Kd.R (Kd.int .u8) 5 wp9 w.heap.size (fun _ => True) (.slice (some ⟨h, 0, none⟩) b9.length (20 + opts.length + body.length)) b9) := ⟨by rw [HLEN.out]; exact HO.out⟩
  refine ip_Build.r21 (w0 := w) (L := b9) (opts := opts) HBX.out HP'.out HE.out HO'.out HB.out rfl HR9.out HLEN.out (by have := HLEN.out; omega) ?_
  intro y117 y118 y119 y120 y121 w21 hbx hp hq ho hb
  clear HBX HP HP' HE HB HO HO'
  have HLT : Aside0 (b9.length = (b9.take 20 ++ opts).length) := ⟨by have := HLEN.out; simp; omega⟩
  rw [HLT.out] at hp ho
  have HBX := Aside0.mk hbx
  have HP := Aside0.mk hp
  have HE := Aside0.mk hq
  have HB := Aside0.mk hb
  have HO := Aside0.mk ho
  clear hbx hp hq ho hb
  go_wp2_with (fail)
  refine ip_Build.r22 (w0 := w) (L := b9.take 20 ++ opts) (r := b10) HBX.out HP.out HE.out HO.out HB.out HCK.out HF10.out (by have := HLEN.out; simp; omega) ?_
  intro y122 y123 y124 y125 y126 w22 hbx hp hq ho hb
  clear HBX HP HE HB HO
  have HLU : Aside0 ((b9.take 20 ++ opts).length = b10.length) := ⟨(Kd.R_reads' ho).1⟩
  rw [HLU.out] at hp ho
  have HBX := Aside0.mk hbx
  have HP := Aside0.mk hp
  have HE := Aside0.mk hq
  have HB := Aside0.mk hb
  have HO := Aside0.mk ho
  clear hbx hp hq ho hb
  go_upto_region 23 with (fail)
  refine ip_Build.r23 (w0 := w) (L := b10) (body := body) HBX.out HP.out HE.out HO.out HB.out rfl HR10.out (by have := HLEN2.out; have := HL10.out; omega) (by omega) (by omega) (by omega) ?_
  intro y127 y128 y129 y130 v1 w23 hp hq ho hb
  have HP1 := Aside0.mk hp
  have HE1 := Aside0.mk hq
  have HO1 := Aside0.mk ho
  have HB1 := Aside0.mk hb
  clear hp hq ho hb HBX HP HE HB HO
  go_wp2
  refine leaves_cons (f := 21) (args := #[.pointer (some ⟨w.heap.size + 1, 0, none⟩), .pointer (some ⟨w.heap.size + 2, 0, none⟩)]) (by simp) (by simp [go_sem]) ?_
  refine (ip_Build.idle (w.heap.size + 1) (w.heap.size + 2) _).mono ?_
  rintro e' u' w24 ⟨rfl, rfl, rfl⟩
  exact ⟨_, results_ss rfl _ _ (w.heap.size + 1) (w.heap.size + 2) 29 30 v1 (.int .i64 0) (0, 0) (0, 0) rfl HP1.out rfl HE1.out (fun w h => bytes_load _ _ w h) (fun w h => errno_load _ _ w h), _, rfl, HO1.out, HB1.out⟩

/-! ### ip_get: function 28 -/
def ip_get.f (l0 : List Int) (a1 : Int) (a2 : Int) : Option (Int) := (octet_Get.f l0 a1 a2).bind fun bt169 => (some (wrap64 (bt169.1)))
set_option maxHeartbeats 8000000 in
set_option maxRecDepth 100000 in
theorem ip_get.calls (A0 : Option Addr) (c0 : Nat) (l0 : List Int) (a1 : Int) (a2 : Int) (r : Int) (w : World) (hr0 : Kd.C (Kd.int .u8) w A0 l0.length l0) (hc0 : l0.length ≤ c0) (h : ip_get.f l0 a1 a2 = some r) :
    Calls Tryd.prog 28 #[.slice A0 l0.length c0, .int .i64 a1, .int .i64 a2] w fun e w' => e = .returned (.int .i64 r) ∧ Drawn0 w w' := by
  have HR0 := Aside0.mk hr0
  have HC0 := Aside0.mk hc0
  clear hr0 hc0
  have H : ((octet_Get.f l0 a1 a2).bind fun bt169 => (some (wrap64 (bt169.1)))) = some r := h
  clear h
  replace H := Option.bind_eq_some_iff.mp H
  obtain ⟨⟨t169, t170⟩, A40, H⟩ := H
  replace H : (some (wrap64 (t169))) = some r := H
  have A4 := Aside0.mk A40
  clear A40
  obtain rfl := Option.some.inj H
  go_enter Tryd.func28, Tryd.ntmps28
  go_wp2_with (first | ((with_reducible refine gate_callee (f := 38) rfl ?_); refine goesL_ (some 13) rfl rfl Tryd.func38 (by kernel_rfl) rfl #[.slice A0 l0.length c0, .int .i64 a1, .int .i64 a2] rfl (by (try simp only [List.map_toArray, List.map_cons, List.map_nil]); first | done | rfl | (simp only [List.length_drop, List.length_take]; rfl)) ?_; (with_reducible refine (octet_Get.calls _ _ l0 a1 a2 t169 t170 _ ?side1 ?side2 A4.out).mono ?_); (case side1 => repeat (first | exact HR0.out | (with_reducible refine Kd.C_alloc ?_ _) | (with_reducible refine Kd.C_drewN ?_ _) | (with_reducible refine Kd.C_drew ?_))); (case side2 => exact HC0.out); rintro e w' ⟨rfl, ⟨nd, rfl⟩⟩; refine ⟨_, rfl, ?_⟩))
  go_ret
  exact ⟨by first | rfl | (simp; done) | (simp [*]; done), by repeat (first | exact Drawn0.refl _ | apply Drawn0.step)⟩

/-! ### ip_Parse: function 13, by hand -/
set_option maxRecDepth 100000 in
set_option maxHeartbeats 1600000 in
theorem ip_Parse.catch (p q : Nat) (e : Int) (u : Value) (older : List PanicEntry) (w : World) {u0 u1 u2 u3 u4 u5 u6 u7 u8 u9 u10 : Value} (hp : w.heap[p]? = some (.cells #[u0, u1, u2, u3, u4, u5, u6, u7, u8, u9, u10] 34 (0, 0))) (hq : w.heap[q]? = some (.cells #[u] 30 (0, 0))) (hne : ¬ p = q) :
    CallsD Tryd.prog 27 #[.pointer (some ⟨p, 0, none⟩), .pointer (some ⟨q, 0, none⟩)] (.panicking ({ v := .iface 30 (.int .i64 e), recovered := false } :: older)) w fun e' u' w' =>
      e' = .returned (.tuple #[]) ∧ u' = .panicking ({ v := .iface 30 (.int .i64 e), recovered := true } :: older) ∧ w' = (((((((((((w.setCell ⟨p, 0, none⟩ (.int .i64 0)).setCell ⟨p, 1, none⟩ (.int .i64 0)).setCell ⟨p, 2, none⟩ (.bool false)).setCell ⟨p, 3, none⟩ (.bool false)).setCell ⟨p, 4, none⟩ (.int .i64 0)).setCell ⟨p, 5, none⟩ (.int .i64 0)).setCell ⟨p, 6, none⟩ (.int .i64 0)).setCell ⟨p, 7, none⟩ (.int .u32 0)).setCell ⟨p, 8, none⟩ (.int .u32 0)).setCell ⟨p, 9, none⟩ (.slice none 0 0)).setCell ⟨p, 10, none⟩ (.slice none 0 0)).setCell ⟨q, 0, none⟩ (.int .i64 e) := by
  have hne' : ¬ q = p := fun h => hne h.symm
  have hu25 := Tryd.underlying34
  have hc0 : w.cell? ⟨p, 0, none⟩ = some u0 := (blk_cell hp 0).trans rfl
  have hf0 := blk_frozen hp 0
  have hc1 : w.cell? ⟨p, 1, none⟩ = some u1 := (blk_cell hp 1).trans rfl
  have hf1 := blk_frozen hp 1
  have hc2 : w.cell? ⟨p, 2, none⟩ = some u2 := (blk_cell hp 2).trans rfl
  have hf2 := blk_frozen hp 2
  have hc3 : w.cell? ⟨p, 3, none⟩ = some u3 := (blk_cell hp 3).trans rfl
  have hf3 := blk_frozen hp 3
  have hc4 : w.cell? ⟨p, 4, none⟩ = some u4 := (blk_cell hp 4).trans rfl
  have hf4 := blk_frozen hp 4
  have hc5 : w.cell? ⟨p, 5, none⟩ = some u5 := (blk_cell hp 5).trans rfl
  have hf5 := blk_frozen hp 5
  have hc6 : w.cell? ⟨p, 6, none⟩ = some u6 := (blk_cell hp 6).trans rfl
  have hf6 := blk_frozen hp 6
  have hc7 : w.cell? ⟨p, 7, none⟩ = some u7 := (blk_cell hp 7).trans rfl
  have hf7 := blk_frozen hp 7
  have hc8 : w.cell? ⟨p, 8, none⟩ = some u8 := (blk_cell hp 8).trans rfl
  have hf8 := blk_frozen hp 8
  have hc9 : w.cell? ⟨p, 9, none⟩ = some u9 := (blk_cell hp 9).trans rfl
  have hf9 := blk_frozen hp 9
  have hc10 : w.cell? ⟨p, 10, none⟩ = some u10 := (blk_cell hp 10).trans rfl
  have hf10 := blk_frozen hp 10
  have hcq : w.cell? ⟨q, 0, none⟩ = some u := (blk_cell hq 0).trans rfl
  have hfq := blk_frozen hq 0
  refine callsD_of_wpS Tryd.func27 rfl fun c₀ cs hu => ?_
  apply wpS_seq
  apply wpS_region
  simp [wpOpsS, go_sem, recoverD, hu, Tryd.ntmps27, Exit.thenS]
  refine wpS_of_wp ?_
  change Code.wp Tryd.prog _ _ ⟨#[.pointer (some ⟨p, 0, none⟩), .pointer (some ⟨q, 0, none⟩), .iface 30 (.int .i64 e), .iface 30 (.int .i64 e), undef, undef, undef, undef, undef], []⟩ w
  clear hu hp hq
  go_wp2_with (first | (go_at_call 22; refine (ip_thrown.ok e _).mono ?_; rintro e' w1 ⟨rfl, rfl⟩))
  simp [bodyPostS, results, Tryd.results27]
theorem ip_Parse.idle (p q : Nat) (w : World) :
    CallsD Tryd.prog 27 #[.pointer (some ⟨p, 0, none⟩), .pointer (some ⟨q, 0, none⟩)] .returning w fun e' u' w' => e' = .returned (.tuple #[]) ∧ u' = .returning ∧ w = w' := by
  refine callsD_of_wpS Tryd.func27 rfl fun c₀ cs hu => ?_
  apply wpS_seq
  apply wpS_region
  simp [wpOpsS, go_sem, recoverD, hu, Tryd.ntmps27, Exit.thenS]
  refine wpS_of_wp ?_
  change Code.wp Tryd.prog _ _ ⟨#[.pointer (some ⟨p, 0, none⟩), .pointer (some ⟨q, 0, none⟩), .nilIface, .nilIface, undef, undef, undef, undef, undef], []⟩ w
  go_wp2
  cases c₀
  simp_all [bodyPostS, results, Tryd.results27]
set_option maxRecDepth 100000 in
theorem ip_Parse.refused {tmps : Array Value} {w w0 : World} {p q : Nat} {e : Int} {R : Ending → World → Prop} (h2 : tmps.getD 2 undef = .pointer (some ⟨p, 0, none⟩)) (h3 : tmps.getD 3 undef = .pointer (some ⟨q, 0, none⟩))
    (hp : w.heap[p]? = some (.cells #[.int .i64 0, .int .i64 0, .bool false, .bool false, .int .i64 0, .int .i64 0, .int .i64 0, .int .u32 0, .int .u32 0, .slice none 0 0, .slice none 0 0] 34 (0, 0))) (hq : w.heap[q]? = some (.cells #[.int .i64 0] 30 (0, 0))) (hne : ¬ p = q) (hB : Below w0.heap.size w0 w) (hgp : w0.heap.size ≤ p) (hgq : w0.heap.size ≤ q)
    (hR : ∀ w', Below w0.heap.size w0 w' → R (.returned (.tuple #[.agg #[.int .i64 0, .int .i64 0, .bool false, .bool false, .int .i64 0, .int .i64 0, .int .i64 0, .int .u32 0, .int .u32 0, .slice none 0 0, .slice none 0 0], .int .i64 e])) w') :
    Leaves Tryd.prog Tryd.f13 tmps R [{ target := .fn (.func 27) #[.pointer (some ⟨p, 0, none⟩), .pointer (some ⟨q, 0, none⟩)], args := #[] }] (.panicking [{ v := .iface 30 (.int .i64 e), recovered := false }]) w := by
  refine leaves_cons (f := 27) (args := #[.pointer (some ⟨p, 0, none⟩), .pointer (some ⟨q, 0, none⟩)]) (by simp) (by simp [go_sem]) ?_
  refine (ip_Parse.catch p q e _ [] w hp hq hne).mono ?_
  rintro e' u' w'' ⟨rfl, rfl, rfl⟩
  refine ⟨_, results_cs rfl _ _ p q 34 30 #[.int .i64 0, .int .i64 0, .bool false, .bool false, .int .i64 0, .int .i64 0, .int .i64 0, .int .u32 0, .int .u32 0, .slice none 0 0, .slice none 0 0] (.int .i64 e) (0, 0) (0, 0) _ h2 ?_ Tryd.underlying34 rfl rfl h3 ?_ (fun w h => errno_load q _ w h), ?_⟩
  · exact blk_far (eleven_set hp) hne _
  · exact blk_put (cs := #[.int .i64 0]) ((eleven_far q (fun h => hne h.symm)).trans hq) 0 _ rfl
  · exact hR _ (below_set (eleven_below hB hgp) hgq)
set_option maxHeartbeats 8000000 in
set_option maxRecDepth 100000 in
theorem ip_Parse.r11 {s1 s7 s8 s9 s10 s11 s12 s13 s14 s15 s16 s17 s18 s19 s20 s21 s22 s23 s24 s25 s26 s27 s28 s29 s30 s31 s32 s33 s34 s35 s36 s37 s38 s39 s40 s41 s42 s43 s44 s45 s46 s47 s48 s49 s50 s51 s52 s53 s54 s55 s56 s57 s58 s59 s60 s61 s62 s63 s64 s65 s66 s67 s68 s69 s70 s71 s72 s73 s74 s75 s76 s77 s78 s79 s80 s81 s82 s83 s84 s85 s86 s87 s88 s89 s90 s91 s92 s93 s94 s95 s96 s97 s98 s99 : Value} {D : List Deferred} {p q : Nat} {hd tot part : Int} {ad : Addr} {c : Nat} {l : List Int} {w0 w : World} {Q : Exit → Act → World → Prop} (x1 x8 x9 id src dst : Int)
    (hp : w.heap[p]? = some (.cells #[.int .i64 0, .int .i64 0, .bool false, .bool false, .int .i64 0, .int .i64 0, .int .i64 0, .int .u32 0, .int .u32 0, .slice none 0 0, .slice none 0 0] 34 (0, 0))) (hq : w.heap[q]? = some (.cells #[.int .i64 0] 30 (0, 0))) (hgp : w0.heap.size ≤ p) (hgq : w0.heap.size ≤ q) (hne : ¬ p = q)
    (hr : Kd.C (Kd.int .u8) w0 (some ad) l.length l) (hc : l.length ≤ c) (hb : Below w0.heap.size w0 w)
    (hl : l.length ≤ 1000000) (h20 : 20 ≤ hd) (hhd : hd ≤ tot) (htl : tot ≤ l.length)
    (h1 : w0.cell? ⟨ad.block, ad.off + 1, none⟩ = some (.int .u8 x1)) (h8 : w0.cell? ⟨ad.block, ad.off + 8, none⟩ = some (.int .u8 x8)) (h9 : w0.cell? ⟨ad.block, ad.off + 9, none⟩ = some (.int .u8 x9))
    (b1 : 0 ≤ x1 ∧ x1 ≤ 255) (b8 : 0 ≤ x8 ∧ x8 ≤ 255) (b9 : 0 ≤ x9 ∧ x9 ≤ 255)
    (e1 : ip_get.f l 4 2 = some id) (e2 : ip_get.f l 12 4 = some src) (e3 : ip_get.f l 16 4 = some dst)
    (hQ : ∀ y62 y63 y64 y65 y66 y67 y68 y69 y70 y71 y72 y73 y74 y75 y76 y77 y78 y79 y80 y81 y82 y83 y84 y85 y86 y87 y88 y89 y90 y91 y92 y93 y94 y95 y96 y97 y98 y99 v9 v10 w', w'.heap[q]? = some (.cells #[.int .i64 0] 30 (0, 0)) → w'.heap[p]? = some (.cells #[.int .i64 x1, .int .i64 id, .bool (Go.bits .and .i64 part 16384 != 0), .bool (Go.bits .and .i64 part 8192 != 0), .int .i64 (Go.bits .and .i64 part 8191), .int .i64 x8, .int .i64 x9, .int .u32 (IntKind.u32.wrap src), .int .u32 (IntKind.u32.wrap dst), v9, v10] 34 (0, 0)) →
      Kd.R (Kd.int .u8) 5 w' w0.heap.size (fun _ => True) v9 ((l.take hd.toNat).drop 20) → Kd.R (Kd.int .u8) 5 w' w0.heap.size (fun _ => True) v10 ((l.take tot.toNat).drop hd.toNat) → (∀ k, v9.ownBlock = some k → v10.ownBlock ≠ some k) → Below w0.heap.size w0 w' → Q .normal ⟨#[.slice (some ad) l.length c, s1, .pointer (some ⟨p, 0, none⟩), .pointer (some ⟨q, 0, none⟩), .int .i64 hd, .int .i64 tot, .int .i64 part, s7, s8, s9, s10, s11, s12, s13, s14, s15, s16, s17, s18, s19, s20, s21, s22, s23, s24, s25, s26, s27, s28, s29, s30, s31, s32, s33, s34, s35, s36, s37, s38, s39, s40, s41, s42, s43, s44, s45, s46, s47, s48, s49, s50, s51, s52, s53, s54, s55, s56, s57, s58, s59, s60, s61, y62, y63, y64, y65, y66, y67, y68, y69, y70, y71, y72, y73, y74, y75, y76, y77, y78, y79, y80, y81, y82, y83, y84, y85, y86, y87, y88, y89, y90, y91, y92, y93, y94, y95, y96, y97, y98, y99], D⟩ w') :
    (regionIn 11 Tryd.f13).wp Tryd.prog Q ⟨#[.slice (some ad) l.length c, s1, .pointer (some ⟨p, 0, none⟩), .pointer (some ⟨q, 0, none⟩), .int .i64 hd, .int .i64 tot, .int .i64 part, s7, s8, s9, s10, s11, s12, s13, s14, s15, s16, s17, s18, s19, s20, s21, s22, s23, s24, s25, s26, s27, s28, s29, s30, s31, s32, s33, s34, s35, s36, s37, s38, s39, s40, s41, s42, s43, s44, s45, s46, s47, s48, s49, s50, s51, s52, s53, s54, s55, s56, s57, s58, s59, s60, s61, s62, s63, s64, s65, s66, s67, s68, s69, s70, s71, s72, s73, s74, s75, s76, s77, s78, s79, s80, s81, s82, s83, s84, s85, s86, s87, s88, s89, s90, s91, s92, s93, s94, s95, s96, s97, s98, s99], D⟩ w := by
  conv => arg 2; whnf
  have hu := Tryd.underlying34
  have HP := Aside0.mk hp
  have HQ3 := Aside0.mk hq
  have HGP := Aside0.mk hgp
  have HGQ := Aside0.mk hgq
  have HNE := Aside0.mk hne
  have HR := Aside0.mk hr
  have HC := Aside0.mk hc
  have HB := Aside0.mk hb
  have HQ := Aside0.mk hQ
  obtain ⟨iz, hin, hz, hsz, hbb⟩ := info_parts info5
  have m1 := cut_mid (P := Tryd.prog) 29 5 .i64 .i64 Tryd.underlying29 hin 1 hsz (some ad) l.length c 20 hd (by decide) h20 (by omega) hc
  have m2 := cut_mid (P := Tryd.prog) 29 5 .i64 .i64 Tryd.underlying29 hin 1 hsz (some ad) l.length c hd tot (by omega) hhd htl hc
  have c1 := Kd.C_mid (lo := 20) (hi := hd.toNat) hr (by omega) (by omega) hc
  have c2 := Kd.C_mid (lo := hd.toNat) (hi := tot.toNat) hr (by omega) (by omega) hc
  obtain ⟨ys7, hy7⟩ : ∃ y, y = (l.take hd.toNat).drop 20 := ⟨_, rfl⟩
  obtain ⟨ys8, hy8⟩ : ∃ y, y = (l.take tot.toNat).drop hd.toNat := ⟨_, rfl⟩
  have k7 : hd.toNat - 20 = ys7.length := by rw [hy7]; simp; omega
  have k8 : tot.toNat - hd.toNat = ys8.length := by rw [hy8]; simp; omega
  obtain ⟨A7, hA7⟩ : ∃ y, y = (if c = (20 : Int).toNat then (some ad) else (some ad).map (·.add ((20 : Int).toNat * 1))) := ⟨_, rfl⟩
  obtain ⟨A8, hA8⟩ : ∃ y, y = (if c = hd.toNat then (some ad) else (some ad).map (·.add (hd.toNat * 1))) := ⟨_, rfl⟩
  rw [← hA7, show (20 : Int).toNat = 20 from rfl, k7] at m1
  rw [← hA8, k8] at m2
  have HR7 : Aside0 (Kd.C (Kd.int .u8) w0 A7 ys7.length ys7) := ⟨by rw [hA7, hy7]; exact c1⟩
  have HR8 : Aside0 (Kd.C (Kd.int .u8) w0 A8 ys8.length ys8) := ⟨by rw [hA8, hy8]; exact c2⟩
  have HK : Aside0 (ys7.length ≤ 1000000 ∧ ys8.length ≤ 1000000) := ⟨by omega⟩
  have HY7 := Aside0.mk hy7
  have HY8 := Aside0.mk hy8
  have E1 := Aside0.mk e1
  have E2 := Aside0.mk e2
  have E3 := Aside0.mk e3
  have Q1 : Aside0 (IntKind.i64.wrap x1 = x1) := ⟨by rw [IntKind.wrap_i64]; omega⟩
  have Q8 : Aside0 (IntKind.i64.wrap x8 = x8) := ⟨by rw [IntKind.wrap_i64]; omega⟩
  have Q9 : Aside0 (IntKind.i64.wrap x9 = x9) := ⟨by rw [IntKind.wrap_i64]; omega⟩
  have d1 : (1 : Int) < (l.length : Int) := by omega
  have d8 : (8 : Int) < (l.length : Int) := by omega
  have d9 : (9 : Int) < (l.length : Int) := by omega
  have d1' : 1 < l.length := by omega
  have d8' : 8 < l.length := by omega
  have d9' : 9 < l.length := by omega
  have HX1 := Aside0.mk h1
  have HX8 := Aside0.mk h8
  have HX9 := Aside0.mk h9
  have HA := Aside0.mk (World.block_lt_of_cell? w0 _ h1)
  have y1 : w.cell? ⟨ad.block, ad.off + 1, none⟩ = some (.int .u8 x1) := pw_cell_below HB.out h1
  have y8 : w.cell? ⟨ad.block, ad.off + 8, none⟩ = some (.int .u8 x8) := pw_cell_below HB.out h8
  have y9 : w.cell? ⟨ad.block, ad.off + 9, none⟩ = some (.int .u8 x9) := pw_cell_below HB.out h9
  clear hp hq hgp hgq hne hr hc hb hl hQ h20 hhd htl hin hsz hbb hz c1 c2 hy7 hy8 k7 k8 hA7 hA8 e1 e2 e3 h1 h8 h9 b1 b8 b9
  refine wp_region_noPanic ?_
  go_region_held3 (fun w' => w'.cell? ⟨ad.block, ad.off + 1, none⟩ = some (.int .u8 x1) ∧ w'.cell? ⟨ad.block, ad.off + 8, none⟩ = some (.int .u8 x8) ∧ w'.cell? ⟨ad.block, ad.off + 9, none⟩ = some (.int .u8 x9))
    (first
      | with_reducible exact ⟨pw_cell_below HB.out HX1.out, pw_cell_below HB.out HX8.out, pw_cell_below HB.out HX9.out⟩
      | with_reducible exact ⟨pw_cell_below (eleven_below HB.out HGP.out) HX1.out, pw_cell_below (eleven_below HB.out HGP.out) HX8.out, pw_cell_below (eleven_below HB.out HGP.out) HX9.out⟩
      | with_reducible exact ⟨pw_cell_below (below_set (eleven_below HB.out HGP.out) HGQ.out) HX1.out, pw_cell_below (below_set (eleven_below HB.out HGP.out) HGQ.out) HX8.out, pw_cell_below (below_set (eleven_below HB.out HGP.out) HGQ.out) HX9.out⟩
      | go_keep)
    (first
      | (refine goes_ (f := 28) Tryd.func28 (by kernel_rfl) rfl #[.slice (some ad) l.length c, .int .i64 4, .int .i64 2] (by rfl) rfl rfl ?ha ?_
         (case ha => first | rfl | (go_simp; done) | (simp [Act.eval]; done))
         refine (ip_get.calls (some ad) c l 4 2 id _ (Kd.C_below HR.out (below_drew (HB.out))) HC.out E1.out).mono ?_
         rintro e w1 ⟨rfl, hd1⟩
         refine ⟨_, rfl, ?_⟩
         have hb1 := hd1.below
         clear hd1
         have n1 := Aside0.mk (blk_below (blk_drew (HP.out)) hb1)
         have n2 := Aside0.mk (below_step (below_drew (HB.out)) hb1)
         have n3 := Aside0.mk (blk_below (blk_drew (HQ3.out)) hb1)
         clear HP HB HQ3
         have HP := n1
         have HB := n2
         have HQ3 := n3
         clear n1 n2 n3
         clear hb1)
      | (refine goes_ (f := 28) Tryd.func28 (by kernel_rfl) rfl #[.slice (some ad) l.length c, .int .i64 12, .int .i64 4] (by rfl) rfl rfl ?ha ?_
         (case ha => first | rfl | (go_simp; done) | (simp [Act.eval]; done))
         refine (ip_get.calls (some ad) c l 12 4 src _ (Kd.C_below HR.out (HB.out)) HC.out E2.out).mono ?_
         rintro e w2 ⟨rfl, hd1⟩
         refine ⟨_, rfl, ?_⟩
         have hb1 := hd1.below
         clear hd1
         have n1 := Aside0.mk (blk_below (HP.out) hb1)
         have n2 := Aside0.mk (below_step (HB.out) hb1)
         have n3 := Aside0.mk (blk_below (HQ3.out) hb1)
         clear HP HB HQ3
         have HP := n1
         have HB := n2
         have HQ3 := n3
         clear n1 n2 n3
         clear hb1)
      | (refine goes_ (f := 28) Tryd.func28 (by kernel_rfl) rfl #[.slice (some ad) l.length c, .int .i64 16, .int .i64 4] (by rfl) rfl rfl ?ha ?_
         (case ha => first | rfl | (go_simp; done) | (simp [Act.eval]; done))
         refine (ip_get.calls (some ad) c l 16 4 dst _ (Kd.C_below HR.out (HB.out)) HC.out E3.out).mono ?_
         rintro e w3 ⟨rfl, hd1⟩
         refine ⟨_, rfl, ?_⟩
         have hb1 := hd1.below
         clear hd1
         have n1 := Aside0.mk (blk_below (HP.out) hb1)
         have n2 := Aside0.mk (below_step (HB.out) hb1)
         have n3 := Aside0.mk (blk_below (HQ3.out) hb1)
         clear HP HB HQ3
         have HP := n1
         have HB := n2
         have HQ3 := n3
         clear n1 n2 n3
         clear hb1)
      | (refine fresh_step (w0 := w0) rfl (.tmp 92) rfl (ys := ys7) (A := A7) (by rfl) (Kd.C_below HR7.out HB.out) HB.out (by have := HK.out.1; omega) ?_
         intro v7 w4 ho1 hb1 hn1
         obtain ⟨Vv7, Cv7, rfl⟩ := Kd.R_slice ho1
         have n1 := Aside0.mk (blk_below (HP.out) hb1)
         have n2 := Aside0.mk (below_step (HB.out) hb1)
         have n3 := Aside0.mk (blk_below (HQ3.out) hb1)
         clear HP HB HQ3
         have HP := n1
         have HB := n2
         have HQ3 := n3
         clear n1 n2 n3
         have HOv7 := Aside0.mk ho1
         clear hb1 ho1 hn1)
      | (refine fresh_step (w0 := w0) rfl (.tmp 97) rfl (ys := ys8) (A := A8) (by rfl) (Kd.C_below HR8.out HB.out) HB.out (by have := HK.out.2; omega) ?_
         intro v8 w5 ho1 hb1 hn1
         obtain ⟨Vv8, Cv8, rfl⟩ := Kd.R_slice ho1
         have n1 := Aside0.mk (blk_below (HP.out) hb1)
         have n2 := Aside0.mk (below_step (HB.out) hb1)
         have n3 := Aside0.mk (blk_below (HQ3.out) hb1)
         clear HP HB HQ3
         have HP := n1
         have HB := n2
         have HQ3 := n3
         clear n1 n2 n3
         have HNN : Aside0 (∀ k, (Value.slice Vv7 ys7.length Cv7).ownBlock = some k → (Value.slice Vv8 ys8.length Cv8).ownBlock ≠ some k) := ⟨fun k hk hk' => by
           have q1 := own_lt (Kd.own_of_R HOv7.out) k hk
           have q2 := hn1 k hk'
           omega⟩
         have n1 := Aside0.mk (Kd.R_below HOv7.out hb1)
         have HOv8 := Aside0.mk ho1
         clear HOv7
         have HOv7 := n1
         clear n1
         have hcA0 : w5.cell? ⟨p, 0, none⟩ = some (.int .i64 0) := (blk_cell HP.out 0).trans rfl
         have hfA0 : w5.frozen? ⟨p, 0, none⟩ = false := blk_frozen HP.out 0
         have hcA1 : w5.cell? ⟨p, 1, none⟩ = some (.int .i64 0) := (blk_cell HP.out 1).trans rfl
         have hfA1 : w5.frozen? ⟨p, 1, none⟩ = false := blk_frozen HP.out 1
         have hcA2 : w5.cell? ⟨p, 2, none⟩ = some (.bool false) := (blk_cell HP.out 2).trans rfl
         have hfA2 : w5.frozen? ⟨p, 2, none⟩ = false := blk_frozen HP.out 2
         have hcA3 : w5.cell? ⟨p, 3, none⟩ = some (.bool false) := (blk_cell HP.out 3).trans rfl
         have hfA3 : w5.frozen? ⟨p, 3, none⟩ = false := blk_frozen HP.out 3
         have hcA4 : w5.cell? ⟨p, 4, none⟩ = some (.int .i64 0) := (blk_cell HP.out 4).trans rfl
         have hfA4 : w5.frozen? ⟨p, 4, none⟩ = false := blk_frozen HP.out 4
         have hcA5 : w5.cell? ⟨p, 5, none⟩ = some (.int .i64 0) := (blk_cell HP.out 5).trans rfl
         have hfA5 : w5.frozen? ⟨p, 5, none⟩ = false := blk_frozen HP.out 5
         have hcA6 : w5.cell? ⟨p, 6, none⟩ = some (.int .i64 0) := (blk_cell HP.out 6).trans rfl
         have hfA6 : w5.frozen? ⟨p, 6, none⟩ = false := blk_frozen HP.out 6
         have hcA7 : w5.cell? ⟨p, 7, none⟩ = some (.int .u32 0) := (blk_cell HP.out 7).trans rfl
         have hfA7 : w5.frozen? ⟨p, 7, none⟩ = false := blk_frozen HP.out 7
         have hcA8 : w5.cell? ⟨p, 8, none⟩ = some (.int .u32 0) := (blk_cell HP.out 8).trans rfl
         have hfA8 : w5.frozen? ⟨p, 8, none⟩ = false := blk_frozen HP.out 8
         have hcA9 : w5.cell? ⟨p, 9, none⟩ = some (.slice none 0 0) := (blk_cell HP.out 9).trans rfl
         have hfA9 : w5.frozen? ⟨p, 9, none⟩ = false := blk_frozen HP.out 9
         have hcA10 : w5.cell? ⟨p, 10, none⟩ = some (.slice none 0 0) := (blk_cell HP.out 10).trans rfl
         have hfA10 : w5.frozen? ⟨p, 10, none⟩ = false := blk_frozen HP.out 10
         have hcB : w5.cell? ⟨q, 0, none⟩ = some (.int .i64 0) := (blk_cell HQ3.out 0).trans rfl
         have hfB : w5.frozen? ⟨q, 0, none⟩ = false := blk_frozen HQ3.out 0
         have hnAB := HNE.out
         have hnBA : ¬ q = p := fun h => HNE.out h.symm
         clear hb1 ho1 hn1))
  all_goals
    rw [Q1.out, Q8.out, Q9.out]
    refine NoPanic.normal (HQ.out _ _ _ _ _ _ _ _ _ _ _ _ _ _ _ _ _ _ _ _ _ _ _ _ _ _ _ _ _ _ _ _ _ _ _ _ _ _ _ _ _ ?q0 ?q2 ?q3 ?q4 HNN.out ?q5)
    (case q0 => exact blk_put (cs := #[.int .i64 0]) ((eleven_far q (fun h => HNE.out h.symm)).trans HQ3.out) 0 _ rfl)
    (case q2 => exact blk_far (eleven_set HP.out) HNE.out _)
    (case q3 => rw [← HY7.out]; exact Kd.R_set (Kd.R_mono (Kd.R_step (Kd.R_types HOv7.out HP.out (by decide)) (fun k hk _ => eleven_far _ hk.2)) (fun _ hk => hk.1)) ((eleven_far q (fun h => HNE.out h.symm)).trans HQ3.out) (by decide) 0 _)
    (case q4 => rw [← HY8.out]; exact Kd.R_set (Kd.R_mono (Kd.R_step (Kd.R_types HOv8.out HP.out (by decide)) (fun k hk _ => eleven_far _ hk.2)) (fun _ hk => hk.1)) ((eleven_far q (fun h => HNE.out h.symm)).trans HQ3.out) (by decide) 0 _)
    (case q5 => exact below_set (eleven_below HB.out HGP.out) HGQ.out)
def ip_Parse.zero (e : Int) : Option (Int × Int × Bool × Bool × Int × Int × Int × Int × Int × List Int × List Int × Int) := some (0, 0, false, false, 0, 0, 0, 0, 0, ([] : List Int), ([] : List Int), e)
def ip_Parse.f (l : List Int) : Option (Int × Int × Bool × Bool × Int × Int × Int × Int × Int × List Int × List Int × Int) :=
  if (l.length : Int) > 2048 then ip_Parse.zero 3
  else if (l.length : Int) < 20 then ip_Parse.zero 2
  else if ¬ ((0 ≤ rd l 0 ∧ rd l 0 ≤ 255) ∧ (0 ≤ rd l 1 ∧ rd l 1 ≤ 255) ∧ (0 ≤ rd l 8 ∧ rd l 8 ≤ 255) ∧ (0 ≤ rd l 9 ∧ rd l 9 ≤ 255)) then none
  else if rd l 0 / 16 ≠ 4 then ip_Parse.zero 4
  else if rd l 0 % 16 * 4 < 20 then ip_Parse.zero 4
  else if (l.length : Int) < rd l 0 % 16 * 4 then ip_Parse.zero 2
  else (ip_get.f l 2 2).bind fun total => (ip_get.f l 6 2).bind fun part =>
    if total < rd l 0 % 16 * 4 then ip_Parse.zero 4
    else if Go.bits .and .i64 part 32768 ≠ 0 then ip_Parse.zero 4
    else if total > (l.length : Int) then ip_Parse.zero 2
    else (octet_Sum.f [l.take (rd l 0 % 16 * 4).toNat]).bind fun s => if s ≠ 65535 then ip_Parse.zero 5
    else (ip_get.f l 4 2).bind fun id => (ip_get.f l 12 4).bind fun src => (ip_get.f l 16 4).bind fun dst =>
      some (rd l 1, id, (Go.bits .and .i64 part 16384 != 0), (Go.bits .and .i64 part 8192 != 0), Go.bits .and .i64 part 8191, rd l 8, rd l 9, IntKind.u32.wrap src, IntKind.u32.wrap dst, (l.take (rd l 0 % 16 * 4).toNat).drop 20, (l.take total.toNat).drop (rd l 0 % 16 * 4).toNat, 0)
set_option maxHeartbeats 8000000 in
set_option maxRecDepth 100000 in
theorem ip_Parse.calls (A0 : Option Addr) (c0 : Nat) (l0 : List Int) (r0 r1 : Int) (r2 r3 : Bool) (r4 r5 r6 r7 r8 : Int) (r9 r10 : List Int) (r11 : Int) (w : World) (hr0 : Kd.C (Kd.int .u8) w A0 l0.length l0) (hc0 : l0.length ≤ c0) (h : ip_Parse.f l0 = some (r0, r1, r2, r3, r4, r5, r6, r7, r8, r9, r10, r11)) :
    Calls Tryd.prog 13 #[.slice A0 l0.length c0] w fun e w' => ∃ v9_ v10_ : Value, e = .returned (.tuple #[.agg #[.int .i64 r0, .int .i64 r1, .bool r2, .bool r3, .int .i64 r4, .int .i64 r5, .int .i64 r6, .int .u32 r7, .int .u32 r8, v9_, v10_], .int .i64 r11]) ∧ Kd.R (Kd.int .u8) 5 w' w.heap.size (fun k_ => some k_ ≠ (v10_ : Value).ownBlock) v9_ r9 ∧ Kd.R (Kd.int .u8) 5 w' w.heap.size (fun k_ => some k_ ≠ (v9_ : Value).ownBlock) v10_ r10 ∧ Below w.heap.size w w' := by
  have hmf : ∀ (fn : Fn) (first cap : Array Value) (w : World), (Instr.makeFunc fn first cap).run Tryd.prog w = .ok (.func fn first cap) w := fun _ _ _ _ => rfl
  have HR := Aside0.mk hr0
  have HC := Aside0.mk hc0
  have HB : Aside0 (Below w.heap.size w ((w.alloc (.cells #[.int .i64 0, .int .i64 0, .bool false, .bool false, .int .i64 0, .int .i64 0, .int .i64 0, .int .u32 0, .int .u32 0, .slice none 0 0, .slice none 0 0] 34)).alloc (.cells #[.int .i64 0] 30))) := ⟨below_alloc (below_alloc (Below.refl _ _) _) _⟩
  have HP : Aside0 (((w.alloc (.cells #[.int .i64 0, .int .i64 0, .bool false, .bool false, .int .i64 0, .int .i64 0, .int .i64 0, .int .u32 0, .int .u32 0, .slice none 0 0, .slice none 0 0] 34)).alloc (.cells #[.int .i64 0] 30)).heap[w.heap.size]? = some (.cells #[.int .i64 0, .int .i64 0, .bool false, .bool false, .int .i64 0, .int .i64 0, .int .i64 0, .int .u32 0, .int .u32 0, .slice none 0 0, .slice none 0 0] 34 (0, 0))) := ⟨blk_alloc (heap_alloc_new w _) _⟩
  have HQ3 : Aside0 (((w.alloc (.cells #[.int .i64 0, .int .i64 0, .bool false, .bool false, .int .i64 0, .int .i64 0, .int .i64 0, .int .u32 0, .int .u32 0, .slice none 0 0, .slice none 0 0] 34)).alloc (.cells #[.int .i64 0] 30)).heap[w.heap.size + 1]? = some (.cells #[.int .i64 0] 30 (0, 0))) := ⟨by simpa using heap_alloc_new (w.alloc (.cells #[.int .i64 0, .int .i64 0, .bool false, .bool false, .int .i64 0, .int .i64 0, .int .i64 0, .int .u32 0, .int .u32 0, .slice none 0 0, .slice none 0 0] 34)) (.cells #[.int .i64 0] 30)⟩
  clear hr0 hc0
  unfold ip_Parse.f at h
  by_cases c1 : (l0.length : Int) > 2048
  · rw [if_pos c1] at h
    simp only [ip_Parse.zero, Option.some.injEq, Prod.mk.injEq] at h
    obtain ⟨rfl, rfl, rfl, rfl, rfl, rfl, rfl, rfl, rfl, rfl, rfl, rfl⟩ := h
    have c1b0 : decide ((l0.length : Int) > 2048) = true := decide_eq_true c1
    have c1b1 : decide (2048 < (l0.length : Int)) = true := decide_eq_true c1
    have c1b2 : decide (2048 < l0.length) = true := decide_eq_true (by omega)
    clear c1
    go_enter_defers Tryd.func13, Tryd.ntmps13
    go_wp2_with (first | (go_at_call 23; (with_reducible refine (ip_refuse.gives _ _).mono ?_); rintro e' w1 ⟨rfl, rfl⟩))
    refine ip_Parse.refused rfl rfl HP.out HQ3.out (by omega) HB.out (Nat.le_refl _) (Nat.le_succ _) ?_
    intro w' hb
    exact ⟨_, _, rfl, Kd.R_nil _ _ _ _ _, Kd.R_nil _ _ _ _ _, hb⟩
  rw [if_neg c1] at h
  have c1b0 : decide ((l0.length : Int) > 2048) = false := decide_eq_false c1
  have c1b1 : decide (2048 < (l0.length : Int)) = false := decide_eq_false c1
  have c1b2 : decide (2048 < l0.length) = false := decide_eq_false (by omega)
  by_cases c2 : (l0.length : Int) < 20
  · rw [if_pos c2] at h
    simp only [ip_Parse.zero, Option.some.injEq, Prod.mk.injEq] at h
    obtain ⟨rfl, rfl, rfl, rfl, rfl, rfl, rfl, rfl, rfl, rfl, rfl, rfl⟩ := h
    have c2b0 : decide ((l0.length : Int) < 20) = true := decide_eq_true c2
    have c2b1 : decide (l0.length < 20) = true := decide_eq_true (by omega)
    clear c2 c1
    go_enter_defers Tryd.func13, Tryd.ntmps13
    go_wp2_with (first | (go_at_call 23; (with_reducible refine (ip_refuse.pass _ _).mono ?_); rintro e' w1 ⟨rfl, rfl⟩) | (go_at_call 23; (with_reducible refine (ip_refuse.gives _ _).mono ?_); rintro e' w1 ⟨rfl, rfl⟩))
    refine ip_Parse.refused rfl rfl HP.out HQ3.out (by omega) HB.out (Nat.le_refl _) (Nat.le_succ _) ?_
    intro w' hb
    exact ⟨_, _, rfl, Kd.R_nil _ _ _ _ _, Kd.R_nil _ _ _ _ _, hb⟩
  rw [if_neg c2] at h
  have c2b0 : decide ((l0.length : Int) < 20) = false := decide_eq_false c2
  have c2b1 : decide (l0.length < 20) = false := decide_eq_false (by omega)
  by_cases cr : (0 ≤ rd l0 0 ∧ rd l0 0 ≤ 255) ∧ (0 ≤ rd l0 1 ∧ rd l0 1 ≤ 255) ∧ (0 ≤ rd l0 8 ∧ rd l0 8 ≤ 255) ∧ (0 ≤ rd l0 9 ∧ rd l0 9 ≤ 255)
  case neg => rw [if_pos cr] at h; cases h
  rw [if_neg (Classical.not_not.2 cr)] at h
  have HL := Aside0.mk (show 20 ≤ l0.length ∧ l0.length ≤ 2048 by omega)
  obtain ⟨x0, f0⟩ : ∃ x, x = rd l0 0 := ⟨_, rfl⟩
  obtain ⟨x1, f1⟩ : ∃ x, x = rd l0 1 := ⟨_, rfl⟩
  obtain ⟨x8, f8⟩ : ∃ x, x = rd l0 8 := ⟨_, rfl⟩
  obtain ⟨x9, f9⟩ : ∃ x, x = rd l0 9 := ⟨_, rfl⟩
  obtain ⟨ad, rfl, hx0⟩ := Kd.at_int HR.out 0 (by decide) (by omega)
  obtain ⟨ad', ea, hx1⟩ := Kd.at_int HR.out 1 (by decide) (by omega)
  injection ea with ea
  subst ea
  obtain ⟨ad', ea, hx8⟩ := Kd.at_int HR.out 8 (by decide) (by omega)
  injection ea with ea
  subst ea
  obtain ⟨ad', ea, hx9⟩ := Kd.at_int HR.out 9 (by decide) (by omega)
  injection ea with ea
  subst ea
  rw [← f0] at hx0
  rw [← f1] at hx1
  rw [← f8] at hx8
  rw [← f9] at hx9
  rw [← f0, ← f1, ← f8, ← f9] at cr h
  simp only [show (0 : Int).toNat = 0 from rfl, show (1 : Int).toNat = 1 from rfl, show (8 : Int).toNat = 8 from rfl, show (9 : Int).toNat = 9 from rfl, Nat.reduceEqDiff, Go.Addr.add, ↓reduceIte] at hx0 hx1 hx8 hx9
  have HX := Aside0.mk (And.intro hx1 (And.intro hx8 hx9))
  have y0 := pw_cell_below HB.out hx0
  have HCR := Aside0.mk cr
  have HF := Aside0.mk (And.intro f0 (And.intro f1 (And.intro f8 f9)))
  have ea : Go.bits .and .u8 x0 15 = x0 % 16 := by
    obtain ⟨n, rfl⟩ := Int.eq_ofNat_of_zero_le cr.1.1
    have : ∀ n : Fin 256, Go.bits .and .u8 (n.1 : Int) 15 = (n.1 : Int) % 16 := by decide
    exact this ⟨n, by omega⟩
  have e2 : wrap64 (x0 % 16) = x0 % 16 := by unfold wrap64; omega
  have b1 : (0 : Int) < (l0.length : Int) := by omega
  have b2 : 0 < l0.length := by omega
  obtain ⟨hd, ehd⟩ : ∃ x, x = x0 % 16 * 4 := ⟨_, rfl⟩
  have e1 : wrap64 (x0 % 16 * 4) = hd := by rw [ehd]; unfold wrap64; omega
  have e1' : x0 % 16 * 4 = hd := ehd.symm
  rw [← ehd] at h
  have HHD := Aside0.mk ehd
  clear cr f0 f1 f8 f9 c1 c2 ehd hx0 hx1 hx8 hx9
  by_cases c3 : x0 / 16 ≠ 4
  · rw [if_pos c3] at h
    simp only [ip_Parse.zero, Option.some.injEq, Prod.mk.injEq] at h
    obtain ⟨rfl, rfl, rfl, rfl, rfl, rfl, rfl, rfl, rfl, rfl, rfl, rfl⟩ := h
    have c3b0 : (x0 / 16 != 4) = true := bne_iff_ne.2 c3
    have c3b1 : (x0 / 16 == 4) = false := beq_eq_false_iff_ne.2 c3
    clear c3
    go_enter_defers Tryd.func13, Tryd.ntmps13
    go_wp2_with (first | (go_at_call 23; (with_reducible refine (ip_refuse.pass _ _).mono ?_); rintro e' w1 ⟨rfl, rfl⟩) | (go_at_call 23; (with_reducible refine (ip_refuse.gives _ _).mono ?_); rintro e' w1 ⟨rfl, rfl⟩))
    refine ip_Parse.refused rfl rfl HP.out HQ3.out (by omega) HB.out (Nat.le_refl _) (Nat.le_succ _) ?_
    intro w' hb
    exact ⟨_, _, rfl, Kd.R_nil _ _ _ _ _, Kd.R_nil _ _ _ _ _, hb⟩
  rw [if_neg c3] at h
  have c3b0 : (x0 / 16 != 4) = false := bne_eq_false_iff_eq.2 (Classical.not_not.1 c3)
  have c3b1 : (x0 / 16 == 4) = true := beq_iff_eq.2 (Classical.not_not.1 c3)
  clear c3
  by_cases c4 : hd < 20
  · rw [if_pos c4] at h
    simp only [ip_Parse.zero, Option.some.injEq, Prod.mk.injEq] at h
    obtain ⟨rfl, rfl, rfl, rfl, rfl, rfl, rfl, rfl, rfl, rfl, rfl, rfl⟩ := h
    have c4b0 : decide (hd < 20) = true := decide_eq_true c4
    clear c4
    go_enter_defers Tryd.func13, Tryd.ntmps13
    go_wp2_with (first | (go_at_call 23; (with_reducible refine (ip_refuse.pass _ _).mono ?_); rintro e' w1 ⟨rfl, rfl⟩) | (go_at_call 23; (with_reducible refine (ip_refuse.gives _ _).mono ?_); rintro e' w1 ⟨rfl, rfl⟩))
    refine ip_Parse.refused rfl rfl HP.out HQ3.out (by omega) HB.out (Nat.le_refl _) (Nat.le_succ _) ?_
    intro w' hb
    exact ⟨_, _, rfl, Kd.R_nil _ _ _ _ _, Kd.R_nil _ _ _ _ _, hb⟩
  rw [if_neg c4] at h
  have c4b0 : decide (hd < 20) = false := decide_eq_false c4
  have HC4 := Aside0.mk c4
  clear c4
  by_cases c5 : (l0.length : Int) < hd
  · rw [if_pos c5] at h
    simp only [ip_Parse.zero, Option.some.injEq, Prod.mk.injEq] at h
    obtain ⟨rfl, rfl, rfl, rfl, rfl, rfl, rfl, rfl, rfl, rfl, rfl, rfl⟩ := h
    have c5b0 : decide ((l0.length : Int) < hd) = true := decide_eq_true c5
    clear c5
    go_enter_defers Tryd.func13, Tryd.ntmps13
    go_wp2_with (first | (go_at_call 23; (with_reducible refine (ip_refuse.pass _ _).mono ?_); rintro e' w1 ⟨rfl, rfl⟩) | (go_at_call 23; (with_reducible refine (ip_refuse.gives _ _).mono ?_); rintro e' w1 ⟨rfl, rfl⟩))
    refine ip_Parse.refused rfl rfl HP.out HQ3.out (by omega) HB.out (Nat.le_refl _) (Nat.le_succ _) ?_
    intro w' hb
    exact ⟨_, _, rfl, Kd.R_nil _ _ _ _ _, Kd.R_nil _ _ _ _ _, hb⟩
  rw [if_neg c5] at h
  have c5b0 : decide ((l0.length : Int) < hd) = false := decide_eq_false c5
  have HC5 := Aside0.mk c5
  clear c5
  obtain ⟨tot, htot, h⟩ := Option.bind_eq_some_iff.mp h
  obtain ⟨part, hpart, h⟩ := Option.bind_eq_some_iff.mp h
  have HTOT := Aside0.mk htot
  have HPART := Aside0.mk hpart
  have tok1 : True := trivial
  have tok2 : True := trivial
  clear htot hpart
  by_cases c6 : tot < hd
  · rw [if_pos c6] at h
    simp only [ip_Parse.zero, Option.some.injEq, Prod.mk.injEq] at h
    obtain ⟨rfl, rfl, rfl, rfl, rfl, rfl, rfl, rfl, rfl, rfl, rfl, rfl⟩ := h
    have c6b0 : decide (tot < hd) = true := decide_eq_true c6
    clear c6
    go_enter_defers Tryd.func13, Tryd.ntmps13
    go_wp2_with (first | (go_at_call 23; (with_reducible refine (ip_refuse.pass _ _).mono ?_); rintro e' w1 ⟨rfl, rfl⟩) | (go_at_call 28; have tk_ := tok1; refine (ip_get.calls (some ad) c0 l0 2 2 tot _ (Kd.C_below HR.out HB.out) HC.out HTOT.out).mono ?_; rintro e' w1 ⟨rfl, hd1⟩; have hb1 := hd1.below; clear hd1 tok1 tk_; have n1 := Aside0.mk (blk_below HP.out hb1); have n2 := Aside0.mk (below_step HB.out hb1); have n3 := Aside0.mk (blk_below HQ3.out hb1); clear HP HB HQ3 hb1; have HP := n1; have HB := n2; have HQ3 := n3; clear n1 n2 n3) | (go_at_call 28; have tk_ := tok2; refine (ip_get.calls (some ad) c0 l0 6 2 part _ (Kd.C_below HR.out HB.out) HC.out HPART.out).mono ?_; rintro e' w2 ⟨rfl, hd1⟩; have hb1 := hd1.below; clear hd1 tok2 tk_; have n1 := Aside0.mk (blk_below HP.out hb1); have n2 := Aside0.mk (below_step HB.out hb1); have n3 := Aside0.mk (blk_below HQ3.out hb1); clear HP HB HQ3 hb1; have HP := n1; have HB := n2; have HQ3 := n3; clear n1 n2 n3) | (go_at_call 23; (with_reducible refine (ip_refuse.gives _ _).mono ?_); rintro e' w1 ⟨rfl, rfl⟩))
    refine ip_Parse.refused rfl rfl HP.out HQ3.out (by omega) HB.out (Nat.le_refl _) (Nat.le_succ _) ?_
    intro w' hb
    exact ⟨_, _, rfl, Kd.R_nil _ _ _ _ _, Kd.R_nil _ _ _ _ _, hb⟩
  rw [if_neg c6] at h
  have c6b0 : decide (tot < hd) = false := decide_eq_false c6
  have HC6 := Aside0.mk c6
  clear c6
  by_cases c7 : Go.bits .and .i64 part 32768 ≠ 0
  · rw [if_pos c7] at h
    simp only [ip_Parse.zero, Option.some.injEq, Prod.mk.injEq] at h
    obtain ⟨rfl, rfl, rfl, rfl, rfl, rfl, rfl, rfl, rfl, rfl, rfl, rfl⟩ := h
    have c7b0 : (Go.bits .and .i64 part 32768 != 0) = true := bne_iff_ne.2 c7
    have c7b1 : (Go.bits .and .i64 part 32768 == 0) = false := beq_eq_false_iff_ne.2 c7
    clear c7
    go_enter_defers Tryd.func13, Tryd.ntmps13
    go_wp2_with (first | (go_at_call 23; (with_reducible refine (ip_refuse.pass _ _).mono ?_); rintro e' w1 ⟨rfl, rfl⟩) | (go_at_call 28; have tk_ := tok1; refine (ip_get.calls (some ad) c0 l0 2 2 tot _ (Kd.C_below HR.out HB.out) HC.out HTOT.out).mono ?_; rintro e' w1 ⟨rfl, hd1⟩; have hb1 := hd1.below; clear hd1 tok1 tk_; have n1 := Aside0.mk (blk_below HP.out hb1); have n2 := Aside0.mk (below_step HB.out hb1); have n3 := Aside0.mk (blk_below HQ3.out hb1); clear HP HB HQ3 hb1; have HP := n1; have HB := n2; have HQ3 := n3; clear n1 n2 n3) | (go_at_call 28; have tk_ := tok2; refine (ip_get.calls (some ad) c0 l0 6 2 part _ (Kd.C_below HR.out HB.out) HC.out HPART.out).mono ?_; rintro e' w2 ⟨rfl, hd1⟩; have hb1 := hd1.below; clear hd1 tok2 tk_; have n1 := Aside0.mk (blk_below HP.out hb1); have n2 := Aside0.mk (below_step HB.out hb1); have n3 := Aside0.mk (blk_below HQ3.out hb1); clear HP HB HQ3 hb1; have HP := n1; have HB := n2; have HQ3 := n3; clear n1 n2 n3) | (go_at_call 23; (with_reducible refine (ip_refuse.gives _ _).mono ?_); rintro e' w1 ⟨rfl, rfl⟩))
    refine ip_Parse.refused rfl rfl HP.out HQ3.out (by omega) HB.out (Nat.le_refl _) (Nat.le_succ _) ?_
    intro w' hb
    exact ⟨_, _, rfl, Kd.R_nil _ _ _ _ _, Kd.R_nil _ _ _ _ _, hb⟩
  rw [if_neg c7] at h
  have c7b0 : (Go.bits .and .i64 part 32768 != 0) = false := bne_eq_false_iff_eq.2 (Classical.not_not.1 c7)
  have c7b1 : (Go.bits .and .i64 part 32768 == 0) = true := beq_iff_eq.2 (Classical.not_not.1 c7)
  clear c7
  by_cases c8 : tot > (l0.length : Int)
  · rw [if_pos c8] at h
    simp only [ip_Parse.zero, Option.some.injEq, Prod.mk.injEq] at h
    obtain ⟨rfl, rfl, rfl, rfl, rfl, rfl, rfl, rfl, rfl, rfl, rfl, rfl⟩ := h
    have c8b0 : decide ((l0.length : Int) < tot) = true := decide_eq_true c8
    clear c8
    go_enter_defers Tryd.func13, Tryd.ntmps13
    go_wp2_with (first | (go_at_call 23; (with_reducible refine (ip_refuse.pass _ _).mono ?_); rintro e' w1 ⟨rfl, rfl⟩) | (go_at_call 28; have tk_ := tok1; refine (ip_get.calls (some ad) c0 l0 2 2 tot _ (Kd.C_below HR.out HB.out) HC.out HTOT.out).mono ?_; rintro e' w1 ⟨rfl, hd1⟩; have hb1 := hd1.below; clear hd1 tok1 tk_; have n1 := Aside0.mk (blk_below HP.out hb1); have n2 := Aside0.mk (below_step HB.out hb1); have n3 := Aside0.mk (blk_below HQ3.out hb1); clear HP HB HQ3 hb1; have HP := n1; have HB := n2; have HQ3 := n3; clear n1 n2 n3) | (go_at_call 28; have tk_ := tok2; refine (ip_get.calls (some ad) c0 l0 6 2 part _ (Kd.C_below HR.out HB.out) HC.out HPART.out).mono ?_; rintro e' w2 ⟨rfl, hd1⟩; have hb1 := hd1.below; clear hd1 tok2 tk_; have n1 := Aside0.mk (blk_below HP.out hb1); have n2 := Aside0.mk (below_step HB.out hb1); have n3 := Aside0.mk (blk_below HQ3.out hb1); clear HP HB HQ3 hb1; have HP := n1; have HB := n2; have HQ3 := n3; clear n1 n2 n3) | (go_at_call 23; (with_reducible refine (ip_refuse.gives _ _).mono ?_); rintro e' w1 ⟨rfl, rfl⟩))
    refine ip_Parse.refused rfl rfl HP.out HQ3.out (by omega) HB.out (Nat.le_refl _) (Nat.le_succ _) ?_
    intro w' hb
    exact ⟨_, _, rfl, Kd.R_nil _ _ _ _ _, Kd.R_nil _ _ _ _ _, hb⟩
  rw [if_neg c8] at h
  have c8b0 : decide ((l0.length : Int) < tot) = false := decide_eq_false c8
  have HC8 := Aside0.mk c8
  clear c8
  obtain ⟨s, hs, h⟩ := Option.bind_eq_some_iff.mp h
  have hh1 := HC4.out
  have hh2 := HC5.out
  obtain ⟨iz, hin, hz, hsz, hbb⟩ := info_parts info5
  have m3 := cut_to (P := Tryd.prog) 29 5 .i64 Tryd.underlying29 hin (some ad) l0.length c0 hd (by omega) (by omega) HC.out
  have hrh := Kd.C_take (m := hd.toNat) HR.out (by omega)
  obtain ⟨ysh, hysh⟩ : ∃ y, y = l0.take hd.toNat := ⟨_, rfl⟩
  rw [← hysh] at hs hrh
  have kh : hd.toNat = ysh.length := by rw [hysh]; simp; omega
  rw [kh] at m3
  have HRH := Aside0.mk hrh
  have HCH : Aside0 (ysh.length ≤ c0) := ⟨by rw [← kh]; have := HC.out; omega⟩
  have HS := Aside0.mk hs
  clear hh1 hh2 hrh hs hysh kh hin hz hsz hbb
  by_cases c9 : s ≠ 65535
  · rw [if_pos c9] at h
    simp only [ip_Parse.zero, Option.some.injEq, Prod.mk.injEq] at h
    obtain ⟨rfl, rfl, rfl, rfl, rfl, rfl, rfl, rfl, rfl, rfl, rfl, rfl⟩ := h
    have c9b0 : (s != 65535) = true := bne_iff_ne.2 c9
    have c9b1 : (s == 65535) = false := beq_eq_false_iff_ne.2 c9
    clear c9
    go_enter_defers Tryd.func13, Tryd.ntmps13
    go_wp2_with (first | (go_at_call 23; (with_reducible refine (ip_refuse.pass _ _).mono ?_); rintro e' w1 ⟨rfl, rfl⟩) | (go_at_call 28; have tk_ := tok1; refine (ip_get.calls (some ad) c0 l0 2 2 tot _ (Kd.C_below HR.out HB.out) HC.out HTOT.out).mono ?_; rintro e' w1 ⟨rfl, hd1⟩; have hb1 := hd1.below; clear hd1 tok1 tk_; have n1 := Aside0.mk (blk_below HP.out hb1); have n2 := Aside0.mk (below_step HB.out hb1); have n3 := Aside0.mk (blk_below HQ3.out hb1); clear HP HB HQ3 hb1; have HP := n1; have HB := n2; have HQ3 := n3; clear n1 n2 n3) | (go_at_call 28; have tk_ := tok2; refine (ip_get.calls (some ad) c0 l0 6 2 part _ (Kd.C_below HR.out HB.out) HC.out HPART.out).mono ?_; rintro e' w2 ⟨rfl, hd1⟩; have hb1 := hd1.below; clear hd1 tok2 tk_; have n1 := Aside0.mk (blk_below HP.out hb1); have n2 := Aside0.mk (below_step HB.out hb1); have n3 := Aside0.mk (blk_below HQ3.out hb1); clear HP HB HQ3 hb1; have HP := n1; have HB := n2; have HQ3 := n3; clear n1 n2 n3) | (go_at_call 29; refine (octet_Sum.calls (some ⟨w2.heap.size, 0, none⟩) 1 [ysh] s _ (C_one (heap_alloc_new w2 _) HCH.out (Kd.C_alloc (Kd.C_below HRH.out HB.out) _)) (Nat.le_refl 1) HS.out).mono ?_; rintro e' w3 ⟨rfl, hb1⟩; have n1 := Aside0.mk (blk_below (blk_alloc HP.out _) hb1); have n2 := Aside0.mk (below_step (below_alloc HB.out _) hb1); have n3 := Aside0.mk (blk_below (blk_alloc HQ3.out _) hb1); clear HP HB HQ3 hb1; have HP := n1; have HB := n2; have HQ3 := n3; clear n1 n2 n3) | (go_at_call 23; (with_reducible refine (ip_refuse.gives _ _).mono ?_); rintro e' w1 ⟨rfl, rfl⟩))
    refine ip_Parse.refused rfl rfl HP.out HQ3.out (by omega) HB.out (Nat.le_refl _) (Nat.le_succ _) ?_
    intro w' hb
    exact ⟨_, _, rfl, Kd.R_nil _ _ _ _ _, Kd.R_nil _ _ _ _ _, hb⟩
  rw [if_neg c9] at h
  have c9b0 : (s != 65535) = false := bne_eq_false_iff_eq.2 (Classical.not_not.1 c9)
  have c9b1 : (s == 65535) = true := beq_iff_eq.2 (Classical.not_not.1 c9)
  clear c9
  obtain ⟨id, hid, h⟩ := Option.bind_eq_some_iff.mp h
  obtain ⟨src, hsrc, h⟩ := Option.bind_eq_some_iff.mp h
  obtain ⟨dst, hdst, h⟩ := Option.bind_eq_some_iff.mp h
  simp only [Option.some.injEq, Prod.mk.injEq] at h
  have HG := Aside0.mk (And.intro hid (And.intro hsrc hdst))
  have HRS := Aside0.mk h
  clear hid hsrc hdst h
  go_enter_defers Tryd.func13, Tryd.ntmps13
  go_wp2_with (first | (go_at_call 23; (with_reducible refine (ip_refuse.pass _ _).mono ?_); rintro e' w1 ⟨rfl, rfl⟩) | (go_at_call 28; have tk_ := tok1; refine (ip_get.calls (some ad) c0 l0 2 2 tot _ (Kd.C_below HR.out HB.out) HC.out HTOT.out).mono ?_; rintro e' w1 ⟨rfl, hd1⟩; have hb1 := hd1.below; clear hd1 tok1 tk_; have n1 := Aside0.mk (blk_below HP.out hb1); have n2 := Aside0.mk (below_step HB.out hb1); have n3 := Aside0.mk (blk_below HQ3.out hb1); clear HP HB HQ3 hb1; have HP := n1; have HB := n2; have HQ3 := n3; clear n1 n2 n3) | (go_at_call 28; have tk_ := tok2; refine (ip_get.calls (some ad) c0 l0 6 2 part _ (Kd.C_below HR.out HB.out) HC.out HPART.out).mono ?_; rintro e' w2 ⟨rfl, hd1⟩; have hb1 := hd1.below; clear hd1 tok2 tk_; have n1 := Aside0.mk (blk_below HP.out hb1); have n2 := Aside0.mk (below_step HB.out hb1); have n3 := Aside0.mk (blk_below HQ3.out hb1); clear HP HB HQ3 hb1; have HP := n1; have HB := n2; have HQ3 := n3; clear n1 n2 n3) | (go_at_call 29; refine (octet_Sum.calls (some ⟨w2.heap.size, 0, none⟩) 1 [ysh] s _ (C_one (heap_alloc_new w2 _) HCH.out (Kd.C_alloc (Kd.C_below HRH.out HB.out) _)) (Nat.le_refl 1) HS.out).mono ?_; rintro e' w3 ⟨rfl, hb1⟩; have n1 := Aside0.mk (blk_below (blk_alloc HP.out _) hb1); have n2 := Aside0.mk (below_step (below_alloc HB.out _) hb1); have n3 := Aside0.mk (blk_below (blk_alloc HQ3.out _) hb1); clear HP HB HQ3 hb1; have HP := n1; have HB := n2; have HQ3 := n3; clear n1 n2 n3))
  refine ip_Parse.r11 (w0 := w) x1 x8 x9 id src dst HP.out HQ3.out (Nat.le_refl _) (Nat.le_succ _) (by omega) HR.out HC.out HB.out (by have := HL.out; omega) (by have := HC4.out; omega) (by have := HC6.out; omega) (by have := HC8.out; omega) HX.out.1 HX.out.2.1 HX.out.2.2 HCR.out.2.1 HCR.out.2.2.1 HCR.out.2.2.2 HG.out.1 HG.out.2.1 HG.out.2.2 ?_
  intro y62 y63 y64 y65 y66 y67 y68 y69 y70 y71 y72 y73 y74 y75 y76 y77 y78 y79 y80 y81 y82 y83 y84 y85 y86 y87 y88 y89 y90 y91 y92 y93 y94 y95 y96 y97 y98 y99 v9 v10 w4 hq4 hp4 h9 h10 hnn hb
  obtain ⟨ys9, hys9⟩ : ∃ y, y = (l0.take hd.toNat).drop 20 := ⟨_, rfl⟩
  obtain ⟨ys10, hys10⟩ : ∃ y, y = (l0.take tot.toNat).drop hd.toNat := ⟨_, rfl⟩
  have HY := Aside0.mk (And.intro hys9 hys10)
  rw [← hys9] at h9
  rw [← hys10] at h10
  clear hys9 hys10
  have HP4 := Aside0.mk hp4
  have HQ4 := Aside0.mk hq4
  have HO9 := Aside0.mk h9
  have HO10 := Aside0.mk h10
  have HNN := Aside0.mk hnn
  have HB4 := Aside0.mk hb
  clear hp4 hq4 h9 h10 hnn hb HP HQ3 HB
  go_wp2
  refine leaves_cons (f := 27) (args := #[.pointer (some ⟨w.heap.size, 0, none⟩), .pointer (some ⟨w.heap.size + 1, 0, none⟩)]) (by simp) (by simp [go_sem]) ?_
  refine (ip_Parse.idle w.heap.size (w.heap.size + 1) _).mono ?_
  rintro e' u' w5 ⟨rfl, rfl, rfl⟩
  obtain ⟨rfl, rfl, rfl, rfl, rfl, rfl, rfl, q7, q8, q9, q10, rfl⟩ := HRS.out
  subst q7 q8
  have q9' : ys9 = r9 := by rw [HY.out.1]; exact q9
  have q10' : ys10 = r10 := by rw [HY.out.2]; exact q10
  subst q9' q10'
  refine ⟨_, results_cs rfl _ _ w.heap.size (w.heap.size + 1) 34 30 _ (.int .i64 0) (0, 0) (0, 0) _ rfl HP4.out Tryd.underlying34 rfl rfl rfl HQ4.out (fun w h => errno_load _ _ w h), ?_⟩
  refine ⟨_, _, rfl, ?_, ?_, HB4.out⟩
  · exact Kd.R_of_own (Kd.own_of_R HO9.out) (fun k hk hk' => HNN.out k hk hk'.symm)
  · exact Kd.R_of_own (Kd.own_of_R HO10.out) (fun k hk hk' => HNN.out k hk'.symm hk)

end Go.Proofs.YthnhpbplglmmmaaDoor.P
