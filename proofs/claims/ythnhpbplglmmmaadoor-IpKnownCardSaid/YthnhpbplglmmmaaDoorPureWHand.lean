/- Words for walks by hand: a region taken out of a function's text, appends, literals of slices, structs stored whole. No statement of its own. -/
import Derived.Test.YthnhpbplglmmmaaDoorP0
namespace Go.Proofs.YthnhpbplglmmmaaDoor.P
open Go.RowKit Go.Proofs.YthnhpbplglmmmaaDoorW.PrintWords Go.Proofs.YthnhpbplglmmmaaDoorW.PrintLast Go.Proofs.YthnhpbplglmmmaaDoorW.PrintMore
set_option linter.unusedVariables false
set_option linter.unusedSimpArgs false
def regionOf (n : Nat) : Code → Option Code
  | .region m ops b => if m = n then some (.region m ops b) else none
  | .loop c => regionOf n c
  | .seq a b => match regionOf n a with
    | some c => some c
    | none => regionOf n b
  | .block _ c => regionOf n c
  | .scope c => regionOf n c
  | .cond _ a b => match regionOf n a with
    | some c => some c
    | none => regionOf n b
  | _ => none
def regionIn (n : Nat) (f : Func) : Code := (f.body.bind (regionOf n)).getD .skip
/-- Many bytes appended to nothing. -/
theorem fresh_step {ops : Array Oper} {o : Oper} {a : Act} {W w0 : World} {K : Act → World → Prop} {Q : Exit → Act → World → Prop} {E : Prop} (hgd : o.guard = none) (x : Operand) (ho : o.op = .call { callee := .builtin .append, args := #[.const (.slice none 0 0), x], argTypes := #[29, 29] })
    {ys : List Int} {A : Option Addr} {c : Nat} (hx : a.eval x = .slice A ys.length c)
    (HR : Kd.C (Kd.int .u8) W A ys.length ys) (HB : Below w0.heap.size w0 W) (hl : ys.length ≤ 2000000)
    (hK : ∀ v1 w1, Kd.R (Kd.int .u8) 5 w1 w0.heap.size (fun _ => True) v1 ys → Below W.heap.size W w1 → (∀ k, v1.ownBlock = some k → W.heap.size ≤ k) → K (a.put o.dst v1) w1) :
    if Region.wanted o (yielded ops a.tmps) = true then Oper.wp Tryd.prog o a W K Q else E := by
  have hw : Region.wanted o (yielded ops a.tmps) = true := by simp [Region.wanted, hgd]
  rw [if_pos hw]
  have h := Kd.R_append_rows_step (P := Tryd.prog) (W := W) (ops := ops) (o := o) (a := a) (Q := Q) (Kc := K) (Kd.int .u8) (w0 := W) W.heap.size hw (.const (.slice none 0 0)) x 29 5 (.int .u8 0) 1 ho Tryd.underlying29 info5 rfl (by decide) (by omega) (.slice none 0 0) [] ys A ys.length c (fun _ => True) (fun _ => False) rfl hx (Kd.R_nil _ _ _ _ _) HR (fun _ _ h => h) (fun _ h => h.elim) (fun _ _ => trivial) (Below.refl _ _) (Nat.le_refl _) (by simp; omega) (fun v1 w1 ho hb hg hat => hK v1 w1 (Kd.R_lower ho HB.size) hb (fun k hk => by
    rcases hat with h | ⟨b, h, hle⟩
    · rw [h] at hk; simp [Value.ownBlock] at hk
    · rw [h] at hk; injection hk with hk; omega))
  rw [if_pos hw] at h
  exact h
theorem nine_set {w : World} {g t : Nat} {u0 u1 u2 u3 u4 u5 u6 u7 u8 v0 v1 v2 v3 v4 v5 v6 v7 v8 : Value} (h : w.heap[g]? = some (.cells #[u0, u1, u2, u3, u4, u5, u6, u7, u8] t (0, 0))) :
    (((((((((w.setCell ⟨g, 0, none⟩ v0).setCell ⟨g, 1, none⟩ v1).setCell ⟨g, 2, none⟩ v2).setCell ⟨g, 3, none⟩ v3).setCell ⟨g, 4, none⟩ v4).setCell ⟨g, 5, none⟩ v5).setCell ⟨g, 6, none⟩ v6).setCell ⟨g, 7, none⟩ v7).setCell ⟨g, 8, none⟩ v8).heap[g]? = some (.cells #[v0, v1, v2, v3, v4, v5, v6, v7, v8] t (0, 0)) :=
  by
    have h0 := blk_put (cs' := #[v0, u1, u2, u3, u4, u5, u6, u7, u8]) h 0 v0 rfl
    have h1 := blk_put (cs' := #[v0, v1, u2, u3, u4, u5, u6, u7, u8]) h0 1 v1 rfl
    have h2 := blk_put (cs' := #[v0, v1, v2, u3, u4, u5, u6, u7, u8]) h1 2 v2 rfl
    have h3 := blk_put (cs' := #[v0, v1, v2, v3, u4, u5, u6, u7, u8]) h2 3 v3 rfl
    have h4 := blk_put (cs' := #[v0, v1, v2, v3, v4, u5, u6, u7, u8]) h3 4 v4 rfl
    have h5 := blk_put (cs' := #[v0, v1, v2, v3, v4, v5, u6, u7, u8]) h4 5 v5 rfl
    have h6 := blk_put (cs' := #[v0, v1, v2, v3, v4, v5, v6, u7, u8]) h5 6 v6 rfl
    have h7 := blk_put (cs' := #[v0, v1, v2, v3, v4, v5, v6, v7, u8]) h6 7 v7 rfl
    have h8 := blk_put (cs' := #[v0, v1, v2, v3, v4, v5, v6, v7, v8]) h7 8 v8 rfl
    exact h8
theorem nine_far {w : World} {g : Nat} {v0 v1 v2 v3 v4 v5 v6 v7 v8 : Value} (k : Nat) (hk : k ≠ g) :
    (((((((((w.setCell ⟨g, 0, none⟩ v0).setCell ⟨g, 1, none⟩ v1).setCell ⟨g, 2, none⟩ v2).setCell ⟨g, 3, none⟩ v3).setCell ⟨g, 4, none⟩ v4).setCell ⟨g, 5, none⟩ v5).setCell ⟨g, 6, none⟩ v6).setCell ⟨g, 7, none⟩ v7).setCell ⟨g, 8, none⟩ v8).heap[k]? = w.heap[k]? := by
  iterate 9 rw [Below.heap_setCell _ _ _ k hk]
/-- Many bytes appended to a row of one's own. -/
theorem rows_step {ops : Array Oper} {o : Oper} {a : Act} {W w0 : World} {K : Act → World → Prop} {Q : Exit → Act → World → Prop} {E : Prop} (hgd : o.guard = none) (s x : Operand) (ho : o.op = .call { callee := .builtin .append, args := #[s, x], argTypes := #[29, 29] })
    {v : Value} {xs ys : List Int} {A : Option Addr} {c : Nat} (hs : a.eval s = v) (hx : a.eval x = .slice A ys.length c)
    (HO : Kd.R (Kd.int .u8) 5 W w0.heap.size (fun _ => True) v xs) (HR : Kd.C (Kd.int .u8) W A ys.length ys) (HB : Below w0.heap.size w0 W) (hl : xs.length + ys.length ≤ 2000000)
    (hK : ∀ v1 w1, Kd.R (Kd.int .u8) 5 w1 w0.heap.size (fun _ => True) v1 (xs ++ ys) → Below w0.heap.size w0 w1 → W.grownBy w1 v.ownBlock → K (a.put o.dst v1) w1) :
    if Region.wanted o (yielded ops a.tmps) = true then Oper.wp Tryd.prog o a W K Q else E := by
  have hw : Region.wanted o (yielded ops a.tmps) = true := by simp [Region.wanted, hgd]
  rw [if_pos hw]
  have h := Kd.R_append_rows_step (P := Tryd.prog) (W := W) (ops := ops) (o := o) (a := a) (Q := Q) (Kc := K) (Kd.int .u8) (w0 := w0) w0.heap.size hw s x 29 5 (.int .u8 0) 1 ho Tryd.underlying29 info5 rfl (by decide) (by omega) v xs ys A ys.length c (fun _ => True) (fun _ => False) hs hx HO HR (fun _ _ h => h) (fun _ h => h.elim) (fun _ _ => trivial) HB (below_size HB) (by omega) (fun v1 w1 ho hb hg _ => hK v1 w1 ho hb hg)
  rw [if_pos hw] at h
  exact h
theorem C_two {W : World} {g t e : Nat} {A B : Option Addr} {c d : Nat} {l m : List Int} (h : W.heap[g]? = some (.cells #[.slice A l.length c, .slice B m.length d] t (0, 0))) (hc : l.length ≤ c) (hd : m.length ≤ d) (hr : Kd.C (Kd.int .u8) W A l.length l) (hs : Kd.C (Kd.int .u8) W B m.length m) : Kd.C (Kd.slice e (Kd.int .u8)) W (some ⟨g, 0, none⟩) [l, m].length [l, m] := by
  refine ⟨rfl, by simp, fun _ => ⟨⟨g, 0, none⟩, rfl, fun j p hj => ?_⟩⟩
  match j, hj with
  | 0, hj =>
    simp at hj
    subst hj
    refine ⟨[.slice A l.length c], rfl, ⟨A, c, rfl, hc, hr⟩, fun i u hu => ?_⟩
    match i, hu with
    | 0, hu =>
      simp at hu
      subst hu
      have := blk_cell h 0
      simpa [Addr.add] using this
  | 1, hj =>
    simp at hj
    subst hj
    refine ⟨[.slice B m.length d], rfl, ⟨B, d, rfl, hd, hs⟩, fun i u hu => ?_⟩
    match i, hu with
    | 0, hu =>
      simp at hu
      subst hu
      have := blk_cell h 1
      simpa [Addr.add, Kd.slice] using this
theorem eleven_set {w : World} {g t : Nat} {u0 u1 u2 u3 u4 u5 u6 u7 u8 u9 u10 v0 v1 v2 v3 v4 v5 v6 v7 v8 v9 v10 : Value} (h : w.heap[g]? = some (.cells #[u0, u1, u2, u3, u4, u5, u6, u7, u8, u9, u10] t (0, 0))) :
    (((((((((((w.setCell ⟨g, 0, none⟩ (v0)).setCell ⟨g, 1, none⟩ (v1)).setCell ⟨g, 2, none⟩ (v2)).setCell ⟨g, 3, none⟩ (v3)).setCell ⟨g, 4, none⟩ (v4)).setCell ⟨g, 5, none⟩ (v5)).setCell ⟨g, 6, none⟩ (v6)).setCell ⟨g, 7, none⟩ (v7)).setCell ⟨g, 8, none⟩ (v8)).setCell ⟨g, 9, none⟩ (v9)).setCell ⟨g, 10, none⟩ (v10)).heap[g]? = some (.cells #[v0, v1, v2, v3, v4, v5, v6, v7, v8, v9, v10] t (0, 0)) := by
  have h0 := blk_put (cs' := #[v0, u1, u2, u3, u4, u5, u6, u7, u8, u9, u10]) h 0 v0 rfl
  have h1 := blk_put (cs' := #[v0, v1, u2, u3, u4, u5, u6, u7, u8, u9, u10]) h0 1 v1 rfl
  have h2 := blk_put (cs' := #[v0, v1, v2, u3, u4, u5, u6, u7, u8, u9, u10]) h1 2 v2 rfl
  have h3 := blk_put (cs' := #[v0, v1, v2, v3, u4, u5, u6, u7, u8, u9, u10]) h2 3 v3 rfl
  have h4 := blk_put (cs' := #[v0, v1, v2, v3, v4, u5, u6, u7, u8, u9, u10]) h3 4 v4 rfl
  have h5 := blk_put (cs' := #[v0, v1, v2, v3, v4, v5, u6, u7, u8, u9, u10]) h4 5 v5 rfl
  have h6 := blk_put (cs' := #[v0, v1, v2, v3, v4, v5, v6, u7, u8, u9, u10]) h5 6 v6 rfl
  have h7 := blk_put (cs' := #[v0, v1, v2, v3, v4, v5, v6, v7, u8, u9, u10]) h6 7 v7 rfl
  have h8 := blk_put (cs' := #[v0, v1, v2, v3, v4, v5, v6, v7, v8, u9, u10]) h7 8 v8 rfl
  have h9 := blk_put (cs' := #[v0, v1, v2, v3, v4, v5, v6, v7, v8, v9, u10]) h8 9 v9 rfl
  have h10 := blk_put (cs' := #[v0, v1, v2, v3, v4, v5, v6, v7, v8, v9, v10]) h9 10 v10 rfl
  exact h10
theorem eleven_far {w : World} {g : Nat} {v0 v1 v2 v3 v4 v5 v6 v7 v8 v9 v10 : Value} (k : Nat) (hk : k ≠ g) : (((((((((((w.setCell ⟨g, 0, none⟩ (v0)).setCell ⟨g, 1, none⟩ (v1)).setCell ⟨g, 2, none⟩ (v2)).setCell ⟨g, 3, none⟩ (v3)).setCell ⟨g, 4, none⟩ (v4)).setCell ⟨g, 5, none⟩ (v5)).setCell ⟨g, 6, none⟩ (v6)).setCell ⟨g, 7, none⟩ (v7)).setCell ⟨g, 8, none⟩ (v8)).setCell ⟨g, 9, none⟩ (v9)).setCell ⟨g, 10, none⟩ (v10)).heap[k]? = w.heap[k]? := by
  iterate 11 rw [Below.heap_setCell _ _ _ k hk]
theorem eleven_below {w0 w : World} {g : Nat} {v0 v1 v2 v3 v4 v5 v6 v7 v8 v9 v10 : Value} (h : Below w0.heap.size w0 w) (hg : w0.heap.size ≤ g) : Below w0.heap.size w0 (((((((((((w.setCell ⟨g, 0, none⟩ (v0)).setCell ⟨g, 1, none⟩ (v1)).setCell ⟨g, 2, none⟩ (v2)).setCell ⟨g, 3, none⟩ (v3)).setCell ⟨g, 4, none⟩ (v4)).setCell ⟨g, 5, none⟩ (v5)).setCell ⟨g, 6, none⟩ (v6)).setCell ⟨g, 7, none⟩ (v7)).setCell ⟨g, 8, none⟩ (v8)).setCell ⟨g, 9, none⟩ (v9)).setCell ⟨g, 10, none⟩ (v10)) := by
  iterate 11 refine below_set ?_ hg
  exact h
theorem C_one {W : World} {g t e : Nat} {A : Option Addr} {c : Nat} {l : List Int} (h : W.heap[g]? = some (.cells #[.slice A l.length c] t (0, 0))) (hc : l.length ≤ c) (hr : Kd.C (Kd.int .u8) W A l.length l) : Kd.C (Kd.slice e (Kd.int .u8)) W (some ⟨g, 0, none⟩) [l].length [l] := by
  refine ⟨rfl, by simp, fun _ => ⟨⟨g, 0, none⟩, rfl, fun j p hj => ?_⟩⟩
  match j, hj with
  | 0, hj =>
    simp at hj
    subst hj
    refine ⟨[.slice A l.length c], rfl, ⟨A, c, rfl, hc, hr⟩, fun i u hu => ?_⟩
    match i, hu with
    | 0, hu =>
      simp at hu
      subst hu
      have := blk_cell h 0
      simpa [Addr.add] using this
/-- Two results that lie in memory: a struct, a number. -/
theorem results_cs {P : Program} {fn : Func} {p p' : Tmp} {ty ty' : TypeId} (h : fn.results = #[.cell p ty, .cell p' ty']) (tmps : Array Value) (w : World) (g g' : Nat) (t t' : TypeId) (cs : Array Value) (x : Value) (fr fr' : Nat × Nat) (d : TypeDesc)
    (hp : tmps.getD p undef = .pointer (some ⟨g, 0, none⟩)) (hg : w.heap[g]? = some (.cells cs t fr))
    (hu : P.underlying ty = some d) (hd : (match d with | .struct _ | .array _ _ => true | _ => false) = true) (hi : (P.info? ty).map (·.size) = some cs.size)
    (hp' : tmps.getD p' undef = .pointer (some ⟨g', 0, none⟩)) (hg' : w.heap[g']? = some (.cells #[x] t' fr'))
    (hr : ∀ w : World, w.cell? ⟨g', 0, none⟩ = some x → (loadVar ty' ⟨g', 0, none⟩).run P w = .ok x w) :
    (results fn tmps).run P w = .ok (.tuple #[.agg cs, x]) w := by
  have h1 : tmps[p]?.getD undef = .pointer (some ⟨g, 0, none⟩) := by simpa using hp
  have h2 : tmps[p']?.getD undef = .pointer (some ⟨g', 0, none⟩) := by simpa using hp'
  have h3 := hr w (cell_of_row w g' 0 #[x] t' fr' hg')
  simp [results, h, h1, h2, asAddr, run_loadVar_row w g t ty cs fr d hg hu hd hi, h3]
theorem rd_getD0 (l : List Int) (i : Nat) : rd l (i : Int) = l.getD i 0 := by unfold rd; rw [Int.toNat_natCast]
theorem kept_blk {w w' : World} {g h : Nat} {o : Obj} (hk : Kept w w' (fun k => k = h)) (hb : w.heap[g]? = some o) (hne : g ≠ h) : w'.heap[g]? = some o := (hk.2 g (blk_lt hb) hne).trans hb
/-- Cells laid in line into a row of one's own. -/
theorem R_setCells {e base g n cap : Nat} {ok : Nat → Prop} (ys : List Int) : ∀ (W : World) (xs : List Int) (i : Nat), i + ys.length ≤ xs.length → Kd.R (Kd.int .u8) e W base ok (.slice (some ⟨g, 0, none⟩) n cap) xs →
    Kd.R (Kd.int .u8) e (W.setCells g i (ys.map (Value.int .u8))) base ok (.slice (some ⟨g, 0, none⟩) n cap) (xs.take i ++ ys ++ xs.drop (i + ys.length)) ∧ W.grownBy (W.setCells g i (ys.map (Value.int .u8))) (some g) := by
  induction ys with
  | nil =>
    intro W xs i h ho
    refine ⟨?_, World.grownBy.refl W _⟩
    show Kd.R (Kd.int .u8) e W base ok (.slice (some ⟨g, 0, none⟩) n cap) (xs.take i ++ [] ++ xs.drop (i + ([] : List Int).length))
    simpa using ho
  | cons y ys ih =>
    intro W xs i h ho
    simp only [List.length_cons] at h
    have h1 := Kd.R_putg ho (i : Int) y
    simp only [Int.toNat_natCast] at h1
    have h2 := ih _ (xs.set i y) (i + 1) (by rw [List.length_set]; omega) h1.1
    refine ⟨?_, h1.2.trans h2.2⟩
    have e1 : (xs.set i y).take (i + 1) ++ ys ++ (xs.set i y).drop (i + 1 + ys.length) = xs.take i ++ (y :: ys) ++ xs.drop (i + (y :: ys).length) := by
      rw [List.drop_set_of_lt (by omega), List.take_succ_eq_append_getElem (by rw [List.length_set]; omega), List.take_set_of_le (Nat.le_refl i), List.getElem_set_self]
      simp [Nat.add_assoc, Nat.add_comm 1]
    rw [← e1]
    exact h2.1
/-- Many bytes appended, in a region whose order is the text's. -/
theorem rows_list {ops : Array Oper} {rest : List Oper} {o : Oper} {a : Act} {W w0 : World} {Q : Exit → Act → World → Prop} (hgd : o.guard = none) (s x : Operand) (ho : o.op = .call { callee := .builtin .append, args := #[s, x], argTypes := #[29, 29] })
    {v : Value} {xs ys : List Int} {A : Option Addr} {c : Nat} (hs : a.eval s = v) (hx : a.eval x = .slice A ys.length c)
    (HO : Kd.R (Kd.int .u8) 5 W w0.heap.size (fun _ => True) v xs) (HR : Kd.C (Kd.int .u8) W A ys.length ys) (HB : Below w0.heap.size w0 W) (hl : xs.length + ys.length ≤ 2000000)
    (hK : ∀ v1 w1, Kd.R (Kd.int .u8) 5 w1 w0.heap.size (fun _ => True) v1 (xs ++ ys) → Below w0.heap.size w0 w1 → W.grownBy w1 v.ownBlock → wpList Tryd.prog ops Q rest (a.put o.dst v1) w1) : wpList Tryd.prog ops Q (o :: rest) a W := by
  refine wpList_plain hgd fun K hKK => ?_
  have h := rows_step (w0 := w0) (ops := ops) (o := o) (a := a) (W := W) (K := K) (Q := Q) (E := True) hgd s x ho hs hx HO HR HB hl (fun v1 w1 h1 h2 h3 => hKK _ _ (hK v1 w1 h1 h2 h3))
  rwa [if_pos (by simp [Region.wanted, hgd])] at h
theorem results_ss {P : Program} {fn : Func} {p p' : Tmp} {ty ty' : TypeId} (h : fn.results = #[.cell p ty, .cell p' ty']) (tmps : Array Value) (w : World) (g g' : Nat) (t t' : TypeId) (x x' : Value) (fr fr' : Nat × Nat)
    (hp : tmps.getD p undef = .pointer (some ⟨g, 0, none⟩)) (hg : w.heap[g]? = some (.cells #[x] t fr)) (hp' : tmps.getD p' undef = .pointer (some ⟨g', 0, none⟩)) (hg' : w.heap[g']? = some (.cells #[x'] t' fr'))
    (hr : ∀ w : World, w.cell? ⟨g, 0, none⟩ = some x → (loadVar ty ⟨g, 0, none⟩).run P w = .ok x w) (hr' : ∀ w : World, w.cell? ⟨g', 0, none⟩ = some x' → (loadVar ty' ⟨g', 0, none⟩).run P w = .ok x' w) :
    (results fn tmps).run P w = .ok (.tuple #[x, x']) w := by
  have h1 : tmps[p]?.getD undef = .pointer (some ⟨g, 0, none⟩) := by simpa using hp
  have h2 : tmps[p']?.getD undef = .pointer (some ⟨g', 0, none⟩) := by simpa using hp'
  have h3 := hr w (cell_of_row w g 0 #[x] t fr hg)
  have h4 := hr' w (cell_of_row w g' 0 #[x'] t' fr' hg')
  simp [results, h, h1, h2, asAddr, h3, h4]
theorem bytes_load (g : Nat) (x : Value) (w : World) (h : w.cell? ⟨g, 0, none⟩ = some x) : (loadVar 29 ⟨g, 0, none⟩).run Tryd.prog w = .ok x w := by
  simp [go_sem, h]
end Go.Proofs.YthnhpbplglmmmaaDoor.P
