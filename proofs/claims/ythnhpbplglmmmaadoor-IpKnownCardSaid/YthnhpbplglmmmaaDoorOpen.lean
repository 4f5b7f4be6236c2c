/- How a law's arguments, read as data, are told in the words of the walk: one lemma a kind of type, put together type by type. No condition. -/
import Derived.Deep.Slices
import Derived.ChangeSame
import Derived.SizedLaws
import Derived.Test.YthnhpbplglmmmaaDoorWAll
namespace Go.Proofs.YthnhpbplglmmmaaDoor.Opn
open Go.ChangeShapes Go.WideShapes Go.RowKit Go.Deep Go.Proofs.YthnhpbplglmmmaaDoorW.PrintWords
variable {P : Program}
/-- What can be read at type t is of this kind, and B holds of it. -/
def Opens (P : Program) (t : TypeId) {α : Type} (k : Kd α) (B : α → Prop) : Prop :=
  ∀ {H : Type} (enc : TypeId × Value → H) (W : World) (fuel : Nat) (cs : List Value) (x : DataW H × List MemPlace),
    DataW.trod enc P W 0 (fun _ => true) true fuel t cs = some x → (∀ n ∈ DataW.weights P t x.1, n ≤ reachBytes) → ∃ a, k.K W a cs ∧ B a
theorem opens_int {t : TypeId} {q : IntKind} (ht : P.underlying t = some (.int q)) : Opens P t (Kd.int q) (fun n => (Lit.int q n).wf = true) := by
  intro H enc W fuel cs x h _
  obtain ⟨n, rfl, rfl, hw⟩ := DataW.trod_int ht h
  exact ⟨n, rfl, hw⟩
theorem opens_bool {t : TypeId} (ht : P.underlying t = some .bool) : Opens P t Kd.bool (fun _ => True) := by
  intro H enc W fuel cs x h _
  obtain ⟨n, rfl, rfl⟩ := DataW.trod_bool ht h
  exact ⟨n, rfl, trivial⟩
theorem opens_string {t : TypeId} (ht : P.underlying t = some .string) : Opens P t Kd.string (fun s => s.size ≤ 140737488351232) := by
  intro H enc W fuel cs x h hw
  obtain ⟨s, rfl, rfl, _⟩ := DataW.trod_string ht h
  refine ⟨s, rfl, ?_⟩
  have := hw s.data.toList.length (by simp [DataW.weights])
  unfold reachBytes at this
  simpa using this
theorem choose_list {α : Type} {p : Nat → α → Prop} : ∀ (n : Nat), (∀ i, i < n → ∃ a, p i a) → ∃ l : List α, l.length = n ∧ ∀ i a, l[i]? = some a → p i a
  | 0, _ => ⟨[], rfl, fun i a h => by simp at h⟩
  | n + 1, h => by
    obtain ⟨l, hl, hp⟩ := choose_list n (fun i hi => h i (by omega))
    obtain ⟨a, ha⟩ := h n (by omega)
    refine ⟨l ++ [a], by simp [hl], fun i b hb => ?_⟩
    by_cases hi : i < l.length
    · rw [List.getElem?_append_left hi] at hb
      exact hp i b hb
    · rw [List.getElem?_append_right (by omega)] at hb
      have hi2 : i - l.length = 0 := by
        by_cases hz : i - l.length = 0
        · exact hz
        · rw [List.getElem?_eq_none (by simp; omega)] at hb
          simp at hb
      rw [hi2] at hb
      simp at hb
      subst hb
      have : i = n := by omega
      rw [this]; exact ha
theorem weights_mem {H : Type} {e : TypeId} {D : Nat → DataW H} {len i n : Nat} (hi : i < len) (hn : n ∈ DataW.weights P e (D i)) : n ∈ DataW.weightsAll P e ((List.range len).map D) := by
  have : ∀ l : List Nat, i ∈ l → n ∈ DataW.weightsAll P e (l.map D) := by
    intro l
    induction l with
    | nil => intro h; simp at h
    | cons j l ih =>
      intro h
      simp only [List.map_cons, DataW.weightsAll, List.mem_append]
      rcases List.mem_cons.1 h with rfl | h
      · exact .inl hn
      · exact .inr (ih h)
  exact this _ (List.mem_range.2 hi)
theorem opens_slice {t e : TypeId} {α : Type} {k : Kd α} {B : α → Prop} {b : Nat} (ht : P.underlying t = some (.slice e)) (hk : Opens P e k B) (hsz : k.sz = P.cellsOf e) (hb : P.bytesOf e = b) :
    Opens P t (Kd.slice e k) (fun l => l.length ≤ maxLen ∧ l.length * b ≤ 140737488351232 ∧ ∀ a ∈ l, B a) := by
  intro H enc W fuel cs x h hw
  rcases open_slice ht h with ⟨rfl, rfl⟩ | ⟨a, len, cap, m, n, D, Pl, rfl, hbase, hl, hm, hmm, rfl, hx⟩
  · exact ⟨[], ⟨none, 0, rfl, Nat.le_refl _, Kd.C_nil _ _⟩, by simp [maxLen], by simp, by simp⟩
  simp only [if_pos] at hmm
  subst hmm
  have hwts : ∀ i, i < len → ∀ q ∈ DataW.weights P e (D i), q ≤ reachBytes := by
    intro i hi q hq
    refine hw q ?_
    simp only [DataW.weights, ht]
    exact List.mem_cons_of_mem _ (List.mem_append_left _ (weights_mem hi hq))
  have hlen : (len + (m - len)) * P.bytesOf e ≤ reachBytes := by
    refine hw _ ?_
    simp only [DataW.weights, ht]
    simp
  obtain ⟨l, hll, hp⟩ := choose_list (p := fun i (z : α) => B z ∧ ∃ c, c.length = k.sz ∧ k.K W z c ∧ ∀ j u, c[j]? = some u → W.cell? (a.add (i * k.sz + j)) = some u) len (fun i hi => by
    obtain ⟨cs', h1, h2⟩ := hx i (Nat.lt_of_lt_of_le hi hl)
    obtain ⟨z, hK, hB⟩ := hk enc W n cs' _ h2 (hwts i hi)
    refine ⟨z, hB, cs', k.K_len hK, hK, fun j u hu => ?_⟩
    obtain ⟨_, hlen', hcell⟩ := World.cells?_some h1
    have hj : j < P.cellsOf e := by
      rw [← hlen']
      exact (List.getElem?_eq_some_iff.1 hu).1
    have hc := hcell j hj
    rw [hu] at hc
    rw [hsz, ← hc]
    congr 1
    unfold Addr.add
    by_cases g1 : i * P.cellsOf e = 0 <;> by_cases g2 : j = 0 <;> simp [g1, g2, Nat.add_assoc])
  refine ⟨l, ⟨some a, m, by rw [hll], by rw [hll]; exact hl, ⟨hll.symm ▸ rfl, by rw [hll]; unfold maxLen at hm; omega, fun _ => ⟨a, rfl, fun j p hj => ?_⟩⟩⟩, by rw [hll]; omega, ?_, fun z hz => ?_⟩
  · obtain ⟨_, c, hc⟩ := hp j p hj
    exact ⟨c, hc⟩
  · rw [hll, ← hb]
    unfold reachBytes at hlen
    exact Nat.le_trans (Nat.mul_le_mul_right _ (by omega)) hlen
  · obtain ⟨i, hi⟩ := List.getElem?_of_mem hz
    exact (hp i z hi).1
/-- The same of a struct's fields, from cell o on. -/
def OpensF (P : Program) (fs : List Field) (o : Nat) {α : Type} (k : Kd α) (B : α → Prop) : Prop :=
  ∀ {H : Type} (enc : TypeId × Value → H) (W : World) (fuel : Nat) (cs : List Value) (xs : List (DataW H × List MemPlace)), xs.length = fs.length →
    (∀ (i : Nat) (f : Field), fs[i]? = some f → DataW.trod enc P W 0 (fun _ => true) true fuel f.type ((cs.drop f.offset).take (P.cellsOf f.type)) = xs[i]?) → (∀ n ∈ DataW.weightsEach P (fs.map (·.type)) (xs.map (·.1)), n ≤ reachBytes) →
      ∃ a, k.K W a ((cs.drop o).take k.sz) ∧ B a
theorem opensF_one {f : Field} {o : Nat} {α : Type} {k : Kd α} {B : α → Prop} (ho : f.offset = o) (hk : Opens P f.type k B) (hsz : k.sz = P.cellsOf f.type) : OpensF P [f] o k B := by
  intro H enc W fuel cs xs hl h hw
  subst ho
  match xs, hl with
  | [y], _ =>
    have hy := h 0 f rfl
    rw [hsz]
    exact hk enc W fuel _ y hy (fun n hn => hw n (by simp [DataW.weightsEach, hn]))
theorem opensF_cons {f : Field} {fs : List Field} {o : Nat} {α β : Type} {k1 : Kd α} {k2 : Kd β} {B1 : α → Prop} {B2 : β → Prop} (ho : f.offset = o) (hk : Opens P f.type k1 B1) (hsz : k1.sz = P.cellsOf f.type) (h2 : OpensF P fs (o + k1.sz) k2 B2) :
    OpensF P (f :: fs) o (Kd.pair k1 k2) (fun p => B1 p.1 ∧ B2 p.2) := by
  intro H enc W fuel cs xs hl h hw
  subst ho
  match xs, hl with
  | y :: ys, hl =>
    have hy := h 0 f rfl
    obtain ⟨a, ha, hBa⟩ := hk enc W fuel _ y hy (fun n hn => hw n (by simp [DataW.weightsEach, hn]))
    obtain ⟨b, hb, hBb⟩ := h2 enc W fuel cs ys (by simpa using hl) (fun i g hg => by simpa using h (i + 1) g (by simpa using hg)) (fun n hn => hw n (by
      simp only [List.map_cons, DataW.weightsEach, List.mem_append]
      exact .inr hn))
    refine ⟨(a, b), ⟨_, _, ?_, ha, hb⟩, hBa, hBb⟩
    show (cs.drop f.offset).take (k1.sz + k2.sz) = _
    rw [← hsz, List.take_add, List.drop_drop]
theorem opens_struct {t : TypeId} {fs : Array Field} {fl : List Field} {α β : Type} {k : Kd α} {B : α → Prop} {f : β → α} (ht : P.underlying t = some (.struct fs)) (hfl : fs.toList = fl) (hF : OpensF P fl 0 k B) (hsz : k.sz = P.cellsOf t) (hf : ∀ a, ∃ x, f x = a) :
    Opens P t (Kd.iso k f) (fun x => B (f x)) := by
  intro H enc W fuel cs x h hw
  obtain ⟨xs, n, rfl, rfl, hlen, hxl, hxs⟩ := DataW.trod_struct ht h
  subst hfl
  obtain ⟨a, ha, hB⟩ := hF enc W n cs xs (by simpa using hxl) (fun i g hg => hxs i g (by simpa using hg)) (fun q hq => hw q (by simp only [DataW.weights, ht]; exact hq))
  obtain ⟨z, rfl⟩ := hf a
  refine ⟨z, ?_, hB⟩
  rw [List.drop_zero, List.take_of_length_le (by rw [hlen, hsz]; exact Nat.le_refl _)] at ha
  exact ha
theorem weights_of {H : Type} : ∀ {ts : List TypeId} {ds : List (DataW H)} {j : Nat} {t : TypeId} {d : DataW H}, (DataW.weightsEach P ts ds).all (· ≤ reachBytes) = true → ts[j]? = some t → ds[j]? = some d → ∀ n ∈ DataW.weights P t d, n ≤ reachBytes
  | [], _, j, t, d, _, ht, _ => by simp at ht
  | _ :: _, [], j, t, d, _, _, hd => by simp at hd
  | t0 :: ts, d0 :: ds, j, t, d, hsz, ht, hd => by
    simp only [DataW.weightsEach, List.all_append, Bool.and_eq_true] at hsz
    cases j with
    | zero =>
      simp at ht hd
      subst ht hd
      intro n hn
      have := List.all_eq_true.1 hsz.1 n hn
      simpa using this
    | succ j =>
      simp at ht hd
      exact weights_of hsz.2 ht hd
theorem okWide_agg {W : World} {r : Reach} {b0 : Nat} {t : TypeId} {v : Value} {fs : Array Field} (ht : P.underlying t = some (.struct fs)) (h : Value.okWide P W r b0 t v) : ∃ cs, v = .agg cs := by
  unfold Value.okWide at h
  rw [ht] at h
  obtain ⟨cs, h, _⟩ := h
  exact ⟨cs, h⟩
theorem arr_of {cs : Array Value} {l : List Value} (h : cs.toList = l) : cs = l.toArray := by
  subst h
  simp
end Go.Proofs.YthnhpbplglmmmaaDoor.Opn
