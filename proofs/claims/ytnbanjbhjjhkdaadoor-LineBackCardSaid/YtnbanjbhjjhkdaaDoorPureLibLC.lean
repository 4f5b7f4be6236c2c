/- Plain: what was put is found, of any bytes. No statement of its own. -/
import Derived.Test.YtnbanjbhjjhkdaaDoorPureLibLB
namespace Go.Proofs.YtnbanjbhjjhkdaaDoor.Pure
open Go.RowKit Go.Proofs.YtnbanjbhjjhkdaaDoor.P Go.Proofs.YtnbanjbhjjhkdaaDoorW.PrintWords Go.Proofs.YtnbanjbhjjhkdaaDoorW.PrintLast
set_option linter.unusedVariables false
set_option linter.unusedSimpArgs false
theorem text_of {b L : List Int} (h : lineText b = some L) : b = L ++ [13, 10] ∧ 13 ∉ L ∧ 10 ∉ L := by
  unfold lineText at h
  split at h
  · rename_i hh
    cases h
    refine ⟨?_, hh.2.2.1, hh.2.2.2⟩
    conv => lhs; rw [← List.take_append_drop (b.length - 2) b]
    rw [hh.2.1]
  · cases h
theorem text_mk (X : List Int) (h1 : 13 ∉ X) (h2 : 10 ∉ X) : lineText (X ++ [13, 10]) = some X := by
  unfold lineText
  have e : (X ++ [13, 10]).length - 2 = X.length := by rw [List.length_append]; rfl
  rw [e, List.take_left, List.drop_left, if_pos ⟨by rw [List.length_append]; simp, rfl, h1, h2⟩]
def Clean (N : List Int) : Prop := ∀ c ∈ N, c ≠ 13 ∧ c ≠ 10
theorem clean_app {N M : List Int} (h : Clean N) (h' : Clean M) : Clean (N ++ M) := fun c hc => by
  rw [List.mem_append] at hc
  exact hc.elim (h c) (h' c)
theorem clean_NI (m : Int) (h : 0 ≤ m) : Clean (NI m) := fun c hc => by
  have := (NI_facts m h).1 c hc
  unfold lineDig at this
  have := of_decide_eq_true this
  omega
theorem clean_body (c : Int) (hc : c ≠ 13 ∧ c ≠ 10) : ∀ ms : List Int, (∀ m ∈ ms, 0 ≤ m) → Clean (bodyF c ms)
  | [], _ => fun x hx => by cases hx
  | m :: ms, h => fun x hx => by
    simp only [bodyF, List.mem_cons] at hx
    rcases hx with rfl | hx
    · exact hc
    · exact clean_app (clean_NI m (h m (by simp))) (clean_body c hc ms (fun q hq => h q (by simp [hq]))) x hx
theorem clean_lit {N : List Int} (h : (N.all fun c => decide (c ≠ 13 ∧ c ≠ 10)) = true) : Clean N := fun c hc => of_decide_eq_true (List.all_eq_true.1 h c hc)
theorem text_clean (kind a p : Int) (h : 0 ≤ a) (hk : kind = 1 ∨ kind = 2 ∨ kind = 3 ∨ kind = 4) (hp : 1 ≤ p ∧ p ≤ 65535) : Clean (ints (textL kind a p)) := by
  have hq : ∀ m ∈ quads a, 0 ≤ m := fun m hm => (quads_byte a m hm).1
  by_cases h13 : kind = 1 ∨ kind = 3
  · rw [text_six kind a p h h13 hp]
    refine clean_app (clean_NI _ (by omega)) (clean_body 44 (by omega) _ fun m hm => ?_)
    rw [List.mem_append] at hm
    rcases hm with hm | hm
    · exact hq m hm
    · simp only [List.mem_cons, List.not_mem_nil, or_false] at hm
      rcases hm with rfl | rfl <;> omega
  by_cases h2 : kind = 2
  · subst h2
    rw [text_eprt a p hp]
    exact clean_app (clean_lit (by decide)) (clean_app (clean_NI _ (by omega)) (clean_app (clean_body 46 (by omega) _ hq) (clean_app (clean_lit (by decide)) (clean_app (clean_NI _ (by omega)) (clean_lit (by decide))))))
  obtain rfl : kind = 4 := by omega
  rw [text_epsv a p hp]
  exact clean_app (clean_lit (by decide)) (clean_app (clean_NI _ (by omega)) (clean_lit (by decide)))
/-- The whole: what was put is found. -/
theorem find_again {b : List Int} {k : Int} {F T : Nat} {a p : Int} (h : lineFind b = some (k, F, T, a, p)) (ea ep : Int) (h0 : 0 ≤ ea ∧ ea < 4294967296) (hp : 1 ≤ ep ∧ ep ≤ 65535) :
    lineFind (b.take F ++ ints (textL k ea ep) ++ b.drop T) = some (k, F, F + (ints (textL k ea ep)).length, if k = 4 then 0 else ea, ep) := by
  have hlies := find_lies h
  simp only at hlies
  unfold lineFind at h
  split at h
  · cases h
  rename_i L ht
  obtain ⟨rfl, n13, n10⟩ := text_of ht
  rw [List.length_append] at hlies
  simp only [List.length_cons, List.length_nil] at hlies
  have hx : ((L ++ [13, 10]).take F ++ ints (textL k ea ep) ++ (L ++ [13, 10]).drop T) = (L.take F ++ (ints (textL k ea ep) ++ L.drop T)) ++ [13, 10] := by
    rw [List.take_append_of_le_length (by omega), List.drop_append_of_le_length (by omega)]
    simp only [List.append_assoc]
  have clean : (k = 1 ∨ k = 2 ∨ k = 3 ∨ k = 4) → lineText ((L.take F ++ (ints (textL k ea ep) ++ L.drop T)) ++ [13, 10]) = some (L.take F ++ (ints (textL k ea ep) ++ L.drop T)) := fun hk => by
    have hc := text_clean k ea ep h0.1 hk hp
    refine text_mk _ (fun hm => ?_) (fun hm => ?_)
    all_goals
      rw [List.mem_append, List.mem_append] at hm
      rcases hm with hm | hm | hm
      · first | exact n13 (List.mem_of_mem_take hm) | exact n10 (List.mem_of_mem_take hm)
      · first | exact (hc _ hm).1 rfl | exact (hc _ hm).2 rfl
      · first | exact n13 (List.mem_of_mem_drop hm) | exact n10 (List.mem_of_mem_drop hm)
  have r1 : ∀ l, lineRead l 1 = linePort l := fun l => rfl
  have r2 : ∀ l, lineRead l 2 = lineEprt l := fun l => rfl
  have r3 : ∀ l, lineRead l 3 = linePasv l := fun l => rfl
  have r4 : ∀ l, lineRead l 4 = lineEpsv l := fun l => rfl
  rw [hx]
  unfold lineFind
  simp only [r1, r2, r3, r4] at h ⊢
  split at h
  · rename_i r hr
    cases h
    obtain ⟨e1, e2, e3, e4, e5⟩ := port_is hr
    subst e1 e2 e3
    rw [clean (by omega)]
    simp only
    rw [List.drop_length, port_again L e4 e5 ea ep h0 hp]
    rfl
  · rename_i hn1
    split at h
    · rename_i r hr
      cases h
      obtain ⟨e1, e2, e3, e4, e5⟩ := eprt_is hr
      subst e1 e2 e3
      rw [clean (by omega)]
      simp only
      rw [List.drop_length, port_none _ ((skip_eq L _ [80, 79, 82, 84, 32] 5 (by omega) e5 (by decide)).trans (not_both L _ _ _ 0 69 80 e4 rfl rfl (by decide))), eprt_again L e4 e5 ea ep h0 hp]
      rfl
    · split at h
      · rename_i r hr
        cases h
        obtain ⟨e1, e2, e3, ⟨Y, e4⟩⟩ := pasv_is hr
        subst e1
        rw [clean (by omega)]
        simp only
        rw [port_none _ ((skip_eq L _ [80, 79, 82, 84, 32] F (by omega) (by omega) (by decide)).trans (not_both L _ _ _ 0 50 80 e2 rfl rfl (by decide))),
          eprt_none _ ((skip_eq L _ [69, 80, 82, 84, 32] F (by omega) (by omega) (by decide)).trans (not_both L _ _ _ 0 50 69 e2 rfl rfl (by decide))), e4, pasv_again L Y F e2 e3 (by omega) ea ep h0 hp]
        rfl
      · obtain ⟨e1, e2, e3, ⟨Y, e4⟩⟩ := epsv_is h
        subst e1
        rw [clean (by omega)]
        simp only
        rw [port_none _ ((skip_eq L _ [80, 79, 82, 84, 32] F (by omega) (by omega) (by decide)).trans (not_both L _ _ _ 0 50 80 e2 rfl rfl (by decide))),
          eprt_none _ ((skip_eq L _ [69, 80, 82, 84, 32] F (by omega) (by omega) (by decide)).trans (not_both L _ _ _ 0 50 69 e2 rfl rfl (by decide))),
          pasv_none _ ((skip_eq L _ [50, 50, 55, 32] F (by omega) (by omega) (by decide)).trans (not_both L _ _ _ 2 57 55 e2 rfl rfl (by decide))), e4, epsv_again L Y F e2 e3 (by omega) ea ep hp]
        rfl
/-! What is found lies in its bounds. -/
theorem num_ge0 (d : Nat) : ∀ (xs : List Int) (i : Nat) (n n' : Int) (i' : Nat), 0 ≤ n → lineNum d xs i n = some (n', i') → 0 ≤ n'
  | [], i, n, n', i', h, e => by
    cases e
    exact h
  | x :: xs, i, n, n', i', h, e => by
    unfold lineNum at e
    split at e
    · rename_i hd
      unfold lineDig at hd
      have := of_decide_eq_true hd
      split at e
      · exact num_ge0 d xs (i + 1) _ n' i' (by omega) e
      · cases e
    · cases e
      exact h
theorem number_val {l : List Int} {k d k' : Nat} {m n : Int} (h : lineNumber l k d m = some (n, k')) : 0 ≤ n ∧ n ≤ m := by
  unfold lineNumber at h
  split at h
  · rename_i n1 i1 he
    split at h
    · rename_i hh
      cases h
      exact ⟨num_ge0 d _ _ _ _ _ (Int.le_refl 0) he, hh.2⟩
    · cases h
  · cases h
theorem bytes_val (l s : List Int) : ∀ (n : Nat) (f : Bool) (x x' : Int) (k k' : Nat) (B : Int), 0 ≤ x → x < B → lineBytes l s n f x k = some (x', k') → 0 ≤ x' ∧ x' < B * 256 ^ n
  | 0, f, x, x', k, k', B, h0, h1, h => by
    unfold lineBytes at h
    cases h
    exact ⟨h0, by simpa using h1⟩
  | n + 1, f, x, x', k, k', B, h0, h1, h => by
    unfold lineBytes at h
    split at h
    · cases h
    · split at h
      · cases h
      · rename_i v k2 h2
        have hv := number_val h2
        have := bytes_val l s n false _ x' k2 k' (B * 256) (by omega) (by omega) h
        rw [Int.pow_succ, Int.mul_comm (256 ^ n) 256, ← Int.mul_assoc]
        exact this
theorem six_vals {l : List Int} {k k' : Nat} {a p : Int} (h : lineSix l k = some (a, p, k')) : (0 ≤ a ∧ a < 4294967296) ∧ p ≤ 65535 := by
  unfold lineSix at h
  split at h
  · cases h
  · rename_i x k1 h1
    have := bytes_val l [44] 6 true 0 x k k1 1 (by omega) (by omega) h1
    rw [show (1 : Int) * 256 ^ 6 = 281474976710656 from by decide] at this
    cases h
    omega
theorem find_vals {b : List Int} {k : Int} {F T : Nat} {a p : Int} (h : lineFind b = some (k, F, T, a, p)) : (0 ≤ a ∧ a < 4294967296) ∧ (1 ≤ p ∧ p ≤ 65535) ∧ (k = 1 ∨ k = 2 ∨ k = 3 ∨ k = 4) ∧ (k = 4 → a = 0) := by
  have r1 : ∀ l, lineRead l 1 = linePort l := fun l => rfl
  have r2 : ∀ l, lineRead l 2 = lineEprt l := fun l => rfl
  have r3 : ∀ l, lineRead l 3 = linePasv l := fun l => rfl
  have r4 : ∀ l, lineRead l 4 = lineEpsv l := fun l => rfl
  unfold lineFind at h
  split at h
  · cases h
  rename_i L ht
  simp only [r1, r2, r3, r4] at h
  split at h
  · rename_i r hr
    cases h
    unfold linePort at hr
    split at hr
    · cases hr
    split at hr
    · cases hr
    rename_i h2
    split at hr
    · rename_i hc
      cases hr
      have := six_vals h2
      exact ⟨this.1, by omega, by omega, by omega⟩
    · cases hr
  · split at h
    · rename_i r hr
      cases h
      unfold lineEprt at hr
      split at hr
      · cases hr
      split at hr
      · cases hr
      split at hr
      · cases hr
      rename_i h3
      split at hr
      · cases hr
      split at hr
      · cases hr
      rename_i h5
      split at hr
      · cases hr
      split at hr
      · rename_i hc
        cases hr
        have v := number_val h5
        have w := bytes_val _ [46] 4 true 0 _ _ _ 1 (by omega) (by omega) h3
        rw [show (1 : Int) * 256 ^ 4 = 4294967296 from by decide] at w
        exact ⟨w, by omega, by omega, by omega⟩
      · cases hr
    · split at h
      · rename_i r hr
        cases h
        unfold linePasv at hr
        split at hr
        · cases hr
        split at hr
        · cases hr
        split at hr
        · cases hr
        rename_i h3
        split at hr
        · cases hr
        split at hr
        · rename_i hc
          cases hr
          have := six_vals h3
          exact ⟨this.1, by omega, by omega, by omega⟩
        · cases hr
      · unfold lineEpsv at h
        split at h
        · cases h
        split at h
        · cases h
        split at h
        · cases h
        split at h
        · cases h
        rename_i h4
        split at h
        · cases h
        split at h
        · cases h
        split at h
        · rename_i hc
          cases h
          have v := number_val h4
          exact ⟨by omega, by omega, by omega, fun _ => rfl⟩
        · cases h
end Go.Proofs.YtnbanjbhjjhkdaaDoor.Pure
