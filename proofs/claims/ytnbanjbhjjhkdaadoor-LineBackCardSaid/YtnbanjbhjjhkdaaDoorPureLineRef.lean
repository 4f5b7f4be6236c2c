/- What the document's own Find comes to. No statement of its own. -/
import Derived.Test.YtnbanjbhjjhkdaaDoorPbailiwickref23find
import Derived.Test.YtnbanjbhjjhkdaaDoorPbailiwickref23Find
import Derived.Test.YtnbanjbhjjhkdaaDoorPbailiwickref23
import Derived.Test.YtnbanjbhjjhkdaaDoorPureLibLS
namespace Go.Proofs.YtnbanjbhjjhkdaaDoor.Pure
open Go.RowKit Go.Proofs.YtnbanjbhjjhkdaaDoor.P Go.Proofs.YtnbanjbhjjhkdaaDoorW.PrintWords Go.Proofs.YtnbanjbhjjhkdaaDoorW.PrintLast
set_option linter.unusedVariables false
set_option linter.unusedSimpArgs false
def Line6 : Type := Int × Int × Int × Int × Int × Bool
def postL (r : Int × Int × Int × Int × Int × Bool) : Int × Int × Int × Int × Int × Bool :=
  if r.2.2.2.2.2 = true then (if r.2.2.2.2.1 < 1 then (0, 0, 0, 0, 0, false) else if r.2.2.2.2.1 > 65535 then (0, 0, 0, 0, 0, false) else (r.1, r.2.1, r.2.2.1, r.2.2.2.1, r.2.2.2.2.1, true)) else (0, 0, 0, 0, 0, false)
def tupO : Option (Int × Nat × Nat × Int × Int) → Int × Int × Int × Int × Int × Bool
  | some (k, f, t, a, p) => (k, (f : Int), (t : Int), a, p, true)
  | none => (0, 0, 0, 0, 0, false)
theorem post_no (a b c d e : Int) : postL (a, b, c, d, e, false) = (0, 0, 0, 0, 0, false) := rfl
theorem post_ok (a b c d e : Int) (h : 1 ≤ e) (h2 : e ≤ 65535) : postL (a, b, c, d, e, true) = (a, b, c, d, e, true) := by
  show (if e < 1 then (0, 0, 0, 0, 0, false) else if e > 65535 then (0, 0, 0, 0, 0, false) else (a, b, c, d, e, true)) = _
  rw [if_neg (by omega), if_neg (by omega)]
theorem post_bad (a b c d e : Int) (h : e < 1 ∨ e > 65535) : postL (a, b, c, d, e, true) = (0, 0, 0, 0, 0, false) := by
  show (if e < 1 then (0, 0, 0, 0, 0, false) else if e > 65535 then (0, 0, 0, 0, 0, false) else (a, b, c, d, e, true)) = _
  by_cases h1 : e < 1
  · rw [if_pos h1]
  · rw [if_neg h1, if_pos (by omega)]
def sP : ByteArray := ⟨#[80, 79, 82, 84, 32]⟩
def sE : ByteArray := ⟨#[69, 80, 82, 84, 32]⟩
def s7 : ByteArray := ⟨#[50, 50, 55, 32]⟩
def s9 : ByteArray := ⟨#[50, 50, 57, 32]⟩
def s1 : ByteArray := ⟨#[124, 49, 124]⟩
def sB : ByteArray := ⟨#[40, 124, 124, 124]⟩
theorem eP : bytesOf sP = [80, 79, 82, 84, 32] := by decide
theorem eE : bytesOf sE = [69, 80, 82, 84, 32] := by decide
theorem e7 : bytesOf s7 = [50, 50, 55, 32] := by decide
theorem e9 : bytesOf s9 = [50, 50, 57, 32] := by decide
theorem e1 : bytesOf s1 = [124, 49, 124] := by decide
theorem eB : bytesOf sB = [40, 124, 124, 124] := by decide
theorem port_ref (l : List Int) (hl : l.length ≤ 100000) (hp : lineSkip l [80, 79, 82, 84, 32] 0 = some 5) (k : Nat) (hk : 2 * l.length + 50 ≤ k) :
    ∃ r, ((bailiwickref23_six.f k l 5).bind fun bt => some ((1, 5, bt.2.2, bt.1, bt.2.1, (bt.2.2 == (l.length : Int))) : Int × Int × Int × Int × Int × Bool)) = some r ∧ postL r = tupO (linePort l) := by
  have h5 := lineSkip_le l _ 0 5 hp (Nat.zero_le _)
  have h6 := six_to l hl 5 h5 k (by omega)
  rw [show ((5 : Nat) : Int) = 5 from rfl] at h6
  rw [h6, Option.bind_some]
  refine ⟨_, rfl, ?_⟩
  unfold linePort
  simp only [hp]
  cases hs : lineSix l 5 with
  | none =>
    show postL (1, 5, -1, 0, 0, ((-1 : Int) == (l.length : Int))) = _
    rw [show ((-1 : Int) == (l.length : Int)) = false from beq_eq_false_iff_ne.mpr (by omega)]
    rfl
  | some q =>
    obtain ⟨a, p, k1⟩ := q
    have hb := six_bound l 5 h5 hs
    show postL (1, 5, (k1 : Int), a, p, ((k1 : Int) == (l.length : Int))) = tupO (if k1 = l.length ∧ 0 < p then some (1, 5, k1, a, p) else none)
    by_cases h1 : k1 = l.length
    · rw [show ((k1 : Int) == (l.length : Int)) = true from beq_iff_eq.mpr (by omega)]
      by_cases h2 : 0 < p
      · rw [post_ok _ _ _ _ _ (by omega) (by omega), if_pos ⟨h1, h2⟩]
        rfl
      · rw [post_bad _ _ _ _ _ (by omega), if_neg (fun hh => h2 hh.2)]
        rfl
    · rw [show ((k1 : Int) == (l.length : Int)) = false from beq_eq_false_iff_ne.mpr (by omega), if_neg (fun hh => h1 hh.1)]
      rfl
theorem eprt_ref (l : List Int) (hl : l.length ≤ 100000) (hp : lineSkip l [69, 80, 82, 84, 32] 0 = some 5) (k : Nat) (hk : 2 * l.length + 50 ≤ k) :
    ∃ r, bailiwickref23_eprt.f k l = some r ∧ postL r = tupO (lineEprt l) := by
  have h5 := lineSkip_le l _ 0 5 hp (Nat.zero_le _)
  obtain ⟨k, rfl⟩ : ∃ q, k = q + 1 := ⟨k - 1, by omega⟩
  unfold bailiwickref23_eprt.f
  have hst := starts_to (l.drop 5) s1 (by decide) (k + 1) (by show 3 < k + 1; omega)
  rw [e1, skip_drop l 5 h5 [124, 49, 124] 0] at hst
  rw [if_pos (by omega), show (⟨#[124, 49, 124]⟩ : ByteArray) = s1 from rfl, hst, Option.bind_some]
  unfold lineEprt
  simp only [hp]
  cases hs1 : lineSkip l [124, 49, 124] 5 with
  | none => exact ⟨_, rfl, rfl⟩
  | some k1 =>
    have hk1 : k1 = 8 := by have := skip_len l _ 5 k1 hs1; simpa using this
    subst hk1
    have h8 := lineSkip_le l _ 5 8 hs1 h5
    have hr := row_to l hl 46 4 (by omega) 8 h8 (k + 1) (by omega)
    rw [show ((8 : Nat) : Int) = 8 from rfl, show ((4 : Nat) : Int) = 4 from rfl] at hr
    have hb := bytes_row l 46 (by omega) (by omega) 4 true [] 8
    rw [show bev [] = 0 from rfl] at hb
    rw [show (some 8 : Option Nat).isSome = true from rfl, if_pos rfl, hr, Option.bind_some]
    simp only [hb]
    cases h : rowP l 46 4 true [] 8 with
    | none =>
      refine ⟨(0, 0, 0, 0, 0, false), ?_, rfl⟩
      show (if (-1 : Int) < 0 then bailiwickref23_eprt.j0 (k + 1) l [] (-1) true else _) = _
      rw [if_pos (by omega)]
      rfl
    | some q =>
      obtain ⟨r, k2⟩ := q
      obtain ⟨g1, g2, g3⟩ := row_bytes l 46 4 true [] r 8 k2 (by simp) h8 h
      obtain ⟨b0, b1, b2, b3, rfl⟩ := len4 r (by simpa using g1)
      have f0 := g2 b0 (by simp)
      have f1 := g2 b1 (by simp)
      have f2 := g2 b2 (by simp)
      have f3 := g2 b3 (by simp)
      have ev : bev [b0, b1, b2, b3] = ((b0 * 256 + b1) * 256 + b2) * 256 + b3 := by simp [bev]
      simp only [Option.map_some]
      rw [skip_one l 124 k2 (by omega) (by omega)]
      show ∃ r, (if (k2 : Int) < 0 then bailiwickref23_eprt.j0 (k + 1) l [b0, b1, b2, b3] k2 true else (if (k2 : Int) ≥ (l.length : Int) then bailiwickref23_eprt.j0 (k + 1) l [b0, b1, b2, b3] k2 true else (if 0 ≤ (k2 : Int) then (if (k2 : Int) < (l.length : Int) then bailiwickref23_eprt.j0 (k + 1) l [b0, b1, b2, b3] k2 (rd l (k2 : Int) != 124) else none) else none))) = some r ∧ _
      rw [if_neg (by omega)]
      by_cases hge : (k2 : Int) ≥ (l.length : Int)
      · rw [if_pos hge, if_neg (fun hh => by omega)]
        exact ⟨_, rfl, rfl⟩
      · rw [if_neg hge, if_pos (by omega), if_pos (by omega), lrd]
        by_cases h124 : lineAt l k2 = 124
        case neg =>
          rw [show (lineAt l k2 != 124) = true from bne_iff_ne.mpr h124, if_neg (fun hh => h124 hh.1)]
          exact ⟨_, rfl, rfl⟩
        rw [show (lineAt l k2 != 124) = false from by rw [h124]; rfl, if_pos ⟨h124, by omega⟩]
        simp only [bailiwickref23_eprt.j0]
        rw [if_neg (by simp), lw64 (x := (k2 : Int) + 1) (by omega) (by omega), show (k2 : Int) + 1 = ((k2 + 1 : Nat) : Int) by omega]
        have hnum := number_to l (by omega) (k2 + 1) 5 (by omega) (by omega) k (by omega)
        rw [show ((5 : Nat) : Int) = 5 from rfl] at hnum
        have hok := number_ok l (k2 + 1) 5 65535 (by omega)
        rw [hnum, Option.bind_some, hok]
        generalize numP 5 (k2 + 1) (lineNum 5 (l.drop (k2 + 1)) 0 0) = q at *
        obtain ⟨p, nx⟩ := q
        simp only at hok ⊢
        by_cases hn0 : nx < 0
        · rw [if_pos hn0, if_pos hn0]
          exact ⟨_, rfl, rfl⟩
        rw [if_neg hn0, if_neg hn0]
        obtain ⟨k4, rfl⟩ := Int.eq_ofNat_of_zero_le (show 0 ≤ nx by omega)
        rw [lw64 (x := (l.length : Int) - 1) (by omega) (by omega)]
        by_cases hlast : ((k4 : Nat) : Int) = (l.length : Int) - 1
        · rw [if_pos hlast, if_pos (by omega), if_pos (by omega), lrd]
          by_cases h4 : lineAt l k4 = 124
          · rw [if_pos h4, addr_to b0 b1 b2 b3 [] f0 f1 f2 f3, Option.bind_some]
            refine ⟨_, rfl, ?_⟩
            by_cases hp2 : p > 65535
            · rw [post_bad _ _ _ _ _ (by omega), if_pos hp2]
              rfl
            · rw [if_neg hp2]
              simp only [Int.toNat_natCast]
              rw [skip_one l 124 k4 (by omega) (by omega), if_pos ⟨h4, by omega⟩]
              simp only
              by_cases hp0 : 0 < p
              · rw [post_ok _ _ _ _ _ (by omega) (by omega), if_pos ⟨by omega, hp0⟩, ev]
                show _ = ((2 : Int), ((5 : Nat) : Int), ((k4 + 1 : Nat) : Int), _, p, true)
                rw [show ((k4 + 1 : Nat) : Int) = (l.length : Int) by omega]
                rfl
              · rw [post_bad _ _ _ _ _ (by omega), if_neg (fun hh => hp0 hh.2)]
                rfl
          · rw [if_neg h4]
            refine ⟨_, rfl, ?_⟩
            by_cases hp2 : p > 65535
            · rw [if_pos hp2]
              rfl
            · rw [if_neg hp2]
              simp only [Int.toNat_natCast]
              rw [skip_one l 124 k4 (by omega) (by omega), if_neg (fun hh => h4 hh.1)]
              rfl
        · rw [if_neg hlast]
          refine ⟨_, rfl, ?_⟩
          by_cases hp2 : p > 65535
          · rw [if_pos hp2]
            rfl
          · rw [if_neg hp2]
            simp only [Int.toNat_natCast]
            rw [skip_one l 124 k4 (by omega) (by omega)]
            by_cases h4 : lineAt l k4 = 124 ∧ k4 < l.length
            · rw [if_pos h4]
              simp only
              rw [if_neg (fun hh => hlast (by omega))]
              rfl
            · rw [if_neg h4]
              rfl
theorem pasv_ref (l : List Int) (hl : l.length ≤ 100000) (hp : lineSkip l [50, 50, 55, 32] 0 = some 4) (k : Nat) (hk : 2 * l.length + 50 ≤ k) :
    ∃ r, ((bailiwickref23_open.f k l).bind fun t160 => (if t160 < 0 then (some ((0, 0, 0, 0, 0, false) : Int × Int × Int × Int × Int × Bool)) else ((bailiwickref23_six.f k l (wrap64 (t160 + 1))).bind fun bt161 => (if bt161.2.2 ≥ 0 then (if bt161.2.2 < (l.length : Int) then (if 0 ≤ bt161.2.2 then (some (3, wrap64 (t160 + 1), bt161.2.2, bt161.1, bt161.2.1, ((rd l bt161.2.2) == 41))) else (none)) else (some (3, wrap64 (t160 + 1), bt161.2.2, bt161.1, bt161.2.1, false))) else (some (3, wrap64 (t160 + 1), bt161.2.2, bt161.1, bt161.2.1, false)))))) = some r ∧ postL r = tupO (linePasv l) := by
  have h4 := lineSkip_le l _ 0 4 hp (Nat.zero_le _)
  rw [open_to l hl h4 k (by omega), Option.bind_some]
  unfold linePasv
  simp only [hp]
  cases ho : lineOpen (l.drop 4) 4 with
  | none => exact ⟨_, rfl, rfl⟩
  | some k1 =>
    have hb := open_at l (l.length - 4) 4 k1 rfl ho
    rw [show openO (some k1) = (k1 : Int) - 1 from rfl, if_neg (by omega), lw64 (x := (k1 : Int) - 1 + 1) (by omega) (by omega), show (k1 : Int) - 1 + 1 = (k1 : Int) by omega, six_to l hl k1 hb.2.2 k (by omega), Option.bind_some]
    simp only
    cases hs : lineSix l k1 with
    | none => exact ⟨_, rfl, rfl⟩
    | some q =>
      obtain ⟨a, p, k2⟩ := q
      have hb2 := six_bound l k1 hb.2.2 hs
      simp only
      rw [skip_one l 41 k2 (by omega) (by omega)]
      show ∃ r, (if (k2 : Int) ≥ 0 then (if (k2 : Int) < (l.length : Int) then (if 0 ≤ (k2 : Int) then (some ((3, (k1 : Int), (k2 : Int), a, p, ((rd l (k2 : Int)) == 41)) : Int × Int × Int × Int × Int × Bool)) else none) else (some (3, (k1 : Int), (k2 : Int), a, p, false))) else (some (3, (k1 : Int), (k2 : Int), a, p, false))) = some r ∧ _
      rw [if_pos (by omega)]
      by_cases hlt : (k2 : Int) < (l.length : Int)
      · rw [if_pos hlt, if_pos (by omega), lrd]
        refine ⟨_, rfl, ?_⟩
        by_cases h41 : lineAt l k2 = 41
        · rw [show (lineAt l k2 == 41) = true from beq_iff_eq.mpr h41, if_pos ⟨h41, by omega⟩]
          simp only
          by_cases hp0 : 0 < p
          · rw [post_ok _ _ _ _ _ (by omega) (by omega), if_pos hp0]
            rfl
          · rw [post_bad _ _ _ _ _ (by omega), if_neg hp0]
            rfl
        · rw [show (lineAt l k2 == 41) = false from beq_eq_false_iff_ne.mpr h41, if_neg (fun hh => h41 hh.1)]
          rfl
      · rw [if_neg hlt, if_neg (fun hh => by omega)]
        exact ⟨_, rfl, rfl⟩
theorem epsv_ref (l : List Int) (hl : l.length ≤ 100000) (hp : lineSkip l [50, 50, 57, 32] 0 = some 4) (k : Nat) (hk : 2 * l.length + 50 ≤ k) :
    ∃ r, ((bailiwickref23_open.f k l).bind fun t167 => (if t167 < 0 then (some ((0, 0, 0, 0, 0, false) : Int × Int × Int × Int × Int × Bool)) else (if 0 ≤ t167 then (if t167 ≤ (l.length : Int) then ((bailiwickref23_starts.f k (l.drop (t167 : Int).toNat) (⟨#[40, 124, 124, 124]⟩ : ByteArray)).bind fun t169 => (if t169 = true then ((bailiwickref23_number.f k l (wrap64 (t167 + 4)) 5).bind fun bt170 => (if bt170.2 ≥ 0 then (if (wrap64 (bt170.2 + 1)) < (l.length : Int) then (if 0 ≤ bt170.2 then (if bt170.2 < (l.length : Int) then (if (rd l bt170.2) = 124 then (if 0 ≤ (wrap64 (bt170.2 + 1)) then (some (4, wrap64 (t167 + 1), wrap64 (bt170.2 + 1), 0, bt170.1, ((rd l (wrap64 (bt170.2 + 1))) == 41))) else (none)) else (some (4, wrap64 (t167 + 1), wrap64 (bt170.2 + 1), 0, bt170.1, false))) else (none)) else (none)) else (some (4, wrap64 (t167 + 1), wrap64 (bt170.2 + 1), 0, bt170.1, false))) else (some (4, wrap64 (t167 + 1), wrap64 (bt170.2 + 1), 0, bt170.1, false)))) else (some (0, 0, 0, 0, 0, false)))) else (none)) else (none)))) = some r ∧ postL r = tupO (lineEpsv l) := by
  have h4 := lineSkip_le l _ 0 4 hp (Nat.zero_le _)
  rw [open_to l hl h4 k (by omega), Option.bind_some]
  unfold lineEpsv
  simp only [hp]
  cases ho : lineOpen (l.drop 4) 4 with
  | none => exact ⟨_, rfl, rfl⟩
  | some k1 =>
    obtain ⟨g1, g2, g3⟩ := open_at l (l.length - 4) 4 k1 rfl ho
    obtain ⟨i, rfl⟩ : ∃ i, k1 = i + 1 := ⟨k1 - 1, by omega⟩
    simp only
    rw [show openO (some (i + 1)) = (i : Int) from by show ((i + 1 : Nat) : Int) - 1 = i; omega]
    rw [if_neg (by omega), if_pos (by omega), if_pos (by omega), Int.toNat_natCast]
    have hst := starts_to (l.drop i) sB (by decide) k (by show 4 < k; omega)
    rw [eB, skip_drop l i (by omega) [40, 124, 124, 124] 0] at hst
    have hsk : lineSkip l [40, 124, 124, 124] (i + 0) = lineSkip l [124, 124, 124] (i + 1) := by
      show (if lineUp (lineAt l (i + 0)) = 40 ∧ i + 0 < l.length then lineSkip l [124, 124, 124] (i + 0 + 1) else none) = _
      rw [show i + 1 - 1 = i by omega] at g1
      rw [Nat.add_zero, g1, if_pos ⟨by decide, by omega⟩]
    rw [show (⟨#[40, 124, 124, 124]⟩ : ByteArray) = sB from rfl, hst, hsk, Option.bind_some]
    cases hs2 : lineSkip l [124, 124, 124] (i + 1) with
    | none => exact ⟨_, rfl, rfl⟩
    | some k2 =>
      have hk2 : k2 = i + 4 := by have := skip_len l _ (i + 1) k2 hs2; simp at this; omega
      subst hk2
      have h8 := lineSkip_le l _ (i + 1) (i + 4) hs2 (by omega)
      rw [show (some (i + 4) : Option Nat).isSome = true from rfl, if_pos rfl, lw64 (x := (i : Int) + 4) (by omega) (by omega), show (i : Int) + 4 = ((i + 4 : Nat) : Int) by omega, lw64 (x := (i : Int) + 1) (by omega) (by omega)]
      have hnum := number_to l (by omega) (i + 4) 5 (by omega) h8 k (by omega)
      rw [show ((5 : Nat) : Int) = 5 from rfl] at hnum
      have hok := number_ok l (i + 4) 5 65535 (by omega)
      simp only [hok]
      rw [hnum, Option.bind_some]
      have hle : (numP 5 (i + 4) (lineNum 5 (l.drop (i + 4)) 0 0)).2 ≤ (l.length : Int) := by
        cases hq : lineNum 5 (l.drop (i + 4)) 0 0 with
        | none => show (-1 : Int) ≤ _; omega
        | some q =>
          obtain ⟨n, j⟩ := q
          have := lineNum_len 5 _ _ _ _ _ hq
          rw [List.length_drop] at this
          show (if 0 < j then (n, ((i + 4 + j : Nat) : Int)) else (0, -1)).2 ≤ _
          split
          · show ((i + 4 + j : Nat) : Int) ≤ _; omega
          · show (-1 : Int) ≤ _; omega
      generalize numP 5 (i + 4) (lineNum 5 (l.drop (i + 4)) 0 0) = q at *
      obtain ⟨p, nx⟩ := q
      simp only at hle ⊢
      by_cases hn0 : nx < 0
      · rw [if_neg (show ¬ nx ≥ 0 by omega), if_pos hn0]
        exact ⟨_, rfl, rfl⟩
      rw [if_pos (show nx ≥ 0 by omega), if_neg hn0]
      obtain ⟨k3, rfl⟩ := Int.eq_ofNat_of_zero_le (show 0 ≤ nx by omega)
      rw [lw64 (x := (k3 : Int) + 1) (by omega) (by omega), Int.toNat_natCast]
      by_cases hlt : (k3 : Int) + 1 < (l.length : Int)
      · rw [if_pos hlt, if_pos (show 0 ≤ (k3 : Int) by omega), if_pos (show (k3 : Int) < (l.length : Int) by omega), lrd]
        by_cases h124 : lineAt l k3 = 124
        · rw [if_pos h124, if_pos (show 0 ≤ (k3 : Int) + 1 by omega), show (k3 : Int) + 1 = ((k3 + 1 : Nat) : Int) by omega, lrd]
          refine ⟨_, rfl, ?_⟩
          by_cases hp2 : p > 65535
          · rw [if_pos hp2]
            by_cases h41 : lineAt l (k3 + 1) = 41
            · rw [show (lineAt l (k3 + 1) == 41) = true from beq_iff_eq.mpr h41, post_bad _ _ _ _ _ (by omega)]
              rfl
            · rw [show (lineAt l (k3 + 1) == 41) = false from beq_eq_false_iff_ne.mpr h41]
              rfl
          · rw [if_neg hp2]
            simp only
            rw [skip_one l 124 k3 (by omega) (by omega), if_pos ⟨h124, by omega⟩]
            simp only
            rw [skip_one l 41 (k3 + 1) (by omega) (by omega)]
            by_cases h41 : lineAt l (k3 + 1) = 41
            · rw [show (lineAt l (k3 + 1) == 41) = true from beq_iff_eq.mpr h41, if_pos ⟨h41, by omega⟩]
              simp only
              by_cases hp0 : 0 < p
              · rw [post_ok _ _ _ _ _ (by omega) (by omega), if_pos hp0]
                show _ = ((4 : Int), ((i + 1 : Nat) : Int), ((k3 + 1 : Nat) : Int), (0 : Int), p, true)
                rw [show ((i + 1 : Nat) : Int) = (i : Int) + 1 by omega]
              · rw [post_bad _ _ _ _ _ (by omega), if_neg hp0]
                rfl
            · rw [show (lineAt l (k3 + 1) == 41) = false from beq_eq_false_iff_ne.mpr h41, if_neg (fun hh => h41 hh.1)]
              rfl
        · rw [if_neg h124]
          refine ⟨_, rfl, ?_⟩
          by_cases hp2 : p > 65535
          · rw [if_pos hp2]
            rfl
          · rw [if_neg hp2]
            simp only
            rw [skip_one l 124 k3 (by omega) (by omega), if_neg (fun hh => h124 hh.1)]
            rfl
      · rw [if_neg hlt]
        refine ⟨_, rfl, ?_⟩
        by_cases hp2 : p > 65535
        · rw [if_pos hp2]
          rfl
        · rw [if_neg hp2]
          simp only
          rw [skip_one l 124 k3 (by omega) (by omega)]
          by_cases h124 : lineAt l k3 = 124 ∧ k3 < l.length
          · rw [if_pos h124]
            simp only
            rw [skip_one l 41 (k3 + 1) (by omega) (by omega), if_neg (fun hh => by omega)]
            rfl
          · rw [if_neg h124]
            rfl
def lineBest (l : List Int) : Option (Int × Nat × Nat × Int × Int) := match linePort l with
  | some r => some r
  | none => match lineEprt l with
    | some r => some r
    | none => match linePasv l with
      | some r => some r
      | none => lineEpsv l
theorem excl (l : List Int) (s s' : List Int) (k k' : Nat) (j : Nat) (c c' : Int) (h : lineSkip l s 0 = some k) (h' : lineSkip l s' 0 = some k') (hj : s[j]? = some c) (hj' : s'[j]? = some c') : c = c' :=
  (skip_at l s 0 k h j c hj).symm.trans (skip_at l s' 0 k' h' j c' hj')
theorem port_none (l : List Int) (h : lineSkip l [80, 79, 82, 84, 32] 0 = none) : linePort l = none := by unfold linePort; rw [h]
theorem eprt_none (l : List Int) (h : lineSkip l [69, 80, 82, 84, 32] 0 = none) : lineEprt l = none := by unfold lineEprt; rw [h]
theorem pasv_none (l : List Int) (h : lineSkip l [50, 50, 55, 32] 0 = none) : linePasv l = none := by unfold linePasv; rw [h]
theorem epsv_none (l : List Int) (h : lineSkip l [50, 50, 57, 32] 0 = none) : lineEpsv l = none := by unfold lineEpsv; rw [h]
theorem not_both (l : List Int) (s s' : List Int) (k : Nat) (j : Nat) (c c' : Int) (h : lineSkip l s 0 = some k) (hj : s[j]? = some c) (hj' : s'[j]? = some c') (hne : c ≠ c') : lineSkip l s' 0 = none := by
  cases h' : lineSkip l s' 0 with
  | none => rfl
  | some k' => exact absurd (excl l s s' k k' j c c' h h' hj hj') hne
theorem find_ref (l : List Int) (hl : l.length ≤ 100000) (k : Nat) (hk : 2 * l.length + 50 ≤ k) : ∃ r, bailiwickref23_find.f k l = some r ∧ postL r = tupO (lineBest l) := by
  unfold bailiwickref23_find.f
  have tP := starts_to l sP (by decide) k (by show 5 < k; omega)
  have tE := starts_to l sE (by decide) k (by show 5 < k; omega)
  have t7 := starts_to l s7 (by decide) k (by show 4 < k; omega)
  have t9 := starts_to l s9 (by decide) k (by show 4 < k; omega)
  rw [eP] at tP
  rw [eE] at tE
  rw [e7] at t7
  rw [e9] at t9
  rw [show (⟨#[80, 79, 82, 84, 32]⟩ : ByteArray) = sP from rfl, show (⟨#[69, 80, 82, 84, 32]⟩ : ByteArray) = sE from rfl, show (⟨#[50, 50, 55, 32]⟩ : ByteArray) = s7 from rfl, show (⟨#[50, 50, 57, 32]⟩ : ByteArray) = s9 from rfl, tP, Option.bind_some]
  unfold lineBest
  cases hP : lineSkip l [80, 79, 82, 84, 32] 0 with
  | some k0 =>
    obtain rfl : k0 = 5 := by have := skip_len l _ 0 k0 hP; simpa using this
    have nE := eprt_none l (not_both l _ _ 5 0 80 69 hP rfl rfl (by decide))
    have n7 := pasv_none l (not_both l _ _ 5 0 80 50 hP rfl rfl (by decide))
    have n9 := epsv_none l (not_both l _ _ 5 0 80 50 hP rfl rfl (by decide))
    rw [show (some 5 : Option Nat).isSome = true from rfl, if_pos rfl, nE, n7, n9]
    obtain ⟨r, h1, h2⟩ := port_ref l hl hP k hk
    refine ⟨r, h1, h2.trans ?_⟩
    cases linePort l <;> rfl
  | none =>
    rw [show (none : Option Nat).isSome = false from rfl, if_neg (by simp), tE, Option.bind_some, port_none l hP]
    cases hE : lineSkip l [69, 80, 82, 84, 32] 0 with
    | some k0 =>
      obtain rfl : k0 = 5 := by have := skip_len l _ 0 k0 hE; simpa using this
      have n7 := pasv_none l (not_both l _ _ 5 0 69 50 hE rfl rfl (by decide))
      have n9 := epsv_none l (not_both l _ _ 5 0 69 50 hE rfl rfl (by decide))
      rw [show (some 5 : Option Nat).isSome = true from rfl, if_pos rfl, n7, n9]
      obtain ⟨r, h1, h2⟩ := eprt_ref l hl hE k hk
      refine ⟨r, by rw [h1]; rfl, h2.trans ?_⟩
      cases lineEprt l <;> rfl
    | none =>
      rw [show (none : Option Nat).isSome = false from rfl, if_neg (by simp), t7, Option.bind_some, eprt_none l hE]
      cases h7 : lineSkip l [50, 50, 55, 32] 0 with
      | some k0 =>
        obtain rfl : k0 = 4 := by have := skip_len l _ 0 k0 h7; simpa using this
        have n9 := epsv_none l (not_both l _ _ 4 2 55 57 h7 rfl rfl (by decide))
        rw [show (some 4 : Option Nat).isSome = true from rfl, if_pos rfl, n9]
        obtain ⟨r, h1, h2⟩ := pasv_ref l hl h7 k hk
        refine ⟨r, h1, h2.trans ?_⟩
        cases linePasv l <;> rfl
      | none =>
        rw [show (none : Option Nat).isSome = false from rfl, if_neg (by simp), t9, Option.bind_some, pasv_none l h7]
        cases h9 : lineSkip l [50, 50, 57, 32] 0 with
        | some k0 =>
          obtain rfl : k0 = 4 := by have := skip_len l _ 0 k0 h9; simpa using this
          rw [show (some 4 : Option Nat).isSome = true from rfl, if_pos rfl]
          obtain ⟨r, h1, h2⟩ := epsv_ref l hl h9 k hk
          exact ⟨r, h1, h2⟩
        | none =>
          rw [show (none : Option Nat).isSome = false from rfl, if_neg (by simp), epsv_none l h9]
          exact ⟨_, rfl, rfl⟩
theorem best_eq (b l : List Int) (h : lineText b = some l) : findT b = tupO (lineBest l) := by
  have e : lineFind b = lineBest l := by
    unfold lineFind lineBest
    rw [h]
    rfl
  unfold findT tupO
  rw [e]
  cases lineBest l <;> rfl
theorem text_is {b l : List Int} (h : lineText b = some l) : l = b.take (b.length - 2) ∧ 2 ≤ b.length := by
  unfold lineText at h
  split at h
  · rename_i hh
    cases h
    exact ⟨rfl, hh.1⟩
  · cases h
theorem refFind_to (b : List Int) (hn : b.length ≤ 100000) (k : Nat) (hk : 200100 ≤ k) : bailiwickref23_Find.f k b = some (findT b) := by
  unfold bailiwickref23_Find.f bailiwickref23_ends.f
  cases h : lineText b with
  | none =>
    unfold findT lineFind
    rw [h]
    rfl
  | some l =>
    obtain ⟨h1, h2⟩ := text_is h
    have hlen : l.length = b.length - 2 := by rw [h1, List.length_take]; omega
    obtain ⟨r, g1, g2⟩ := find_ref l (by omega) k (by omega)
    simp only
    rw [Option.bind_some, if_pos rfl]
    rw [if_pos (by omega), if_pos (by omega), Int.toNat_natCast, hlen, ← h1, g1, Option.bind_some, best_eq b l h, ← g2]
    unfold postL
    split
    · split
      · rfl
      · split
        · rfl
        · rfl
    · rfl
end Go.Proofs.YtnbanjbhjjhkdaaDoor.Pure
