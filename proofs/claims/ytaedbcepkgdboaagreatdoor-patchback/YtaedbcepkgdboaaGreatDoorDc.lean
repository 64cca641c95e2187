/- A part of the proof: K7 K8. -/
import Derived.Test.YtaedbcepkgdboaaGreatDoorWd
import Derived.Test.YtaedbcepkgdboaaGreatDoorDb
import Derived.Test.YtaedbcepkgdboaaGreatDoorDa
import Derived.Test.YtaedbcepkgdboaaGreatDoorWa
import Derived.Test.YtaedbcepkgdboaaGreatDoorWe

set_option linter.unusedVariables false
set_option linter.unusedSimpArgs false
namespace Go.Abs.Z
open Go.Proofs Go.RowKit
set_option linter.unusedVariables false
variable {v u : PV} {x y : List Str}
theorem hunk_loop (s t : Str) (hv : RowS v x) (hu : RowS u y) (hx : x.length ≤ 1024) (hy : y.length ≤ 1024) {σ : Sto} (ht : TabF x y 0 σ) (hs : List Hk) (f : Nat) : ∀ (n i k : Nat) (es : List Str), (x.length - i) + (y.length - k) ≤ n → i ≤ x.length → k ≤ y.length → es.length ≤ k →
    LE m6_1 l6_1 [(6, some v), (7, some u), (8, some (.arr 0 0 0 (x.length + 1) 1)), (9, some (accP 3 (hs.map Hk.pv))), (10, some (N i)), (11, some (N k)), (12, some (.agg [N f, N 0, accP 1 (es.map PV.str)]))] σ (.exit 2)
      [(6, some v), (7, some u), (8, some (.arr 0 0 0 (x.length + 1) 1)), (9, some (accP 3 (hs.map Hk.pv))), (10, some (N (i + (inn (x.drop i) (y.drop k)).1.length))), (11, some (N (k + (inn (x.drop i) (y.drop k)).2.1.length))), (12, some (.agg [N f, N 0, accP 1 ((es ++ (inn (x.drop i) (y.drop k)).2.1).map PV.str)]))] σ := by
  intro n
  induction n with
  | zero =>
    intro i k es hn hi hk he
    have h1 : x.drop i = [] := List.drop_eq_nil_of_le (by omega)
    have h2 : y.drop k = [] := List.drop_eq_nil_of_le (by omega)
    rw [h1, h2, inn_nil]
    simp only [List.length_nil, Nat.add_zero, List.append_nil]
    exact r6_l1_out1 (s := s) (t := t) hv hu (by omega) (by omega)
  | succ n ih =>
    intro i k es hn hi hk he
    by_cases hix : i < x.length
    · have dx : x.drop i = x[i] :: x.drop (i + 1) := List.drop_eq_getElem_cons hix
      have g1 := List.getElem?_eq_getElem hix
      by_cases hky : k < y.length
      · have dy : y.drop k = y[k] :: y.drop (k + 1) := List.drop_eq_getElem_cons hky
        have g2 := List.getElem?_eq_getElem hky
        by_cases e : x[i] = y[k]
        · rw [dx, dy, e, inn_eq]
          simp only [List.length_nil, Nat.add_zero, List.append_nil]
          exact r6_l1_out2 (s := s) (t := t) hv hu (by omega) (by omega) g1 g2 e
        · obtain ⟨es0, e1, e2, e3, e4⟩ := ht.out
          have x1 := tab_ld (x := x) (y := y) (i := i) e1 (e4 (i + 1) (by omega) (by omega))
          have x2 := row_ld (j := k) (ht.row (i + 1) (by omega) (by omega)) (by omega) (Nat.zero_le _)
          have x3 := tab_ld (x := x) (y := y) (i := i) e1 (e4 i (by omega) (by omega))
          have x4 := row_ld (j := k + 1) (ht.row i (by omega) (by omega)) (by omega) (Nat.zero_le _)
          by_cases hl : lcF x y i (k + 1) ≤ lcF x y (i + 1) k
          · have h := ih (i + 1) k es (by omega) (by omega) hk he
            have hin : inn (x.drop i) (y.drop k) = (x[i] :: (inn (x.drop (i + 1)) (y.drop k)).1, (inn (x.drop (i + 1)) (y.drop k)).2) := by
              rw [dx, dy, inn_le e]
              have := hl
              unfold lcF at this
              rw [dx, dy] at this
              exact this
            rw [hin]
            simp only [List.length_cons]
            rw [show i + ((inn (x.drop (i + 1)) (y.drop k)).1.length + 1) = i + 1 + (inn (x.drop (i + 1)) (y.drop k)).1.length from by omega]
            exact r6_l1_next7 (s := s) (t := t) hv hu (by omega) (by omega) g1 g2 e (by omega) (by omega) (by omega) x1 (by omega) x2 (by omega) x3 (by omega) (by omega) x4 (by omega) h
          · have h := ih i (k + 1) (es ++ [y[k]]) (by omega) hi (by omega) (by simp; omega)
            have hin : inn (x.drop i) (y.drop k) = ((inn (x.drop i) (y.drop (k + 1))).1, y[k] :: (inn (x.drop i) (y.drop (k + 1))).2.1, (inn (x.drop i) (y.drop (k + 1))).2.2) := by
              rw [dx, dy, inn_gt e]
              have := hl
              unfold lcF at this
              rw [dx, dy] at this
              exact this
            rw [hin]
            simp only [List.length_cons]
            rw [show k + ((inn (x.drop i) (y.drop (k + 1))).2.1.length + 1) = k + 1 + (inn (x.drop i) (y.drop (k + 1))).2.1.length from by omega]
            have e5 : es ++ y[k] :: (inn (x.drop i) (y.drop (k + 1))).2.1 = es ++ [y[k]] ++ (inn (x.drop i) (y.drop (k + 1))).2.1 := by simp
            rw [e5]
            exact r6_l1_next8 (s := s) (t := t) hv hu (by omega) (by omega) g1 g2 e (by omega) (by omega) (by omega) x1 (by omega) x2 (by omega) x3 (by omega) (by omega) x4 (by omega) (by simp only [maxRow]; omega) h
      · have dy : y.drop k = [] := List.drop_eq_nil_of_le (by omega)
        have h := ih (i + 1) k es (by omega) (by omega) hk he
        rw [dy] at h ⊢
        have hin : inn (x.drop i) [] = (x[i] :: (inn (x.drop (i + 1)) []).1, (inn (x.drop (i + 1)) []).2) := by rw [dx, inn_r]
        rw [hin]
        simp only [List.length_cons]
        rw [show i + ((inn (x.drop (i + 1)) []).1.length + 1) = i + 1 + (inn (x.drop (i + 1)) []).1.length from by omega]
        exact r6_l1_next1 (s := s) (t := t) hv hu (by omega) (by omega) (by omega) (by omega) h
    · have dx : x.drop i = [] := List.drop_eq_nil_of_le (by omega)
      by_cases hky : k < y.length
      · have dy : y.drop k = y[k] :: y.drop (k + 1) := List.drop_eq_getElem_cons hky
        have g2 := List.getElem?_eq_getElem hky
        have h := ih i (k + 1) (es ++ [y[k]]) (by omega) hi (by omega) (by simp; omega)
        rw [dx] at h ⊢
        have hin : inn [] (y.drop k) = ((inn [] (y.drop (k + 1))).1, y[k] :: (inn [] (y.drop (k + 1))).2.1, (inn [] (y.drop (k + 1))).2.2) := by rw [dy, inn_l]
        rw [hin]
        simp only [List.length_cons]
        rw [show k + ((inn [] (y.drop (k + 1))).2.1.length + 1) = k + 1 + (inn [] (y.drop (k + 1))).2.1.length from by omega]
        have e5 : es ++ y[k] :: (inn [] (y.drop (k + 1))).2.1 = es ++ [y[k]] ++ (inn [] (y.drop (k + 1))).2.1 := by simp
        rw [e5]
        exact r6_l1_next3 (s := s) (t := t) hv hu (by omega) (by omega) (by omega) g2 (by simp only [maxRow]; omega) (by omega) h
      · have dy : y.drop k = [] := List.drop_eq_nil_of_le (by omega)
        rw [dx, dy, inn_nil]
        simp only [List.length_nil, Nat.add_zero, List.append_nil]
        exact r6_l1_out1 (s := s) (t := t) hv hu (by omega) (by omega)
theorem diff_loop (s t : Str) (hv : RowS v x) (hu : RowS u y) (hx : x.length ≤ 1024) (hy : y.length ≤ 1024) {σ : Sto} (ht : TabF x y 0 σ) : ∀ (n i k : Nat) (hs : List Hk), (x.length - i) + (y.length - k) ≤ n → i ≤ x.length → k ≤ y.length → hs.length ≤ i + k →
    LE m6_0 l6_0 [(6, some v), (7, some u), (8, some (.arr 0 0 0 (x.length + 1) 1)), (9, some (accP 3 (hs.map Hk.pv))), (10, some (N i)), (11, some (N k))] σ (.exit 0)
      [(6, some v), (7, some u), (9, some (accP 3 ((hs ++ dif n i (x.drop i) (y.drop k)).map Hk.pv)))] σ := by
  intro n
  induction n with
  | zero =>
    intro i k hs hn hi hk hh
    show LE m6_0 l6_0 _ _ _ [(6, some v), (7, some u), (9, some (accP 3 ((hs ++ []).map Hk.pv)))] _
    rw [List.append_nil]
    exact r6_l0_out1 (s := s) (t := t) hv hu (by omega) (by omega)
  | succ n ih =>
    intro i k hs hn hi hk hh
    by_cases h0 : x.drop i = [] ∧ y.drop k = []
    · have h1 := congrArg List.length h0.1
      have h2 := congrArg List.length h0.2
      simp only [List.length_drop, List.length_nil] at h1 h2
      rw [h0.1, h0.2, dif_nil, List.append_nil]
      exact r6_l0_out1 (s := s) (t := t) hv hu (by omega) (by omega)
    · cases hm : meet (x.drop i) (y.drop k) with
      | true =>
        obtain ⟨a, x', y', ex, ey⟩ := meet_cons hm
        have l1 := congrArg List.length ex
        have l2 := congrArg List.length ey
        simp only [List.length_drop, List.length_cons] at l1 l2
        have hix : i < x.length := by omega
        have hky : k < y.length := by omega
        have dx : x.drop i = x[i] :: x.drop (i + 1) := List.drop_eq_getElem_cons hix
        have dy : y.drop k = y[k] :: y.drop (k + 1) := List.drop_eq_getElem_cons hky
        have e : x[i] = y[k] := by
          have a1 := (List.cons.inj (dx.symm.trans ex)).1
          have a2 := (List.cons.inj (dy.symm.trans ey)).1
          exact a1.trans a2.symm
        rw [dif_meet hm]
        have h := ih (i + 1) (k + 1) hs (by omega) (by omega) (by omega) (by omega)
        rw [dx, dy]
        simp only [List.tail_cons]
        exact r6_l0_next3 (s := s) (t := t) hv hu (by omega) (by omega) (List.getElem?_eq_getElem hix) (List.getElem?_eq_getElem hky) e (by omega) (by omega) h
      | false =>
        rw [dif_hunk h0 hm]
        have hok := inn_ok _ (x.drop i) (y.drop k) (Nat.le_refl _)
        have hst := inn_step h0 hm
        have q1 := congrArg List.length hok.ex
        have q2 := congrArg List.length hok.ey
        rw [List.length_append] at q1 q2
        simp only [List.length_drop] at q1 q2 hst
        have hin := hunk_loop s t hv hu hx hy ht hs (i + 1) (n + 1) i k [] (by omega) hi hk (by simp)
        simp only [List.nil_append] at hin
        have dx : x.drop (i + (inn (x.drop i) (y.drop k)).1.length) = (inn (x.drop i) (y.drop k)).2.2.1 := by
          rw [← List.drop_drop]
          have h7 := congrArg (List.drop (inn (x.drop i) (y.drop k)).1.length) hok.ex
          rwa [List.drop_left' rfl] at h7
        have dy : y.drop (k + (inn (x.drop i) (y.drop k)).2.1.length) = (inn (x.drop i) (y.drop k)).2.2.2 := by
          rw [← List.drop_drop]
          have h7 := congrArg (List.drop (inn (x.drop i) (y.drop k)).2.1.length) hok.ey
          rwa [List.drop_left' rfl] at h7
        have h := ih (i + (inn (x.drop i) (y.drop k)).1.length) (k + (inn (x.drop i) (y.drop k)).2.1.length) (hs ++ [⟨i + 1, i + (inn (x.drop i) (y.drop k)).1.length + 1, (inn (x.drop i) (y.drop k)).2.1⟩]) (by omega) (by omega) (by omega) (by simp; omega)
        rw [dx, dy, List.append_assoc] at h
        by_cases hix : i < x.length
        · by_cases hky : k < y.length
          · have g1 := List.getElem?_eq_getElem hix
            have g2 := List.getElem?_eq_getElem hky
            have e : x[i] ≠ y[k] := by
              intro e
              have ex : x.drop i = x[i] :: x.drop (i + 1) := List.drop_eq_getElem_cons hix
              have ey : y.drop k = y[k] :: y.drop (k + 1) := List.drop_eq_getElem_cons hky
              rw [ex, ey] at hm
              simp [meet, e] at hm
            exact r6_l0_next4 (s := s) (t := t) hv hu (by omega) (by omega) g1 g2 e (by omega) hin (by omega) (by simp only [maxRow]; omega) h
          · exact r6_l0_next1 (s := s) (t := t) hv hu (by omega) (by omega) (by omega) hin (by omega) (by simp only [maxRow]; omega) h
        · have hky : k < y.length := by
            rcases Nat.lt_or_ge k y.length with h' | h'
            · exact h'
            · exact absurd ⟨List.drop_eq_nil_of_le (by omega), List.drop_eq_nil_of_le h'⟩ h0
          exact r6_l0_next2 (s := s) (t := t) hv hu (by omega) (by omega) (by omega) hin (by omega) (by simp only [maxRow]; omega) h
theorem e6 {s t : Str} (hs : s.length < 4000000000) (ht : t.length < 4000000000) (hx : (lnA [] s).length ≤ 1024) (hy : (lnA [] t).length ≤ 1024) :
    ∃ σ, E 6 [.str s, .str t] [] (.tuple [accD 3 ((dif ((lnA [] s).length + (lnA [] t).length) 0 (lnA [] s) (lnA [] t)).map Hk.pv), I 0]) σ := by
  obtain ⟨v, σ1, hv, h1⟩ := e19 s hs
  obtain ⟨u, σ2, hu, h2⟩ := e19 t ht
  obtain ⟨σ, h3, h4⟩ := e20 hv hu (by omega) (by omega)
  have := diff_loop s t hv hu hx hy h3 ((lnA [] s).length + (lnA [] t).length) 0 0 [] (by omega) (by omega) (by omega) (by simp)
  simp only [List.drop_zero, List.nil_append] at this
  exact ⟨σ, r6_3 hv h1 hu h2 (by omega) (by omega) h4 this⟩
end Go.Abs.Z

namespace Go.Abs.Z
open Go.Proofs Go.RowKit
set_option linter.unusedVariables false
def rowD (a b : List Str) (i n : Nat) : List Nat := (List.range n).map (D a b i)
theorem rowD_succ (a b : List Str) (i n : Nat) : rowD a b i (n + 1) = rowD a b i n ++ [D a b i n] := by simp [rowD, List.range_succ]
theorem rowD_get {a b : List Str} {i n j : Nat} (h : j < n) : (rowD a b i n)[j]? = some (D a b i j) := by
  unfold rowD; rw [List.getElem?_map, List.getElem?_range h]; rfl
theorem rowD_len (a b : List Str) (i n : Nat) : (rowD a b i n).length = n := by simp [rowD]
theorem least0 {a b : List Str} (hb : b.length < 4000000) : ∀ (k i : Nat), b.length + 1 - i = k → i ≤ b.length + 1 →
    LE m12_0 l12_0 [(0, some (.slice false 1 (a.map PV.str))), (1, some (.slice false 1 (b.map PV.str))), (5, some (.slice true 1 ((rowD a b 0 i).map N))), (6, some (N i))] [] (.exit 0)
      [(0, some (.slice false 1 (a.map PV.str))), (1, some (.slice false 1 (b.map PV.str))), (5, some (.slice true 1 ((rowD a b 0 (b.length + 1)).map N)))] []
  | 0, i, hk, hi => by
    have e : i = b.length + 1 := by omega
    subst e
    exact r12_l0_out1 (by omega)
  | k + 1, i, hk, hi => by
    have ih := least0 (a := a) hb k (i + 1) (by omega) (by omega)
    rw [rowD_succ a b 0 i, D_zero_left] at ih
    exact r12_l0_next1 (by omega) (by rw [rowD_len]; simp only [maxRow]; omega) (by omega) ih
theorem least2 {a b : List Str} (o : Bool) (ha : a.length < 4000000) (hb : b.length < 4000000) {i : Nat} (hi : i < a.length) : ∀ (k j : Nat), b.length + 1 - j = k → 1 ≤ j → j ≤ b.length + 1 →
    LE m12_2 l12_2 [(0, some (.slice false 1 (a.map PV.str))), (1, some (.slice false 1 (b.map PV.str))), (5, some (.slice o 1 ((rowD a b i (b.length + 1)).map N))), (7, some (N (i + 1))), (8, some (.slice true 1 ((rowD a b (i + 1) j).map N))), (9, some (N j))] [] (.exit 4)
      [(0, some (.slice false 1 (a.map PV.str))), (1, some (.slice false 1 (b.map PV.str))), (5, some (.slice o 1 ((rowD a b i (b.length + 1)).map N))), (7, some (N (i + 1))), (8, some (.slice true 1 ((rowD a b (i + 1) (b.length + 1)).map N)))] []
  | 0, j, hk, h1, hj => by
    have e : j = b.length + 1 := by omega
    subst e
    exact r12_l2_out1 (by omega)
  | k + 1, j, hk, h1, hj => by
    obtain ⟨j, rfl⟩ : ∃ m, j = m + 1 := ⟨j - 1, by omega⟩
    have hjb : j < b.length := by omega
    have ih := least2 o ha hb hi k (j + 1 + 1) (by omega) (by omega) (by omega)
    rw [rowD_succ a b (i + 1) (j + 1)] at ih
    have b1 := D_le a b i (j + 1)
    have b2 := D_le a b (i + 1) j
    have gi := List.getElem?_eq_getElem hi
    have gj := List.getElem?_eq_getElem hjb
    by_cases e : a[i] = b[j]
    · rw [D_eq hi hjb e] at ih
      exact r12_l2_next1 (by omega) (rowD_get (by omega)) (by omega) (by omega) (by rw [Nat.add_sub_cancel]; exact rowD_get (by omega)) (by omega) (by omega) (by omega) (by rw [Nat.add_sub_cancel]; exact gi) (by rw [Nat.add_sub_cancel]; exact gj) e
        (by rw [Nat.add_sub_cancel]; exact rowD_get (by omega)) (by rw [rowD_len]; simp only [maxRow]; omega) ih
    · rw [D_ne hi hjb e] at ih
      exact r12_l2_next2 (by omega) (rowD_get (by omega)) (by omega) (by omega) (by rw [Nat.add_sub_cancel]; exact rowD_get (by omega)) (by omega) (by omega) (by omega) (by rw [Nat.add_sub_cancel]; exact gi) (by rw [Nat.add_sub_cancel]; exact gj) e
        (by rw [rowD_len]; simp only [maxRow]; omega) ih
theorem least1 {a b : List Str} (ha : a.length < 4000000) (hb : b.length < 4000000) : ∀ (k i : Nat) (o : Bool), a.length - i = k → i ≤ a.length → ∃ o' : Bool,
    LE m12_1 l12_1 [(0, some (.slice false 1 (a.map PV.str))), (1, some (.slice false 1 (b.map PV.str))), (5, some (.slice o 1 ((rowD a b i (b.length + 1)).map N))), (7, some (N (i + 1)))] [] (.exit 2)
      [(1, some (.slice false 1 (b.map PV.str))), (5, some (.slice o' 1 ((rowD a b a.length (b.length + 1)).map N)))] []
  | 0, i, o, hk, hi => by
    have e : i = a.length := by omega
    subst e
    exact ⟨o, r12_l1_out1 (by omega)⟩
  | k + 1, i, o, hk, hi => by
    obtain ⟨o', ih⟩ := least1 ha hb k (i + 1) false (by omega) (by omega)
    have h2 := least2 (a := a) (b := b) o ha hb (i := i) (by omega) b.length 1 (by omega) (by omega) (by omega)
    have e1 : rowD a b (i + 1) 1 = [i + 1] := by simp [rowD, D_zero_right]
    rw [e1] at h2
    exact ⟨o', r12_l1_next1 (by omega) h2 (by omega) ih⟩
theorem e12 {a b : List Str} (ha : a.length < 4000000) (hb : b.length < 4000000) : E 12 [.slice false 1 (a.map PV.str), .slice false 1 (b.map PV.str)] [] (N (D a b a.length b.length)) [] := by
  have h0 := least0 (a := a) hb (b.length + 1) 0 (by omega) (by omega)
  obtain ⟨o', h1⟩ := least1 ha hb a.length 0 true (by omega) (by omega)
  exact r12 h0 h1 (rowD_get (by omega))
def dif0 (x y : List Str) : List Hk := dif (x.length + y.length) 0 x y
theorem dif_count : ∀ (n i : Nat) (x y : List Str), x.length + y.length ≤ n → (dif n i x y).length ≤ x.length + y.length
  | 0, _, _, _, _ => by simp [dif]
  | n + 1, i, x, y, h => by
    by_cases h0 : x = [] ∧ y = []
    · obtain ⟨rfl, rfl⟩ := h0; simp [dif_nil]
    · cases hm : meet x y with
      | true =>
        obtain ⟨a, x', y', rfl, rfl⟩ := meet_cons hm
        rw [dif_meet hm]
        simp only [List.length_cons, List.tail_cons] at *
        have := dif_count n (i + 1) x' y' (by omega)
        omega
      | false =>
        rw [dif_hunk h0 hm]
        have hs := inn_step h0 hm
        have := dif_count n (i + (inn x y).1.length) (inn x y).2.2.1 (inn x y).2.2.2 (by omega)
        simp only [List.length_cons]
        omega
theorem joinL_lines (s : Str) : (joinL (lnA [] s)).length ≤ 2 * s.length := by
  have h1 := lnA_size s []
  have h2 := lnA_len0 s
  rw [joinL_len]
  simp only [List.length_nil] at h1
  omega
theorem diffs (a b : Str) (ha : a.length ≤ 300) (hb : b.length ≤ 300) : ∃ σ, E 6 [.str a, .str b] [] (.tuple [accD 3 ((dif0 (lnA [] a) (lnA [] b)).map Hk.pv), I 0]) σ :=
  e6 (by omega) (by omega) (by have := lnA_len0 a; omega) (by have := lnA_len0 b; omega)
theorem patched {a : Str} (b : Str) (ha : a.length ≤ 2000) (hb : b.length ≤ 300) : E 7 [.str a, accD 3 ((dif0 (lnA [] a) (lnA [] b)).map Hk.pv)] [] (.tuple [.str (joinL (lnA [] b)), I 0]) [] := by
  have h1 := lnA_len0 a
  have h2 := lnA_len0 b
  have h3 := dif_count _ 0 (lnA [] a) (lnA [] b) (Nat.le_refl _)
  have h4 := joinL_lines b
  have ht := dif_text (lnA [] a) (lnA [] b)
  have := e7 (row_acc (f := Hk.pv) 3 (dif0 (lnA [] a) (lnA [] b))) (s := a) (by omega) (by omega) (by unfold dif0; omega) (dif_ok _ _) (by unfold dif0; rw [ht]; omega)
  unfold dif0 at this ⊢
  rw [ht] at this
  exact this
theorem lines_back (b : Str) : lnA [] (joinL (lnA [] b)) = lnA [] b := lnA_join _ (lnA_noLf b [] (fun _ h => by cases h))
theorem diffs_run (a b : Str) : Runs a3 [.str a, .str b] [] (.bool true) [] := by
  by_cases ha : a.length > 300
  · exact r3_1 evA7 (by omega)
  by_cases hb : b.length > 300
  · exact r3_2 evA7 (by omega) (by omega)
  obtain ⟨σ2, h2⟩ := diffs a b (by omega) (by omega)
  obtain ⟨σ3, h3⟩ := diffs a a (by omega) (by omega)
  have h4 := patched (a := a) b (by omega) (by omega)
  have hr := row_acc (f := Hk.pv) 3 (dif0 (lnA [] a) (lnA [] b))
  have hr2 := row_acc (f := Hk.pv) 3 (dif0 (lnA [] a) (lnA [] a))
  have hself : dif0 (lnA [] a) (lnA [] a) = [] := dif_self _ _ _
  have l1 := lnA_len0 a
  have l2 := lnA_len0 b
  have l3 := dif_count _ 0 (lnA [] a) (lnA [] b) (Nat.le_refl _)
  have l4 := joinL_lines b
  have hsz := dif_size _ 0 (lnA [] a) (lnA [] b) (Nat.le_refl _)
  have h5 := e8 hr (s := a) (by omega) (by omega) (by unfold dif0; omega) (dif_ok _ _)
  have h6 := e9 a (by omega)
  have h7 := e9 b (by omega)
  have h8 := e9 (joinL (lnA [] b)) (by omega)
  rw [lines_back] at h8
  have h9 := e10 (lnA [] b) (by omega)
  have h10 := e11 hr (n := (lnA [] a).length) (by omega) (by unfold dif0; omega) (dif_ok _ _) (by unfold dif0; omega)
  have h11 := e12 (a := lnA [] a) (b := lnA [] b) (by omega) (by omega)
  have := r3_3 evA7 (by omega) (by omega) hr (evA h2) hr2 (evA h3) (evA h4) (by rw [hself]; simp) (evA h5) (evA h6) (evA h7) (evA h8) (evA h9) (evA h10) (evA h11)
  have e : (((size (dif0 (lnA [] a) (lnA [] b)) : Nat) : Int) == ((D (lnA [] a) (lnA [] b) (lnA [] a).length (lnA [] b).length : Nat) : Int)) = true := by
    unfold dif0; rw [dif_least]; simp
  rw [e] at this
  exact this
theorem long_loop (s t : Str) : ∀ (k i : Nat), 1025 - i = k → i ≤ 1025 → LR m4_0 l4_0 [(0, some (.str s)), (1, some (.str t)), (7, some (.str (List.replicate i 10))), (33, some (N i))] [] (.exit 0) [(0, some (.str s)), (1, some (.str t)), (7, some (.str (List.replicate 1025 10)))] []
  | 0, i, hk, hi => by
    have e : i = 1025 := by omega
    subst e
    exact m4_l0_out1 (by omega)
  | k + 1, i, hk, hi => by
    have ih := long_loop s t k (i + 1) (by omega) (by omega)
    have e : (List.replicate i 10 : Str) ++ [10] = List.replicate (i + 1) 10 := by rw [List.replicate_succ', ]
    rw [← e] at ih
    exact m4_l0_next1 (by omega) (by simp only [maxStr, List.length_replicate, List.length_cons, List.length_nil]; omega) (by omega) ih
theorem lnA_rep : ∀ n : Nat, lnA [] (List.replicate n 10) = List.replicate n []
  | 0 => rfl
  | n + 1 => by rw [List.replicate_succ, List.replicate_succ, lnA, if_pos rfl, lnA_rep n]
theorem e6_long1 {s t : Str} (hs : s.length < 4000000000) (ht : t.length < 4000000000) (hx : (lnA [] s).length > 1024) : E 6 [.str s, .str t] [] (.tuple [.nils, I 8]) [] := by
  obtain ⟨v, σ1, hv, h1⟩ := e19 s hs
  obtain ⟨u, σ2, hu, h2⟩ := e19 t ht
  exact r6_1 hv h1 hu h2 (by omega)
theorem e6_long2 {s t : Str} (hs : s.length < 4000000000) (ht : t.length < 4000000000) (hx : (lnA [] s).length ≤ 1024) (hy : (lnA [] t).length > 1024) : E 6 [.str s, .str t] [] (.tuple [.nils, I 8]) [] := by
  obtain ⟨v, σ1, hv, h1⟩ := e19 s hs
  obtain ⟨u, σ2, hu, h2⟩ := e19 t ht
  exact r6_2 hv h1 hu h2 (by omega) (by omega)
theorem back_many (a b : Str) : Runs a4 [.str a, .str b, .bool true] [] (.bool true) [] := by
  by_cases ha : a.length > 300
  · exact m4_1 evA7 (by omega)
  by_cases hb : b.length > 300
  · exact m4_2 evA7 (by omega) (by omega)
  have l1 := lnA_len0 a
  have hl : (lnA [] (List.replicate 1025 10)).length = 1025 := by rw [lnA_rep, List.length_replicate]
  have hl2 : (lnA [] (List.replicate 1024 10)).length = 1024 := by rw [lnA_rep, List.length_replicate]
  have hr : (List.replicate 1025 10 : Str).length = 1025 := List.length_replicate ..
  have hr2 : (List.replicate 1024 10 : Str).length = 1024 := List.length_replicate ..
  have h2 := e6_long1 (s := List.replicate 1025 10) (t := b) (by omega) (by omega) (by omega)
  have h3 := e6_long2 (s := a) (t := List.replicate 1025 10) (by omega) (by omega) (by omega) (by omega)
  obtain ⟨σ, h4⟩ := e6 (s := List.replicate 1024 10) (t := List.replicate 1024 10) (by omega) (by omega) (by omega) (by omega)
  have hx : semP (.ssl true false) [.str (List.replicate 1025 10), I 1] = some [some (.str (List.replicate 1024 10))] := by
    simp only [semP, cutB]
    rw [if_pos (by omega)]
    simp only [Option.map_some, hr]
    show some [some (PV.str (((List.replicate 1025 10 : Str).drop 1).take (1025 - 1)))] = _
    rw [List.drop_replicate, List.take_replicate, show min (1025 - 1) (1025 - 1) = 1024 from by decide]
  exact m4_3 evA7 (by omega) (by omega) (long_loop a b 1025 0 (by omega) (by omega)) (evA h2) (evA h3) hx hx (row_acc 3 _) (evA h4)
theorem back_run (a b : Str) (m : Bool) : Runs a4 [.str a, .str b, .bool m] [] (.bool true) [] := by
  cases m with
  | true => exact back_many a b
  | false =>
    by_cases ha : a.length > 300
    · exact r4_1 evA7 (by omega)
    by_cases hb : b.length > 300
    · exact r4_2 evA7 (by omega) (by omega)
    obtain ⟨σ2, h2⟩ := diffs a b (by omega) (by omega)
    obtain ⟨σ3, h3⟩ := diffs b a (by omega) (by omega)
    have l4 := joinL_lines b
    have l5 := joinL_lines a
    have h4 := patched (a := a) b (by omega) (by omega)
    have h5 := patched (a := joinL (lnA [] b)) a (by omega) (by omega)
    rw [lines_back] at h5
    have hr := row_acc (f := Hk.pv) 3 (dif0 (lnA [] a) (lnA [] b))
    have hr2 := row_acc (f := Hk.pv) 3 (dif0 (lnA [] b) (lnA [] a))
    have l1 := lnA_len0 a
    have l2 := lnA_len0 b
    have l3 := dif_count _ 0 (lnA [] a) (lnA [] b) (Nat.le_refl _)
    have l6 := dif_count _ 0 (lnA [] b) (lnA [] a) (Nat.le_refl _)
    have hsz := dif_size _ 0 (lnA [] a) (lnA [] b) (Nat.le_refl _)
    have hsz2 := dif_size _ 0 (lnA [] b) (lnA [] a) (Nat.le_refl _)
    have h6 := e11 hr2 (n := (lnA [] b).length) (by omega) (by unfold dif0; omega) (dif_ok _ _) (by unfold dif0; omega)
    have h7 := e11 hr (n := (lnA [] a).length) (by omega) (by unfold dif0; omega) (dif_ok _ _) (by unfold dif0; omega)
    have h8 := e9 (joinL (lnA [] a)) (by omega)
    rw [lines_back] at h8
    have h9 := e9 a (by omega)
    have h10 := e10 (lnA [] a) (by omega)
    have hb := dif_back (lnA [] b) (lnA [] a)
    exact r4_3 evA7 (by omega) (by omega) hr (evA h2) hr2 (evA h3) (evA h4) (evA h5) (evA h6) (evA h7) (by unfold dif0; rw [hb]) (evA h8) (evA h9) (evA h10)
end Go.Abs.Z
