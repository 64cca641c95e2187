/- A part of the proof: K5 K6. -/
import Derived.Test.YtaedbcepkgdboaaGreatDoorWb
import Derived.Test.YtaedbcepkgdboaaGreatDoorDa

set_option linter.unusedVariables false
set_option linter.unusedSimpArgs false
namespace Go.Abs.Z
open Go.Proofs Go.RowKit
set_option linter.unusedVariables false
def rowF (f : Nat → Nat) (k n : Nat) : List PV := (List.range n).map fun j => N (if k ≤ j then f j else 0)
theorem rowF_get {f : Nat → Nat} {k n j : Nat} (h : j < n) : (rowF f k n)[j]? = some (N (if k ≤ j then f j else 0)) := by
  unfold rowF; rw [List.getElem?_map, List.getElem?_range h]; rfl
theorem rowF_set {f : Nat → Nat} {k n : Nat} (h : k < n) : (rowF f (k + 1) n).set k (N (f k)) = rowF f k n := by
  apply List.ext_getElem?
  intro j
  rw [List.getElem?_set]
  have hl : (rowF f (k + 1) n).length = n := by simp [rowF]
  rw [hl]
  by_cases hj : j < n
  · by_cases e : k = j
    · subst e; rw [if_pos rfl, if_pos h, rowF_get hj, if_pos (Nat.le_refl _)]
    · rw [if_neg e, rowF_get hj, rowF_get hj]
      congr 2
      by_cases h2 : k + 1 ≤ j
      · rw [if_pos h2, if_pos (by omega)]
      · rw [if_neg h2, if_neg (by omega)]
  · rw [if_neg (by omega)]
    simp [rowF, List.getElem?_eq_none, hj]
theorem rowF_zero {f : Nat → Nat} {k n : Nat} (h : ∀ j, k ≤ j → j < n → f j = 0) : rowF f k n = List.replicate n (N 0) := by
  apply List.ext_getElem?
  intro j
  by_cases hj : j < n
  · rw [rowF_get hj, List.getElem?_replicate, if_pos hj]
    by_cases h2 : k ≤ j
    · rw [if_pos h2, h j h2 hj]
    · rw [if_neg h2]
  · simp [rowF, List.getElem?_eq_none, hj]
def lcF (x y : List Str) (i j : Nat) : Nat := lc (x.drop i) (y.drop j)
theorem lcF_lt (x y : List Str) (i j : Nat) : lcF x y i j ≤ x.length := by
  have := (lc_le (x.drop i) (y.drop j)).1
  rw [List.length_drop] at this
  unfold lcF; omega
theorem lcF_eq {x y : List Str} {i j : Nat} (hi : i < x.length) (hj : j < y.length) (h : x[i] = y[j]) : lcF x y i j = lcF x y (i + 1) (j + 1) + 1 := by
  unfold lcF
  rw [List.drop_eq_getElem_cons hi, List.drop_eq_getElem_cons hj, h, lc_eq]
theorem lcF_ne {x y : List Str} {i j : Nat} (hi : i < x.length) (hj : j < y.length) (h : x[i] ≠ y[j]) : lcF x y i j = max (lcF x y (i + 1) j) (lcF x y i (j + 1)) := by
  unfold lcF
  rw [List.drop_eq_getElem_cons hi, List.drop_eq_getElem_cons hj, lc_ne h]
theorem lcF_end (x y : List Str) (i : Nat) : lcF x y i y.length = 0 := by unfold lcF; rw [List.drop_length, lc_nil_right]
theorem lcF_last (x y : List Str) (j : Nat) : lcF x y x.length j = 0 := by unfold lcF; rw [List.drop_length, lc_nil_left]
structure TabF (x y : List Str) (i : Nat) (σ : Sto) : Prop where
  len : σ.length = x.length + 2 - i
  out : ∃ es : List PV, σ[0]? = some [.arrv 0 1 es] ∧ es.length = x.length + 1 ∧ (∀ e ∈ es, e.isAgg = false) ∧ ∀ j, i ≤ j → j ≤ x.length → es[j]? = some (.arr (x.length - j + 1) 0 0 (y.length + 1) 1)
  row : ∀ j, i ≤ j → j ≤ x.length → σ[x.length - j + 1]? = some [.arrv 0 1 (rowF (lcF x y j) 0 (y.length + 1))]
structure TabR (x y : List Str) (i k : Nat) (σ : Sto) : Prop where
  len : σ.length = x.length + 2 - i
  out : ∃ es : List PV, σ[0]? = some [.arrv 0 1 es] ∧ es.length = x.length + 1 ∧ (∀ e ∈ es, e.isAgg = false) ∧ ∀ j, i ≤ j → j ≤ x.length → es[j]? = some (.arr (x.length - j + 1) 0 0 (y.length + 1) 1)
  row : ∀ j, i + 1 ≤ j → j ≤ x.length → σ[x.length - j + 1]? = some [.arrv 0 1 (rowF (lcF x y j) 0 (y.length + 1))]
  cur : σ[x.length - i + 1]? = some [.arrv 0 1 (rowF (lcF x y i) k (y.length + 1))]
variable {v u : PV} {x y : List Str}
theorem tab_ld {i : Nat} {σ : Sto} {es : List PV} (h0 : σ[0]? = some [.arrv 0 1 es]) {j : Nat} (hj : es[j]? = some (.arr (x.length - j + 1) 0 0 (y.length + 1) 1)) : semR (.ld 1 false) [.aptr 0 0 1 (0 + j) 0] σ = some [some (.arr (x.length - j + 1) 0 0 (y.length + 1) 1)] :=
  ld_arr h0 (by rw [Nat.zero_add]; exact hj) ⟨rfl, rfl, rfl, rfl⟩
theorem row_ld {σ : Sto} {id k n j : Nat} {f : Nat → Nat} (h : σ[id]? = some [.arrv 0 1 (rowF f k n)]) (hj : j < n) (hk : k ≤ j) : semR (.ld 1 false) [.aptr id 0 1 (0 + j) 0] σ = some [some (N (f j))] := by
  refine ld_arr h ?_ ⟨rfl, rfl, rfl, rfl⟩
  rw [Nat.zero_add, rowF_get hj, if_pos hk]
theorem TabR.put {i k m : Nat} {σ : Sto} (h : TabR x y i (k + 1) σ) (hi : i ≤ x.length) (hk : k < y.length + 1) (hm : m = lcF x y i k) : ∃ σ', OpEv pur run (.w (.st 1)) [.aptr (x.length - i + 1) 0 1 (0 + k) 0, N m] σ [] σ' ∧ TabR x y i k σ' := by
  subst hm
  have hst := st_arr (id := x.length - i + 1) (i := 0 + k) (e := N 0) (v := N (lcF x y i k)) h.cur (by rw [Nat.zero_add, rowF_get hk, if_neg (by omega)]) rfl ⟨rfl, rfl, rfl, rfl, rfl⟩
  rw [Nat.zero_add] at hst ⊢
  rw [rowF_set hk] at hst
  refine ⟨_, hst, ⟨by rw [List.length_set]; exact h.len, ?_, fun j hj hj' => ?_, ?_⟩⟩
  · obtain ⟨es, e1, e2, e3, e4⟩ := h.out
    exact ⟨es, by rw [List.getElem?_set_ne (by omega)]; exact e1, e2, e3, e4⟩
  · rw [List.getElem?_set_ne (by omega)]; exact h.row j hj hj'
  · rw [List.getElem?_set_self (by have := h.len; omega)]
theorem row_loop (hv : RowS v x) (hu : RowS u y) (hx : x.length < 4000000000) (hy : y.length < 4000000000) {i : Nat} (hi : i < x.length) : ∀ (k : Nat) (σ : Sto), k ≤ y.length → TabR x y i k σ →
    ∃ σ', TabR x y i 0 σ' ∧ LE m20_1 l20_1 [(0, some v), (1, some u), (5, some (.arr 0 0 0 (x.length + 1) 1)), (6, some (N i)), (7, some (.int .i64 ((k : Int) - 1)))] σ (.exit 2) [(0, some v), (1, some u), (5, some (.arr 0 0 0 (x.length + 1) 1)), (6, some (N i))] σ'
  | 0, σ, hk, ht => ⟨σ, ht, y20_l1_out1 hv hu⟩
  | k + 1, σ, hk, ht => by
    have hky : k < y.length := by omega
    have g1 := List.getElem?_eq_getElem hi
    have g2 := List.getElem?_eq_getElem hky
    obtain ⟨es, e1, e2, e3, e4⟩ := ht.out
    have x1 := tab_ld (x := x) (y := y) (i := i) e1 (e4 i (Nat.le_refl _) (by omega))
    have x2 := tab_ld (x := x) (y := y) (i := i) e1 (e4 (i + 1) (by omega) (by omega))
    have hcur : ((k : Nat) : Int) = (((k + 1 : Nat) : Int) - 1) := by omega
    rw [← hcur]
    by_cases he : x[i] = y[k]
    · have x3 := row_ld (j := k + 1) (ht.row (i + 1) (Nat.le_refl _) (by omega)) (by omega) (Nat.zero_le _)
      obtain ⟨σ1, h1, h2⟩ := ht.put (m := lcF x y (i + 1) (k + 1) + 1) (by omega) (by omega) (lcF_eq hi hky he).symm
      obtain ⟨σ', t1, t2⟩ := row_loop hv hu hx hy hi k σ1 (by omega) h2
      refine ⟨σ', t1, ?_⟩
      have := lcF_lt x y (i + 1) (k + 1)
      by_cases h0 : k = 0
      · subst h0
        exact r20_l1_next2 hv hu (by omega) (by omega) g1 g2 he (by omega) x1 (by omega) (by omega) x2 (by omega) (by omega) x3 (by omega) (by omega) h1 rfl t2
      · have hcur2 : ((k : Int) - 1) = (((k - 1 : Nat)) : Int) := by omega
        rw [hcur2] at t2
        exact r20_l1_next1 hv hu (by omega) (by omega) g1 g2 he (by omega) x1 (by omega) (by omega) x2 (by omega) (by omega) x3 (by omega) (by omega) h1 (by omega) t2
    · have x3 := row_ld (j := k) (ht.row (i + 1) (Nat.le_refl _) (by omega)) (by omega) (Nat.zero_le _)
      have x5 := row_ld (j := k + 1) ht.cur (by omega) (Nat.le_refl _)
      obtain ⟨σ1, h1, h2⟩ := ht.put (m := max (lcF x y (i + 1) k) (lcF x y i (k + 1))) (by omega) (by omega) (lcF_ne hi hky he).symm
      obtain ⟨σ', t1, t2⟩ := row_loop hv hu hx hy hi k σ1 (by omega) h2
      refine ⟨σ', t1, ?_⟩
      by_cases h0 : k = 0
      · subst h0
        exact r20_l1_next4 hv hu (by omega) (by omega) g1 g2 he (by omega) x1 (by omega) (by omega) x2 (by omega) x3 x1 (by omega) (by omega) x5 (by omega) h1 rfl t2
      · have hcur2 : ((k : Int) - 1) = (((k - 1 : Nat)) : Int) := by omega
        rw [hcur2] at t2
        exact r20_l1_next3 hv hu (by omega) (by omega) g1 g2 he (by omega) x1 (by omega) (by omega) x2 (by omega) x3 x1 (by omega) (by omega) x5 (by omega) h1 (by omega) t2
end Go.Abs.Z

namespace Go.Abs.Z
open Go.Proofs Go.RowKit
set_option linter.unusedVariables false
variable {v u : PV} {x y : List Str}
theorem row_start {i : Nat} {σ : Sto} (hi : i ≤ x.length) (hy : y.length < 4000000000) (ht : TabF x y (i + 1) σ) : ∃ σ3 σ4, OpEv pur run (.w (.mks 1 (.int .i64 0))) [N (y.length + 1), N (y.length + 1)] σ [some (.arr (x.length - i + 1) 0 0 (y.length + 1) 1)] σ3 ∧
    OpEv pur run (.w (.st 1)) [.aptr 0 0 1 (0 + i) 0, .arr (x.length - i + 1) 0 0 (y.length + 1) 1] σ3 [] σ4 ∧ TabR x y i (if i = x.length then 0 else y.length) σ4 := by
  have hlen := ht.len
  have hid : σ.length = x.length - i + 1 := by omega
  have h1 := mks_ok (z := .int .i64 0) (n := y.length + 1) (σ := σ) (by omega) ⟨rfl, rfl⟩
  rw [hid] at h1
  obtain ⟨es, e1, e2, e3, e4⟩ := ht.out
  have e1' : (σ ++ [[PV.arrv 0 1 (List.replicate (y.length + 1) (.int .i64 0))]])[0]? = some [.arrv 0 1 es] := by rw [List.getElem?_append_left (by omega)]; exact e1
  have hil : i < es.length := by omega
  have h2 := st_arr (id := 0) (i := 0 + i) (e := es[i]) (v := .arr (x.length - i + 1) 0 0 (y.length + 1) 1) e1' (by rw [Nat.zero_add]; exact List.getElem?_eq_getElem hil) (e3 _ (List.getElem_mem hil)) ⟨rfl, rfl, rfl, rfl, rfl⟩
  refine ⟨_, _, h1, h2, ⟨?_, ?_, fun j hj hj' => ?_, ?_⟩⟩
  · rw [List.length_set, List.length_append, List.length_singleton]; omega
  · refine ⟨es.set i (.arr (x.length - i + 1) 0 0 (y.length + 1) 1), by rw [Nat.zero_add, List.getElem?_set_self (by simp)], by rw [List.length_set]; exact e2, fun e he => ?_, fun j hj hj' => ?_⟩
    · rcases List.mem_or_eq_of_mem_set he with h | h
      · exact e3 e h
      · subst h; rfl
    · by_cases hji : i = j
      · subst hji; rw [List.getElem?_set_self hil]
      · rw [List.getElem?_set_ne hji]; exact e4 j (by omega) hj'
  · rw [List.getElem?_set_ne (by omega), List.getElem?_append_left (by omega)]; exact ht.row j hj hj'
  · rw [List.getElem?_set_ne (by omega), List.getElem?_append_right (by omega), hid, Nat.sub_self]
    show some [PV.arrv 0 1 (List.replicate (y.length + 1) (.int .i64 0))] = _
    have : rowF (lcF x y i) (if i = x.length then 0 else y.length) (y.length + 1) = List.replicate (y.length + 1) (N 0) := by
      apply rowF_zero
      intro j hj hj'
      by_cases h : i = x.length
      · subst h; exact lcF_last x y j
      · rw [if_neg h] at hj
        rw [show j = y.length from by omega]; exact lcF_end x y i
    rw [this]; rfl
theorem TabR.done {i : Nat} {σ : Sto} (h : TabR x y i 0 σ) : TabF x y i σ := by
  refine ⟨h.len, h.out, fun j hj hj' => ?_⟩
  by_cases e : j = i
  · subst e; exact h.cur
  · exact h.row j (by omega) hj'
theorem row_all (hv : RowS v x) (hu : RowS u y) (hx : x.length < 4000000000) (hy : y.length < 4000000000) {i : Nat} (hi : i ≤ x.length) {σ : Sto} (ht : TabR x y i (if i = x.length then 0 else y.length) σ) :
    ∃ σ', TabF x y i σ' ∧ LE m20_1 l20_1 [(0, some v), (1, some u), (5, some (.arr 0 0 0 (x.length + 1) 1)), (6, some (N i)), (7, some (.int .i64 ((y.length : Int) - 1)))] σ (.exit 2) [(0, some v), (1, some u), (5, some (.arr 0 0 0 (x.length + 1) 1)), (6, some (N i))] σ' := by
  by_cases h : i = x.length
  · rw [if_pos h] at ht
    refine ⟨σ, ht.done, ?_⟩
    by_cases h0 : y.length = 0
    · rw [h0]; exact y20_l1_out1 hv hu
    · have hc : ((y.length : Int) - 1) = ((y.length - 1 : Nat) : Int) := by omega
      rw [hc]
      exact r20_l1_out2 hv hu (by omega) (by omega)
  · rw [if_neg h] at ht
    obtain ⟨σ', h1, h2⟩ := row_loop hv hu hx hy (by omega) y.length σ (Nat.le_refl _) ht
    exact ⟨σ', h1.done, h2⟩
theorem tab_loop (hv : RowS v x) (hu : RowS u y) (hx : x.length < 4000000000) (hy : y.length < 4000000000) : ∀ (i : Nat) (σ : Sto), i ≤ x.length → TabF x y (i + 1) σ →
    ∃ σ', TabF x y 0 σ' ∧ LE m20_0 l20_0 [(0, some v), (1, some u), (5, some (.arr 0 0 0 (x.length + 1) 1)), (6, some (N i))] σ (.exit 0) [(0, some v), (5, some (.arr 0 0 0 (x.length + 1) 1))] σ' := by
  intro i
  induction i with
  | zero =>
    intro σ hi ht
    obtain ⟨σ3, σ4, h1, h2, h3⟩ := row_start hi hy ht
    obtain ⟨σ5, h4, h5⟩ := row_all hv hu hx hy hi h3
    refine ⟨σ5, h4, ?_⟩
    by_cases h0 : y.length = 0
    · rw [h0] at h5
      exact r20_l0_next4 hv hu (by omega) (by omega) h1 (by omega) h2 h0 h5 rfl (z20_l0_out1 hv hu)
    · have hc : ((y.length : Int) - 1) = ((y.length - 1 : Nat) : Int) := by omega
      rw [hc] at h5
      exact r20_l0_next2 hv hu (by omega) (by omega) h1 (by omega) h2 (by omega) h5 rfl (z20_l0_out1 hv hu)
  | succ i ih =>
    intro σ hi ht
    obtain ⟨σ3, σ4, h1, h2, h3⟩ := row_start hi hy ht
    obtain ⟨σ5, h4, h5⟩ := row_all hv hu hx hy hi h3
    obtain ⟨σ', h6, h7⟩ := ih σ5 (by omega) h4
    refine ⟨σ', h6, ?_⟩
    have e : (i + 1) - 1 = i := rfl
    by_cases h0 : y.length = 0
    · rw [h0] at h5
      exact r20_l0_next3 hv hu (by omega) (by omega) h1 (by omega) h2 h0 h5 (by omega) (by omega) h7
    · have hc : ((y.length : Int) - 1) = ((y.length - 1 : Nat) : Int) := by omega
      rw [hc] at h5
      exact r20_l0_next1 hv hu (by omega) (by omega) h1 (by omega) h2 (by omega) h5 (by omega) (by omega) h7
theorem e20 (hv : RowS v x) (hu : RowS u y) (hx : x.length < 4000000000) (hy : y.length < 4000000000) : ∃ σ, TabF x y 0 σ ∧ E 20 [v, u] [] (.arr 0 0 0 (x.length + 1) 1) σ := by
  have hm := mks_ok (z := PV.nils) (n := x.length + 1) (σ := []) (by omega) ⟨rfl, rfl⟩
  have ht : TabF x y (x.length + 1) ([] ++ [[PV.arrv 0 1 (List.replicate (x.length + 1) .nils)]]) := by
    refine ⟨by simp, ⟨_, rfl, by simp, fun e he => ?_, fun j hj hj' => by omega⟩, fun j hj hj' => by omega⟩
    have := List.eq_of_mem_replicate he
    subst this; rfl
  obtain ⟨σ', h1, h2⟩ := tab_loop hv hu hx hy x.length _ (Nat.le_refl _) ht
  exact ⟨σ', h1, r20 hv hu (by omega) hm h2⟩
end Go.Abs.Z
