/- A part of the proof: D35. -/
import Derived.Test.YtfahhgdeociahaaGreatDoorWh
import Derived.Test.YtfahhgdeociahaaGreatDoorDg

set_option linter.unusedVariables false
set_option linter.unusedSimpArgs false
namespace Go.Abs.Z
open Go.Proofs Go.RowKit
set_option linter.unusedVariables false
def nameB (x : List UInt8) : Bool := decide (x ≠ []) && (decide (x.length ≤ 16) && (leB (x.headD 0) && (x.all woB && !kwL.contains x)))
def numD (x : List UInt8) : Bool := numB x && (x == [48] || x.headD 0 != 48)
abbrev opW : List (List UInt8) := [wOr, wAnd, [61, 61], [33, 61], [60], [60, 61], [62], [62, 61], [43], [45], [42], [47], [37]]
theorem BzK (p : UInt8 → Bool) : ∀ x : List UInt8, x.all p = true → runL p x = x.length
  | [], _ => rfl
  | c :: x, h => by
    rw [List.all_cons, Bool.and_eq_true] at h;have := BzK p x h.2;simp only [runL, List.takeWhile_cons, h.1, if_true, List.length_cons] at this ⊢;omega
theorem le_not {c : UInt8} (h : leB c = true) : whB c = false ∧ c ≠ 35 := by
  simp only [leB, Bool.and_eq_true, decide_eq_true_eq] at h;have ne : ∀ d : UInt8, d.toNat < 97 → c ≠ d := fun d hd e => by subst e; omega
  refine ⟨?_, ne 35 (by decide)⟩
  simp only [whB, Bool.or_eq_false_iff, beq_eq_false_iff_ne];exact ⟨⟨⟨ne 9 (by decide), ne 10 (by decide)⟩, ne 13 (by decide)⟩, ne 32 (by decide)⟩
theorem Az0 {x : List UInt8} (h : nameB x = true) : E 112 [.str x] [] (.bool true) [] := by
  simp only [nameB, Bool.and_eq_true, decide_eq_true_eq, Bool.not_eq_true'] at h;obtain ⟨h1, h2, h3, h4, h5⟩ := h;cases x with
  | nil => exact absurd rfl h1
  | cons c l =>
    have h3 : leB c = true := h3;obtain ⟨w1, w2⟩ := le_not h3;have a1 := f90 c;rw [h3] at a1;have a2 := f92 (c :: l);rw [h5] at a2;have a3 := f41 (c :: l) (by omega) 0 (c := c) (l := l) rfl w1 w2
    rw [List.drop_zero, Nat.zero_add] at a3
    have e : (tokN (c :: l)).2 = (c :: l).length := by
      unfold tokN;rw [List.headD_cons, if_pos h3];exact BzK woB _ h4
    rw [e] at a3;have := r112 (w := c :: l) (by simp; omega) (by omega) rfl a1 a2 a3
    simpa using this
theorem num_ok {x : List UInt8} (h : numD x = true) : E 113 [.str x] [] (.bool true) [] := by
  simp only [numD, Bool.and_eq_true, Bool.or_eq_true, beq_iff_eq, bne_iff_ne] at h;obtain ⟨h1, h2⟩ := h;obtain ⟨z, hz⟩ := f64 x;rw [h1] at hz;by_cases h48 : x = [48]
  · exact r113_2 hz h48
  · cases x with
    | nil => simp [numB] at h1
    | cons c l =>
      have := r113_3 (c2 := c) hz h48 rfl;have hc : c ≠ 48 := h2.resolve_left h48;have hn : ((c.toNat : Nat) : Int) ≠ 48 := fun e => hc (UInt8.toNat_inj.1 (by show c.toNat = 48; omega))
      have e : (((c.toNat : Nat) : Int) != 48) = true := by simpa using hn
      rw [e] at this; exact this
theorem numB_all {x : List UInt8} (h : numB x = true) : x.all diB = true := by
  simp only [numB, Bool.and_eq_true, decide_eq_true_eq] at h
  have key : ∀ x : List UInt8, x.length ≤ runL diB x → x.all diB = true := by
    intro x
    induction x with
    | nil => intro _; rfl
    | cons c x ih =>
      intro h;simp only [runL, List.takeWhile_cons] at h ih;cases hc : diB c with
      | true =>
        rw [hc] at h;simp only [if_true, List.length_cons] at h;rw [List.all_cons, hc, ih (by omega)]; rfl
      | false => rw [hc] at h; simp at h
  exact key x h.2.2
theorem numD_dgt {x : List UInt8} (h : numB x = true) : numD (dgt x) = true := by
  have ha := numB_all h;have hl : x.length ≤ 9 := by simp only [numB, Bool.and_eq_true, decide_eq_true_eq] at h; exact h.2.1
  have hx : x ≠ [] := by simp only [numB, Bool.and_eq_true, decide_eq_true_eq] at h; exact h.1
  unfold dgt;by_cases hd : x.dropWhile (· == 48) = []
  · simp only [hd, hx, ne_eq, not_false_eq_true, and_true, if_true]; decide
  · simp only [hd, false_and, if_false];have hs : (x.dropWhile (· == 48)).Sublist x := List.dropWhile_sublist _;have h1 : (x.dropWhile (· == 48)).all diB = true := List.all_eq_true.2 fun c hc => List.all_eq_true.1 ha c (hs.mem hc)
    have h2 := BzK diB _ h1;have h3 := hs.length_le
    have h4 : ((x.dropWhile (· == 48)).headD 0 != 48) = true := by
      have := List.head_dropWhile_not (fun c => c == 48) hd
      cases hq : x.dropWhile (· == 48) with
      | nil => exact absurd hq hd
      | cons c l =>
        simp only [hq, List.head_cons] at this;simpa using this
    simp only [numD, numB, Bool.and_eq_true, decide_eq_true_eq, Bool.or_eq_true];exact ⟨⟨hd, by omega, by omega⟩, .inr h4⟩
abbrev T66 (k : Nat) (tx : List UInt8) : Prop := ∀ T : Tr, T.kind = (k : Nat) → T.text = tx → E 66 [T.pv] [] (.bool true) []
abbrev K68 (k i : Nat) (P : Int → Prop) : Prop := ∀ U : Tr, P U.kind → E 68 [I (k : Nat), N i, U.pv] [] (.bool true) []
theorem ex_ok {k : Int} (h : 20 ≤ k ∧ k ≤ 29) : E 117 [I k] [] (.bool true) [] := by
  have := r117_1 (k := k) (by omega)
  rwa [decide_eq_true h.2] at this
theorem t66_3 {tx : List UInt8} (h : nameB tx = true) : T66 3 tx := fun T e1 e2 => r66_3 (by omega) (by rw [e2]; exact Az0 h)
theorem t66_4 {tx : List UInt8} (h : nameB tx = true) : T66 4 tx := fun T e1 e2 => r66_4 (by omega) (by omega) (by rw [e2]; exact Az0 h)
theorem t66_5 {tx : List UInt8} (h : nameB tx = true) : T66 5 tx := fun T e1 e2 => r66_5 (by omega) (by omega) (by omega) (by rw [e2]; exact Az0 h)
theorem t66_7 {tx : List UInt8} (h : nameB tx = true) : T66 7 tx := fun T e1 e2 => r66_7 (by omega) (by omega) (by omega) (by omega) (by rw [e2]; exact Az0 h)
theorem t66_8 {tx : List UInt8} (h : nameB tx = true) : T66 8 tx := fun T e1 e2 => r66_8 (by omega) (by omega) (by omega) (by omega) (by omega) (by rw [e2]; exact Az0 h)
theorem t66_12 {tx : List UInt8} (h : nameB tx = true) : T66 12 tx := fun T e1 e2 => r66_12 (by omega) (by omega) (by omega) (by omega) (by omega) (by omega) (by rw [e2]; exact Az0 h)
theorem t66_16 {tx : List UInt8} (h : nameB tx = true) : T66 16 tx := fun T e1 e2 => r66_16 (by omega) (by omega) (by omega) (by omega) (by omega) (by omega) (by omega) (by rw [e2]; exact Az0 h)
theorem t66_19 {tx : List UInt8} (h : nameB tx = true) : T66 19 tx := fun T e1 e2 => r66_19 (by omega) (by omega) (by omega) (by omega) (by omega) (by omega) (by omega) (by omega) (by rw [e2]; exact Az0 h)
theorem t66_20 {tx : List UInt8} (h : nameB tx = true) : T66 20 tx := fun T e1 e2 => r66_20 (by omega) (by omega) (by omega) (by omega) (by omega) (by omega) (by omega) (by omega) (by omega) (by rw [e2]; exact Az0 h)
theorem t66_22 {tx : List UInt8} (h : nameB tx = true) : T66 22 tx := fun T e1 e2 => r66_22 (by omega) (by omega) (by omega) (by omega) (by omega) (by omega) (by omega) (by omega) (by omega) (by omega) (by rw [e2]; exact Az0 h)
theorem t66_27 {tx : List UInt8} (h : nameB tx = true) : T66 27 tx := fun T e1 e2 => r66_27 (by omega) (by omega) (by omega) (by omega) (by omega) (by omega) (by omega) (by omega) (by omega) (by omega) (by omega) (by rw [e2]; exact Az0 h)
theorem t66_10 {tx : List UInt8} (h : numD tx = true) : T66 10 tx := fun T e1 e2 => r66_10 (by omega) (by omega) (by omega) (by omega) (by omega) (by omega) (by omega) (by omega) (by omega) (by omega) (by omega) (by omega) (by omega) (by rw [e2]; exact num_ok h)
theorem t66_24 {tx : List UInt8} (h : numD tx = true) : T66 24 tx := fun T e1 e2 => r66_24 (by omega) (by omega) (by omega) (by omega) (by omega) (by omega) (by omega) (by omega) (by omega) (by omega) (by omega) (by omega) (by omega) (by omega) (by rw [e2]; exact num_ok h)
theorem t66_9 {tx : List UInt8} (h : tx = wInt ∨ tx = wBool ∨ nameB tx = true) : T66 9 tx := fun T e1 e2 => by
  by_cases h1 : tx = wInt
  · exact r66_9_1 (by omega) (by omega) (by omega) (by omega) (by omega) (by omega) (by omega) (by omega) (by omega) (by omega) (by omega) (by omega) (e2.trans h1)
  · by_cases h2 : tx = wBool
    · exact r66_9_2 (by omega) (by omega) (by omega) (by omega) (by omega) (by omega) (by omega) (by omega) (by omega) (by omega) (by omega) (by omega) (by rw [e2]; exact h1) (e2.trans h2)
    · exact r66_9_3 (by omega) (by omega) (by omega) (by omega) (by omega) (by omega) (by omega) (by omega) (by omega) (by omega) (by omega) (by omega) (by rw [e2]; exact h1) (by rw [e2]; exact h2) (by rw [e2]; exact Az0 (h.resolve_left h1 |>.resolve_left h2))
theorem t66_25 {tx : List UInt8} (h : tx = wTrue ∨ tx = Bq0) : T66 25 tx := fun T e1 e2 => by
  by_cases h1 : tx = wTrue
  · exact r66_25_1 (by omega) (by omega) (by omega) (by omega) (by omega) (by omega) (by omega) (by omega) (by omega) (by omega) (by omega) (by omega) (by omega) (by omega) (by omega) (e2.trans h1)
  · have := r66_25_2 (T := T) (by omega) (by omega) (by omega) (by omega) (by omega) (by omega) (by omega) (by omega) (by omega) (by omega) (by omega) (by omega) (by omega) (by omega) (by omega) (by rw [e2]; exact h1)
    rw [e2, h.resolve_left h1] at this;exact this
theorem t66_28 {tx : List UInt8} (h : tx = [45] ∨ tx = wNot) : T66 28 tx := fun T e1 e2 => by
  by_cases h1 : tx = [45]
  · exact r66_28_1 (by omega) (by omega) (by omega) (by omega) (by omega) (by omega) (by omega) (by omega) (by omega) (by omega) (by omega) (by omega) (by omega) (by omega) (by omega) (by omega) (e2.trans h1)
  · have := r66_28_2 (T := T) (by omega) (by omega) (by omega) (by omega) (by omega) (by omega) (by omega) (by omega) (by omega) (by omega) (by omega) (by omega) (by omega) (by omega) (by omega) (by omega) (by rw [e2]; exact h1)
    rw [e2, h.resolve_left h1] at this;exact this
theorem t66_29 {tx : List UInt8} (h : opW.contains tx = true) : T66 29 tx := fun T e1 e2 => r66_29 (by omega) (by omega) (by omega) (by omega) (by omega) (by omega) (by omega) (by omega) (by omega) (by omega) (by omega) (by omega) (by omega) (by omega) (by omega) (by omega) (by omega) (by rw [e2]; have := e114 opW tx (by decide); rw [h] at this; exact this)
theorem t66_0 : T66 0 [] := fun T e1 e2 => by
  have := r66_0 (T := T) (by omega) (by omega) (by omega) (by omega) (by omega) (by omega) (by omega) (by omega) (by omega) (by omega) (by omega) (by omega) (by omega) (by omega) (by omega) (by omega) (by omega)
  rw [e2] at this;exact this
theorem t66_2 : T66 2 [] := fun T e1 e2 => by
  have := r66_2 (T := T) (by omega) (by omega) (by omega) (by omega) (by omega) (by omega) (by omega) (by omega) (by omega) (by omega) (by omega) (by omega) (by omega) (by omega) (by omega) (by omega) (by omega)
  rw [e2] at this;exact this
theorem t66_6 : T66 6 [] := fun T e1 e2 => by
  have := r66_6 (T := T) (by omega) (by omega) (by omega) (by omega) (by omega) (by omega) (by omega) (by omega) (by omega) (by omega) (by omega) (by omega) (by omega) (by omega) (by omega) (by omega) (by omega)
  rw [e2] at this;exact this
theorem t66_11 : T66 11 [] := fun T e1 e2 => by
  have := r66_11 (T := T) (by omega) (by omega) (by omega) (by omega) (by omega) (by omega) (by omega) (by omega) (by omega) (by omega) (by omega) (by omega) (by omega) (by omega) (by omega) (by omega) (by omega)
  rw [e2] at this;exact this
theorem t66_13 : T66 13 [] := fun T e1 e2 => by
  have := r66_13 (T := T) (by omega) (by omega) (by omega) (by omega) (by omega) (by omega) (by omega) (by omega) (by omega) (by omega) (by omega) (by omega) (by omega) (by omega) (by omega) (by omega) (by omega)
  rw [e2] at this;exact this
theorem t66_14 : T66 14 [] := fun T e1 e2 => by
  have := r66_14 (T := T) (by omega) (by omega) (by omega) (by omega) (by omega) (by omega) (by omega) (by omega) (by omega) (by omega) (by omega) (by omega) (by omega) (by omega) (by omega) (by omega) (by omega)
  rw [e2] at this;exact this
theorem t66_15 : T66 15 [] := fun T e1 e2 => by
  have := r66_15 (T := T) (by omega) (by omega) (by omega) (by omega) (by omega) (by omega) (by omega) (by omega) (by omega) (by omega) (by omega) (by omega) (by omega) (by omega) (by omega) (by omega) (by omega)
  rw [e2] at this;exact this
theorem t66_17 : T66 17 [] := fun T e1 e2 => by
  have := r66_17 (T := T) (by omega) (by omega) (by omega) (by omega) (by omega) (by omega) (by omega) (by omega) (by omega) (by omega) (by omega) (by omega) (by omega) (by omega) (by omega) (by omega) (by omega)
  rw [e2] at this;exact this
theorem t66_18 : T66 18 [] := fun T e1 e2 => by
  have := r66_18 (T := T) (by omega) (by omega) (by omega) (by omega) (by omega) (by omega) (by omega) (by omega) (by omega) (by omega) (by omega) (by omega) (by omega) (by omega) (by omega) (by omega) (by omega)
  rw [e2] at this;exact this
theorem t66_21 : T66 21 [] := fun T e1 e2 => by
  have := r66_21 (T := T) (by omega) (by omega) (by omega) (by omega) (by omega) (by omega) (by omega) (by omega) (by omega) (by omega) (by omega) (by omega) (by omega) (by omega) (by omega) (by omega) (by omega)
  rw [e2] at this;exact this
theorem t66_23 : T66 23 [] := fun T e1 e2 => by
  have := r66_23 (T := T) (by omega) (by omega) (by omega) (by omega) (by omega) (by omega) (by omega) (by omega) (by omega) (by omega) (by omega) (by omega) (by omega) (by omega) (by omega) (by omega) (by omega)
  rw [e2] at this;exact this
theorem t66_26 : T66 26 [] := fun T e1 e2 => by
  have := r66_26 (T := T) (by omega) (by omega) (by omega) (by omega) (by omega) (by omega) (by omega) (by omega) (by omega) (by omega) (by omega) (by omega) (by omega) (by omega) (by omega) (by omega) (by omega)
  rw [e2] at this;exact this
theorem k68_18 {i : Nat} : K68 18 i (fun j => 20 ≤ j ∧ j ≤ 29) := fun U h => r68_18 (ex_ok h)
theorem k68_19 {i : Nat} : K68 19 i (fun j => 20 ≤ j ∧ j ≤ 29) := fun U h => r68_19 (ex_ok h)
theorem k68_26 {i : Nat} : K68 26 i (fun j => 20 ≤ j ∧ j ≤ 29) := fun U h => r68_26 (ex_ok h)
theorem k68_27 {i : Nat} : K68 27 i (fun j => 20 ≤ j ∧ j ≤ 29) := fun U h => r68_27 (ex_ok h)
theorem k68_28 {i : Nat} : K68 28 i (fun j => 20 ≤ j ∧ j ≤ 29) := fun U h => r68_28 (ex_ok h)
theorem k68_29 {i : Nat} : K68 29 i (fun j => 20 ≤ j ∧ j ≤ 29) := fun U h => r68_29 (ex_ok h)
theorem k68_12_1 : K68 12 1 (fun j => 20 ≤ j ∧ j ≤ 29) := fun U h => r68_12_1 (ex_ok h)
theorem k68_13_1 : K68 13 1 (fun j => 20 ≤ j ∧ j ≤ 29) := fun U h => r68_13_1 (ex_ok h)
theorem BjS : K68 14 0 (fun j => 20 ≤ j ∧ j ≤ 29) := fun U h => r68_14_0 (ex_ok h)
theorem k68_15_0 : K68 15 0 (fun j => 20 ≤ j ∧ j ≤ 29) := fun U h => r68_15_0 (ex_ok h)
theorem k68_16_0 : K68 16 0 (fun j => 20 ≤ j ∧ j ≤ 29) := fun U h => r68_16_0 (ex_ok h)
theorem k68_16_1 : K68 16 1 (fun j => 20 ≤ j ∧ j ≤ 29) := fun U h => r68_16_1 (ex_ok h)
theorem k68_21_1 : K68 21 1 (fun j => 20 ≤ j ∧ j ≤ 29) := fun U h => r68_21_1 (ex_ok h)
theorem k68_17 {i : Nat} : K68 17 i (fun j => (20 ≤ j ∧ j ≤ 29) ∨ j = 0) := fun U h => by
  rcases h with h | h
  · exact r68_17_1 (ex_ok h)
  · have := r68_17_2 (i := i) (U := U) (by rw [h]; exact r117_2 (by omega))
    rw [h] at this; exact this
theorem k68_5_1 : K68 5 1 (fun j => j = 9 ∨ j = 10 ∨ j = 0) := fun U h => by
  rcases h with h | h | h
  · exact r68_5_1_1 (by rw [h]; exact r115_1 rfl)
  · exact r68_5_1_1 (by rw [h]; exact AjD (by omega))
  · first | exact r68_5_1_2 (by rw [h]; exact AjD (by omega)) h | exact (by have := r68_5_1_2 (U := U) (by rw [h]; exact AjD (by omega)); rw [h] at this; exact this)
theorem k68_7 {i : Nat} : K68 7 i (fun j => j = 9 ∨ j = 10 ∨ j = 0) := fun U h => by
  rcases h with h | h | h
  · exact r68_7_1 (by rw [h]; exact r115_1 rfl)
  · exact r68_7_1 (by rw [h]; exact AjD (by omega))
  · first | exact r68_7_2 (by rw [h]; exact AjD (by omega)) h | exact (by have := r68_7_2 (i := i) (U := U) (by rw [h]; exact AjD (by omega)); rw [h] at this; exact this)
theorem k68_8 {i : Nat} : K68 8 i (fun j => j = 9 ∨ j = 10 ∨ j = 0) := fun U h => by
  rcases h with h | h | h
  · exact r68_8_1 (by rw [h]; exact r115_1 rfl)
  · exact r68_8_1 (by rw [h]; exact AjD (by omega))
  · first | exact r68_8_2 (by rw [h]; exact AjD (by omega)) h | exact (by have := r68_8_2 (i := i) (U := U) (by rw [h]; exact AjD (by omega)); rw [h] at this; exact this)
theorem k68_12_0 : K68 12 0 (fun j => j = 9 ∨ j = 10 ∨ j = 0) := fun U h => by
  rcases h with h | h | h
  · exact Bx9 (by rw [h]; exact r115_1 rfl)
  · exact Bx9 (by rw [h]; exact AjD (by omega))
  · first | exact Bx8 (by rw [h]; exact AjD (by omega)) h | exact (by have := Bx8 (U := U) (by rw [h]; exact AjD (by omega)); rw [h] at this; exact this)
theorem k68_2 {i : Nat} : K68 2 i (fun j => j = 3 ∨ j = 5) := fun U h => by
  rcases h with h | h
  · exact r68_2_1 h
  · have := r68_2_2 (i := i) (U := U) (by omega)
    rw [h] at this; exact this
theorem k68_6 {i : Nat} : K68 6 i (fun j => j = 7 ∨ j = 8) := fun U h => by
  rcases h with h | h
  · exact r68_6_1 h
  · have := r68_6_2 (i := i) (U := U) (by omega)
    rw [h] at this; exact this
theorem k68_3 {i : Nat} : K68 3 i (fun j => j = 4) := fun U h => by
  have := r68_3 (i := i) (U := U);rw [h] at this; exact this
theorem k68_5_2 : K68 5 2 (fun j => j = 11) := fun U h => by
  have := r68_5_2 (U := U);rw [h] at this; exact this
theorem k68_15_1 : K68 15 1 (fun j => j = 11) := fun U h => by
  have := r68_15_1 (U := U);rw [h] at this; exact this
theorem k68_16_2 : K68 16 2 (fun j => j = 11) := fun U h => by
  have := r68_16_2 (U := U);rw [h] at this; exact this
theorem k68_22 {i : Nat} : K68 22 i (fun j => j = 20) := fun U h => by
  have := r68_22 (i := i) (U := U);rw [h] at this; exact this
theorem k68_23 {i : Nat} : K68 23 i (fun j => j = 20) := fun U h => by
  have := r68_23 (i := i) (U := U);rw [h] at this; exact this
theorem k68_5_0 : K68 5 0 (fun j => j = 6) := fun U h => r68_5_0_1 h
theorem BjR : K68 14 1 (fun j => j = 11) := fun U h => r68_14_1_1 h
theorem k68_21_0 : K68 21 0 (fun j => j = 20) := fun U h => r68_21_0_1 h
theorem BjQ : K68 14 2 (fun j => j = 11 ∨ j = 14 ∨ j = 0) := fun U h => by
  rcases h with h | h | h
  · exact r68_14_2_1 h
  · exact r68_14_2_2 (by omega) h
  · have := r68_14_2_3 (U := U) (by omega) (by omega)
    rw [h] at this; exact this
theorem k68_11 {i : Nat} : K68 11 i (fun j => 12 ≤ j ∧ j ≤ 19) := fun U h => by
  have := r116_1 (k := U.kind) (by omega)
  rw [decide_eq_true h.2] at this;exact r68_11 this
theorem k68_13_0 : K68 13 0 (fun j => j = 20 ∨ j = 21 ∨ j = 22) := fun U h => by
  refine r68_13_0 ?_
  rcases h with h | h | h
  · exact r118_1 h
  · exact r118_2 (by omega) h
  · have := r118_3 (k := U.kind) (by omega) (by omega)
    rw [h] at this ⊢; exact this
theorem k68_4 {i : Nat} (U : Tr) (h : U.kind = 9) (h2 : U.text = wInt ∨ U.text = wBool) : E 68 [I 4, N i, U.pv] [] (.bool true) [] := by
  by_cases h3 : U.text = wInt
  · exact r68_4_2 h h3
  · have := r68_4_3 (i := i) (U := U) h h3;rw [h2.resolve_left h3] at this; exact this
end Go.Abs.Z
