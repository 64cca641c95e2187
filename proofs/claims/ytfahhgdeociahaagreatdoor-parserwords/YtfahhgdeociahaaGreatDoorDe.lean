/- A part of the proof: D15 D16. -/
import Derived.Test.YtfahhgdeociahaaGreatDoorDd

set_option linter.unusedVariables false
set_option linter.unusedSimpArgs false
namespace Go.Abs.Z
open Go.Proofs Go.RowKit
section
variable {H T : Sto} {g n : Nat}
theorem Bd.mono {l m : List Dg} (h : Bd l) (hm : ∀ d ∈ m, d ∈ l) : Bd m := fun d hd => h d (hm d hd)
theorem AxS {l m : List Dg} (h : Asc (l ++ m)) : Asc l := (AjB.1 h).1
theorem Ax8 {l m : List Dg} (h : Asc (l ++ m)) : Asc m := (AjB.1 h).2.1
set_option maxHeartbeats 2000000 in
theorem e150 (hn : n < 1000000000) : ∀ (z : Nat) (P A B Q : List Dg) {a m b : Nat}, A.length + B.length ≤ z → A ≠ [] → B ≠ [] → a = P.length → m = a + A.length → b = m + B.length → Asc A → Asc B → Bd (P ++ A ++ B ++ Q) → (P ++ A ++ B ++ Q).length = n →
    ∃ R, E 150 [.arr H.length g 0 n 5, N a, N m, N b, fnc] (aS H T g (P ++ A ++ B ++ Q)) (.tuple []) (aS H T g (P ++ R ++ Q)) ∧ Sd (A ++ B) R
  | 0, P, A, B, Q, a, m, b, hz, hA, hB, ea, em, eb, sA, sB, hb, hl => by
    have := List.length_pos_iff.2 hA; omega
  | z + 1, P, A, B, Q, a, m, b, hz, hA, hB, ea, em, eb, sA, sB, hb, hl => by
    have lA := List.length_pos_iff.2 hA;have lB := List.length_pos_iff.2 hB;have hl' := hl;simp only [List.length_append] at hl';by_cases c1 : m - a = 1
    · obtain ⟨x, rfl⟩ : ∃ x, A = [x] := by
        cases A with
        | nil => cases lA
        | cons x A => cases A with
          | nil => exact ⟨x, rfl⟩
          | cons => simp at em; omega
      simp only [List.length_cons, List.length_nil] at em hl' hz;obtain ⟨r, L1, r1, r2, r3, r4⟩ := bs0 (H := H) (T := T) (g := g) hn hb hl (a := a) (m := m) (b := b) (by omega) (by omega) (by omega)
      obtain ⟨B1, B2, rfl, hB1⟩ : ∃ B1 B2, B = B1 ++ B2 ∧ B1.length = r - m := ⟨B.take (r - m), B.drop (r - m), (List.take_append_drop _ _).symm, by rw [List.length_take]; omega⟩
      simp only [List.length_append] at eb hl' hz
      have hx : ky (P ++ [x] ++ (B1 ++ B2) ++ Q) a = x.a := by
        rw [show P ++ [x] ++ (B1 ++ B2) ++ Q = P ++ x :: (B1 ++ B2 ++ Q) by simp]; exact ky_at ea
      have g1 : ∀ u ∈ [x], ∀ y ∈ B1, y.a < u.a := by
        refine BjK (P := P) (M := []) (Q := B2 ++ Q) (i := a) (j := r - 1) (List.pairwise_singleton _ _) (AxS sB) ea ?_ ?_
        · by_cases h0 : B1.length = 0
          · simp; omega
          · simp; omega
        · rcases r3 with h | h
          · exact .inr (.inl (List.length_eq_zero_iff.1 (by omega)))
          · refine .inr (.inr ?_)
            rw [show P ++ [x] ++ [] ++ B1 ++ (B2 ++ Q) = P ++ [x] ++ (B1 ++ B2) ++ Q by simp]; exact h
      have g2 : ∀ u ∈ [x], ∀ y ∈ B2, u.a ≤ y.a := by
        refine BjJ (P := P) (M := B1) (Q := Q) (i := a) (j := r) (List.pairwise_singleton _ _) (Ax8 sB) (by simp; omega) (by simp; omega) ?_
        rcases r4 with h | h
        · exact .inr (.inl (List.length_eq_zero_iff.1 (by omega)))
        · refine .inr (.inr ?_)
          rw [show P ++ [x] ++ B1 ++ B2 ++ Q = P ++ [x] ++ (B1 ++ B2) ++ Q by simp]; omega
      have L2 := l1_loop (H := H) (T := T) (g := g) hn (a := a) (m := m) (b := b) (r := r) x (B2 ++ Q) B1 P (k := a) ea (by omega) (by simp; omega)
      refine ⟨B1 ++ x :: B2, r150_1 (by omega) (by omega) (by omega) L1 ?_, ?_⟩
      · have e1 : P ++ [x] ++ (B1 ++ B2) ++ Q = P ++ x :: (B1 ++ (B2 ++ Q)) := by simp
        have e2 : P ++ (B1 ++ x :: B2) ++ Q = P ++ (B1 ++ x :: (B2 ++ Q)) := by simp
        rw [e1, e2]; exact L2
      · exact Sd.join (A1 := []) (A2 := [x]) (B1 := B1) (B2 := B2) (R1 := B1) (R2 := x :: B2) (Sd.refl (AxS sB)) (Sd.refl (List.pairwise_cons.2 ⟨fun y hy => g2 x (by simp) y hy, Ax8 sB⟩)) (List.pairwise_singleton _ _) sB (fun u hu => by cases hu) g1
    · by_cases c2 : b - m = 1
      · obtain ⟨y, rfl⟩ : ∃ y, B = [y] := by
          cases B with
          | nil => cases lB
          | cons x A => cases A with
            | nil => exact ⟨x, rfl⟩
            | cons => simp at eb; omega
        simp only [List.length_cons, List.length_nil] at eb hl' hz;obtain ⟨r, L1, r1, r2, r3, r4⟩ := bs2 (H := H) (T := T) (g := g) hn hb hl (a := a) (m := m) (b := b) (by omega) (by omega)
        obtain ⟨A1, A2, rfl, hA1⟩ : ∃ B1 B2, A = B1 ++ B2 ∧ B1.length = r - a := ⟨A.take (r - a), A.drop (r - a), (List.take_append_drop _ _).symm, by rw [List.length_take]; omega⟩
        simp only [List.length_append] at em hl' hz
        have hy : ky (P ++ (A1 ++ A2) ++ [y] ++ Q) m = y.a := by
          rw [show P ++ (A1 ++ A2) ++ [y] ++ Q = (P ++ (A1 ++ A2)) ++ y :: Q by simp]; exact ky_at (by simp; omega)
        have g1 : ∀ u ∈ A1, ∀ v ∈ [y], u.a ≤ v.a := by
          by_cases h0 : A1.length = 0
          · rw [List.length_eq_zero_iff.1 h0]; intro u hu; cases hu
          · refine BjJ (P := P) (M := A2) (Q := Q) (i := r - 1) (j := m) (AxS sA) (List.pairwise_singleton _ _) (by omega) (by omega) ?_
            rcases r3 with h | h
            · exact .inl (List.length_eq_zero_iff.1 (by omega))
            · refine .inr (.inr ?_)
              rw [show P ++ A1 ++ A2 ++ [y] ++ Q = P ++ (A1 ++ A2) ++ [y] ++ Q by simp]; omega
        have g2 : ∀ u ∈ A2, ∀ v ∈ [y], v.a < u.a := by
          refine BjK (P := P ++ A1) (M := []) (Q := Q) (i := r) (j := m) (Ax8 sA) (List.pairwise_singleton _ _) (by simp; omega) (by simp; omega) ?_
          rcases r4 with h | h
          · exact .inl (List.length_eq_zero_iff.1 (by omega))
          · refine .inr (.inr ?_)
            rw [show P ++ A1 ++ A2 ++ [] ++ [y] ++ Q = P ++ (A1 ++ A2) ++ [y] ++ Q by simp]; omega
        have L2 := l3_loop (H := H) (T := T) (g := g) hn (a := a) (m := m) (b := b) (r := r) y A2.length A2 (P ++ A1) Q (k := m) rfl (by simp; omega) (by simp; omega) (by simp; omega)
        refine ⟨(A1 ++ [y]) ++ A2, r150_2 (by omega) (by omega) (by omega) (by omega) (by omega) (by omega) L1 ?_, ?_⟩
        · have e1 : P ++ (A1 ++ A2) ++ [y] ++ Q = P ++ A1 ++ A2 ++ y :: Q := by simp
          have e2 : P ++ (A1 ++ [y] ++ A2) ++ Q = P ++ A1 ++ y :: (A2 ++ Q) := by simp
          rw [e1, e2]; exact L2
        · exact Sd.join (A1 := A1) (A2 := A2) (B1 := [y]) (B2 := []) (R1 := A1 ++ [y]) (R2 := A2) (Sd.refl (AjB.2 ⟨AxS sA, List.pairwise_singleton _ _, g1⟩)) (Sd.nil_right (Ax8 sA)) sA sB (fun u _ v hv => by cases hv) g2
      · 
        have hmid : a < (a + b) / 2 ∧ (a + b) / 2 < b := by omega
        obtain ⟨r, L1, r1, r2, r3, r4⟩ := bs4 (H := H) (T := T) (g := g) hn hb hl (a := a) (m := m) (b := b) (lo := if (a + b) / 2 < m then (a + b) / 2 + m - b else a) (hi := if (a + b) / 2 < m then (a + b) / 2 else m) (p := (a + b) / 2 + m - 1) rfl (by split <;> omega) (by split <;> omega) (by split <;> omega) (by split <;> omega)
        have ra : a ≤ r := by split at r1 <;> omega
        have rm : r ≤ m := by split at r2 <;> omega
        have rd : r ≤ (a + b) / 2 := by split at r2 <;> omega
        have rb : (a + b) / 2 + m - r ≤ b := by split at r1 <;> omega
        obtain ⟨A1, A2, rfl, hA1⟩ : ∃ B1 B2, A = B1 ++ B2 ∧ B1.length = r - a := ⟨A.take (r - a), A.drop (r - a), (List.take_append_drop _ _).symm, by rw [List.length_take]; omega⟩
        obtain ⟨B1, B2, rfl, hB1⟩ : ∃ B1 B2, B = B1 ++ B2 ∧ B1.length = (a + b) / 2 - r := ⟨B.take ((a + b) / 2 - r), B.drop ((a + b) / 2 - r), (List.take_append_drop _ _).symm, by rw [List.length_take]; omega⟩
        simp only [List.length_append] at em eb hl' hz;rw [List.length_append] at lA lB
        have g1 : ∀ u ∈ A1, ∀ v ∈ B2, u.a ≤ v.a := by
          by_cases h0 : A1.length = 0
          · rw [List.length_eq_zero_iff.1 h0]; intro u hu; cases hu
          · refine BjJ (P := P) (M := A2 ++ B1) (Q := Q) (i := r - 1) (j := (a + b) / 2 + m - 1 - (r - 1)) (AxS sA) (Ax8 sB) (by omega) (by simp; omega) ?_
            rcases r3 with h | h
            · refine .inr (.inl (List.length_eq_zero_iff.1 ?_))
              split at h <;> omega
            · refine .inr (.inr ?_)
              rw [show P ++ A1 ++ (A2 ++ B1) ++ B2 ++ Q = P ++ (A1 ++ A2) ++ (B1 ++ B2) ++ Q by simp]; omega
        have g2 : ∀ u ∈ A2, ∀ v ∈ B1, v.a < u.a := by
          by_cases h0 : B1.length = 0
          · rw [List.length_eq_zero_iff.1 h0]; intro u _ v hv; cases hv
          · refine BjK (P := P ++ A1) (M := []) (Q := B2 ++ Q) (i := r) (j := (a + b) / 2 + m - 1 - r) (Ax8 sA) (AxS sB) (by simp; omega) (by simp; omega) ?_
            rcases r4 with h | h
            · by_cases hh : (a + b) / 2 < m
              · rw [if_pos hh] at h;exact .inr (.inl (List.length_eq_zero_iff.1 (by omega)))
              · rw [if_neg hh] at h;exact .inl (List.length_eq_zero_iff.1 (by omega))
            · refine .inr (.inr ?_)
              rw [show P ++ A1 ++ A2 ++ [] ++ B1 ++ (B2 ++ Q) = P ++ (A1 ++ A2) ++ (B1 ++ B2) ++ Q by simp]; omega
        have hmem : ∀ {X : List Dg} , (∀ d ∈ X, d ∈ P ++ (A1 ++ A2) ++ (B1 ++ B2) ++ Q) → Bd X := fun h => hb.mono h
        obtain ⟨R1, k1, f1⟩ : ∃ R1, (a < r ∧ r < (a + b) / 2 → E 150 [.arr H.length g 0 n 5, N a, N r, N ((a + b) / 2), fnc] (aS H T g (P ++ A1 ++ B1 ++ (A2 ++ B2 ++ Q))) (.tuple []) (aS H T g (P ++ R1 ++ (A2 ++ B2 ++ Q)))) ∧ Sd (A1 ++ B1) R1 ∧ (¬ (a < r ∧ r < (a + b) / 2) → R1 = A1 ++ B1) := by
          by_cases hc : a < r ∧ r < (a + b) / 2
          · obtain ⟨R, hE, hS⟩ := e150 hn z P A1 B1 (A2 ++ B2 ++ Q) (a := a) (m := r) (b := (a + b) / 2) (by omega) (fun h => by rw [h] at hA1; simp at hA1; omega) (fun h => by rw [h] at hB1; simp at hB1; omega) ea (by omega) (by omega) (AxS sA) (AxS sB) (hmem fun d hd => by simp at hd ⊢; rcases hd with h | h | h | h | h | h <;> simp [h]) (by simp; omega)
            exact ⟨R, fun _ => hE, hS, fun h => absurd hc h⟩
          · refine ⟨_, fun h => absurd h hc, ?_, fun _ => rfl⟩
            by_cases h0 : A1 = []
            · subst h0; exact Sd.refl (AxS sB)
            · have : B1 = [] := by
                have := List.length_pos_iff.2 h0;exact List.length_eq_zero_iff.1 (by omega)
              subst this; rw [List.append_nil]; exact Sd.refl (AxS sA)
        have lR1 := f1.1.len;simp only [List.length_append] at lR1
        obtain ⟨R2, k2, f2⟩ : ∃ R2, (r < m ∧ (a + b) / 2 + m - r < b → E 150 [.arr H.length g 0 n 5, N ((a + b) / 2), N ((a + b) / 2 + m - r), N b, fnc] (aS H T g (P ++ R1 ++ A2 ++ B2 ++ Q)) (.tuple []) (aS H T g (P ++ R1 ++ R2 ++ Q))) ∧ Sd (A2 ++ B2) R2 ∧ (¬ (r < m ∧ (a + b) / 2 + m - r < b) → R2 = A2 ++ B2) := by
          by_cases hc : r < m ∧ (a + b) / 2 + m - r < b
          · obtain ⟨R, hE, hS⟩ := e150 hn z (P ++ R1) A2 B2 Q (a := (a + b) / 2) (m := (a + b) / 2 + m - r) (b := b) (by omega) (fun h => by rw [h] at em; simp at em; omega) (fun h => by rw [h] at eb; simp at eb; omega) (by simp; omega) (by omega) (by omega) (Ax8 sA) (Ax8 sB) (hmem fun d hd => by
              simp only [List.mem_append] at hd ⊢;rw [f1.1.mem, List.mem_append] at hd;rcases hd with (((h | h | h) | h) | h) | h <;> simp [h]) (by simp; omega)
            exact ⟨R, fun _ => hE, hS, fun h => absurd hc h⟩
          · refine ⟨_, fun h => absurd h hc, ?_, fun _ => rfl⟩
            by_cases h0 : A2 = []
            · subst h0; exact Sd.refl (Ax8 sB)
            · have : B2 = [] := by
                have := List.length_pos_iff.2 h0;exact List.length_eq_zero_iff.1 (by omega)
              subst this; rw [List.append_nil]; exact Sd.refl (Ax8 sA)
        refine ⟨R1 ++ R2, ?_, Sd.join f1.1 f2.1 sA sB g1 g2⟩
        refine r150_main (Ds := P ++ (A1 ++ A2) ++ (B1 ++ B2) ++ Q) (Ds1 := P ++ A1 ++ B1 ++ (A2 ++ B2 ++ Q)) (Ds2 := P ++ R1 ++ (A2 ++ B2 ++ Q)) (Ds3 := P ++ (R1 ++ R2) ++ Q) hn (by omega) (by omega) (by omega) c1 c2 rfl rfl L1 r1 r2 ?_ ?_ k1 ?_ ?_ ?_
        · intro hc;have := e154 (H := H) (T := T) (g := g) hn (P := P ++ A1) (U := A2) (V := B1) (Q := B2 ++ Q) (a := r) (m := m) (b := (a + b) / 2 + m - r) (fun h => by rw [h] at em; simp at em; omega) (fun h => by rw [h] at hB1; simp at hB1; omega) (by simp; omega) (by simp; omega) (by omega) (by simp; omega)
          simpa using this
        · intro hc;by_cases h0 : A2 = []
          · subst h0; simp
          · have : B1 = [] := by
              have := List.length_pos_iff.2 h0;exact List.length_eq_zero_iff.1 (by omega)
            subst this; simp
        · intro hc; rw [f1.2 hc]; simp
        · intro hc; simpa using k2 hc
        · intro hc; rw [f2.2 hc]; simp
end
end Go.Abs.Z

namespace Go.Abs.Z
open Go.Proofs Go.RowKit
section
variable {H T : Sto} {g n : Nat}
structure Kp (l r : List Dg) : Prop where
  perm : r.Perm l
  keep : ∀ k, fk k r = fk k l
theorem Sd.kp {l r : List Dg} (h : Sd l r) : Kp l r := ⟨h.perm, h.keep⟩
theorem Kp.refl (l : List Dg) : Kp l l := ⟨.refl _, fun _ => rfl⟩
theorem Kp.trans {l m r : List Dg} (h : Kp l m) (h' : Kp m r) : Kp l r := ⟨h'.perm.trans h.perm, fun k => (h'.keep k).trans (h.keep k)⟩
theorem Kp.mid {P L R Q : List Dg} (h : Kp L R) : Kp (P ++ L ++ Q) (P ++ R ++ Q) := ⟨perm_mid h.perm, keep_mid h.keep⟩
theorem Kp.len {l r : List Dg} (h : Kp l r) : r.length = l.length := h.perm.length_eq
theorem Kp.bd {l r : List Dg} (h : Kp l r) (hb : Bd l) : Bd r := fun d hd => hb d (h.perm.mem_iff.1 hd)
theorem seg_ge {l : List Dg} {x y : Nat} (h : l.length ≤ x) : seg l x y = [] := by unfold seg; rw [List.drop_eq_nil_of_le h, List.take_nil]
theorem Bz8 {l : List Dg} {x y : Nat} (h : l.length ≤ x + y) : seg l x y = l.drop x := by unfold seg; exact List.take_of_length_le (by rw [List.length_drop]; omega)
theorem seg_mid {P R Q : List Dg} {x y : Nat} (hx : x = P.length) (hy : y = R.length) : seg (P ++ R ++ Q) x y = R := by
  subst hx hy;unfold seg;rw [List.append_assoc, List.drop_left, List.take_left]
theorem asc_nil : Asc [] := List.Pairwise.nil
def Bl (w a : Nat) (l : List Dg) : Prop := ∀ q, q * w + w ≤ a → Asc (seg l (q * w) w)
def Ab (w a : Nat) (l : List Dg) : Prop := ∀ q, a ≤ q * w → Asc (seg l (q * w) w)
theorem Bl.step {w a q0 : Nat} {P L R Q : List Dg} (h : Bl w a (P ++ L ++ Q)) (ha : a = P.length) (hq : a = q0 * w) (hL : L.length = w) (hR : Asc R) (he : R.length = L.length) : Bl w (a + w) (P ++ R ++ Q) := by
  intro q hq';by_cases c : q * w + w ≤ a
  · have := h q c;rw [Aw9 (by omega)] at this ⊢; exact this
  · have : q = q0 := by
      by_cases hw : w = 0
      · subst hw; simp at c
      · have h1 : q ≤ q0 := by
          have : q * w ≤ q0 * w := by omega
          exact Nat.le_of_mul_le_mul_right this (by omega)
        have h2 : q0 < q + 1 := by
          have : q0 * w < (q + 1) * w := by rw [Nat.succ_mul]; omega
          exact Nat.lt_of_mul_lt_mul_right this
        omega
    subst this;rw [seg_mid (by omega) (by omega)]; exact hR
theorem Ab.step {w a b : Nat} {P L R Q : List Dg} (h : Ab w a (P ++ L ++ Q)) (ha : a = P.length) (hb : b = a + L.length) (he : R.length = L.length) : Ab w b (P ++ R ++ Q) := by
  intro q hq;have := h q (by omega)
  rw [seg_right (R := R) (R' := L) he (by omega)]; exact this
theorem BqG (hn : n < 1000000000) (Ds0 : List Dg) (hB : Bd Ds0) (hl : Ds0.length = n) : ∀ (z i : Nat) (Ds : List Dg) {a b : Nat}, n - a ≤ z → a = i * 20 → b = a + 20 → a ≤ n → Kp Ds0 Ds → Bl 20 a Ds →
    ∃ Ds' i' a' b', LE Bq5 Bq9 [(0, some (.arr H.length g 0 n 5)), (1, some (N n)), (2, some fnc), (6, some (I 20)), (7, some (N a)), (8, some (N b))] (aS H T g Ds) (.exit 0) [(0, some (.arr H.length g 0 n 5)), (1, some (N n)), (2, some fnc), (6, some (I 20)), (7, some (N a')), (8, some (N b'))] (aS H T g Ds') ∧ a' = i' * 20 ∧ a' ≤ n ∧ n < a' + 20 ∧ Kp Ds0 Ds' ∧ Bl 20 a' Ds'
  | z, i, Ds, a, b, hz, ha, hb, han, hk, hs => by
    by_cases c : b ≤ n
    · have hlen := hk.len;obtain ⟨P, Q, e, eP, eS⟩ := split3 Ds (x := a) (y := 20) (by omega)
      generalize seg Ds a 20 = L at e eS;subst e;obtain ⟨R, hE, hS⟩ := e149 (H := H) (T := T) (g := g) hn (P := P) (L := L) (Q := Q) (a := a) (b := b) (by omega) (by omega) ((hk.bd hB).mono fun d hd => by simp [hd]) (by omega)
      match z with
      | 0 => omega
      | z + 1 =>
        have hst : Bl 20 (a + 20) (P ++ R ++ Q) := hs.step (by omega) ha (by omega) hS.asc hS.len
        obtain ⟨Ds', i', a', b', hL, x⟩ := BqG hn Ds0 hB hl z (i + 1) (P ++ R ++ Q) (a := b) (b := b + 20) (by omega) (by omega) rfl (by omega) (hk.trans hS.kp.mid) (by rw [hb]; exact hst)
        exact ⟨Ds', i', a', b', BzV (by omega) hE (by omega) hL, x⟩
    · exact ⟨Ds, i, a, b, r136_l0_out1 (by omega), ha, han, by omega, hk, hs⟩
theorem merges (hn : n < 1000000000) (Ds0 : List Dg) (hB : Bd Ds0) (hl : Ds0.length = n) {w : Nat} (hw : 0 < w) (hwn : w < n) : ∀ (z i : Nat) (Ds : List Dg) {a b : Nat}, n - a ≤ z → a = i * (2 * w) → b = a + 2 * w → a ≤ n → Kp Ds0 Ds → Bl (2 * w) a Ds → Ab w a Ds →
    ∃ Ds' i' a' b', LE BxA BxF [(0, some (.arr H.length g 0 n 5)), (1, some (N n)), (2, some fnc), (6, some (N w)), (7, some (N a)), (8, some (N b))] (aS H T g Ds) (.exit 4) [(0, some (.arr H.length g 0 n 5)), (1, some (N n)), (2, some fnc), (6, some (N w)), (7, some (N a')), (8, some (N b'))] (aS H T g Ds') ∧ a' = i' * (2 * w) ∧ a' ≤ n ∧ n < a' + 2 * w ∧ Kp Ds0 Ds' ∧ Bl (2 * w) a' Ds' ∧ Ab w a' Ds'
  | z, i, Ds, a, b, hz, ha, hb, han, hk, hs, hab => by
    by_cases c : b ≤ n
    · have hlen := hk.len;have aw : a = (2 * i) * w := by rw [ha, ← Nat.mul_assoc, Nat.mul_comm i 2]
      obtain ⟨P, Q, e, eP, eS⟩ := split3 Ds (x := a) (y := w + w) (by omega)
      rw [seg_cat] at e eS;have sA := hab (2 * i) (by omega)
      have sB := hab (2 * i + 1) (by rw [Nat.succ_mul]; omega)
      rw [← aw] at sA;rw [Nat.succ_mul, ← aw] at sB;have lA : (seg Ds a w).length = w := by unfold seg; rw [List.length_take, List.length_drop]; omega
      have lB : (seg Ds (a + w) w).length = w := by unfold seg; rw [List.length_take, List.length_drop]; omega
      generalize seg Ds a w = A at *;generalize seg Ds (a + w) w = B at *;subst e;obtain ⟨R, hE, hS⟩ := e150 (H := H) (T := T) (g := g) hn _ P A B Q (a := a) (m := a + w) (b := b) (Nat.le_refl _) (fun h => by rw [h] at lA; simp at lA; omega) (fun h => by rw [h] at lB; simp at lB; omega) (by omega) (by omega) (by omega) sA sB (by rw [show P ++ A ++ B ++ Q = P ++ (A ++ B) ++ Q by simp]; exact hk.bd hB) (by rw [show P ++ A ++ B ++ Q = P ++ (A ++ B) ++ Q by simp]; omega)
      match z with
      | 0 => omega
      | z + 1 =>
        have hst : Bl (2 * w) (a + 2 * w) (P ++ R ++ Q) := hs.step (by omega) ha (by omega) hS.asc hS.len
        have hat : Ab w b (P ++ R ++ Q) := hab.step (by omega) (by omega) hS.len
        obtain ⟨Ds', i', a', b', hL, x⟩ := merges hn Ds0 hB hl hw hwn z (i + 1) (P ++ R ++ Q) (a := b) (b := b + 2 * w) (by omega) (by rw [Nat.succ_mul]; omega) rfl (by omega) (hk.trans hS.kp.mid) (by rw [hb]; exact hst) hat
        exact ⟨Ds', i', a', b', BzS (by omega) (by omega) (by omega) (by rw [show P ++ (A ++ B) ++ Q = P ++ A ++ B ++ Q by simp]; exact hE) (by omega) (by omega) (by omega) hL, x⟩
    · exact ⟨Ds, i, a, b, r136_l2_out1 (by omega), ha, han, by omega, hk, hs, hab⟩
theorem Bl.up {w a i : Nat} {l : List Dg} (h : Bl w a l) (ha : a = i * w) (hl : l.length < a + w) (hd : Asc (l.drop a)) : Ab w 0 l := by
  intro q _;by_cases c : q * w + w ≤ a
  · exact h q c
  · by_cases hq : l.length ≤ q * w
    · rw [seg_ge hq]; exact asc_nil
    · have : q = i := by
        have h1 : q < i + 1 := by
          have : q * w < (i + 1) * w := by rw [Nat.succ_mul]; omega
          exact Nat.lt_of_mul_lt_mul_right this
        have h2 : i < q + 1 := by
          have : i * w < (q + 1) * w := by rw [Nat.succ_mul]; omega
          exact Nat.lt_of_mul_lt_mul_right this
        omega
      subst this;rw [← ha, Bz8 (by omega)]; exact hd
theorem grow (hn : n < 1000000000) (Ds0 : List Dg) (hB : Bd Ds0) (hl : Ds0.length = n) : ∀ (z : Nat) (Ds : List Dg) {w m2 m3 : Nat}, n - w ≤ z → 0 < w → Kp Ds0 Ds → Ab w 0 Ds →
    ∃ Ds' m1' m2' m3', LE AkN AkQ [(0, some (.arr H.length g 0 n 5)), (1, some (N n)), (2, some fnc), (6, some (N w)), (7, some (N m2)), (8, some (N m3))] (aS H T g Ds) (.exit 2) [(0, some (.arr H.length g 0 n 5)), (1, some (N n)), (2, some fnc), (6, some (N m1')), (7, some (N m2')), (8, some (N m3'))] (aS H T g Ds') ∧ Sd Ds0 Ds'
  | z, Ds, w, m2, m3, hz, hw, hk, hab => by
    have hlen := hk.len;by_cases c : w < n
    · obtain ⟨Ds1, i, a, b, hL, ha, han, hna, hk1, hs1, hab1⟩ := merges (H := H) (T := T) (g := g) hn Ds0 hB hl hw c n 0 Ds (a := 0) (b := 2 * w) (by omega) (by omega) (by omega) (by omega) hk (fun q hq => by omega) hab
      have hlen1 := hk1.len
      match z with
      | 0 => omega
      | z + 1 =>
        have aw : a = (2 * i) * w := by rw [ha, ← Nat.mul_assoc, Nat.mul_comm i 2]
        have sA := hab1 (2 * i) (by omega)
        have sB := hab1 (2 * i + 1) (by rw [Nat.succ_mul]; omega)
        rw [← aw] at sA;rw [Nat.succ_mul, ← aw] at sB;by_cases c2 : a + w < n
        · rw [Bz8 (by omega)] at sB
          have e : Ds1 = Ds1.take a ++ seg Ds1 a w ++ Ds1.drop (a + w) ++ [] := by
            unfold seg;rw [List.append_nil, List.append_assoc];have : (Ds1.drop a).take w ++ Ds1.drop (a + w) = Ds1.drop a := by rw [← List.drop_drop, List.take_append_drop]
            rw [this, List.take_append_drop]
          have lP : (Ds1.take a).length = a := by rw [List.length_take]; omega
          have lA : (seg Ds1 a w).length = w := by unfold seg; rw [List.length_take, List.length_drop]; omega
          have lB : (Ds1.drop (a + w)).length = n - (a + w) := by rw [List.length_drop]; omega
          generalize Ds1.take a = P at *;generalize seg Ds1 a w = A at *;generalize Ds1.drop (a + w) = B at *;subst e;obtain ⟨R, hE, hS⟩ := e150 (H := H) (T := T) (g := g) hn _ P A B [] (a := a) (m := a + w) (b := n) (Nat.le_refl _) (fun h => by rw [h] at lA; simp at lA; omega) (fun h => by rw [h] at lB; simp at lB; omega) (by omega) (by omega) (by omega) sA sB (hk1.bd hB) (by omega)
          have lR := hS.len;simp only [List.length_append] at lR;have hk2 : Kp Ds0 (P ++ R ++ []) := hk1.trans (by have := (hS.kp).mid (P := P) (Q := []); simpa using this)
          have hs2 : Bl (2 * w) a (P ++ R ++ []) := fun q hq => by
            have := hs1 q hq;rw [show P ++ A ++ B ++ [] = P ++ (A ++ B) ++ [] by simp, Aw9 (by omega)] at this
            rw [Aw9 (by omega)]; exact this
          have hu : Ab (2 * w) 0 (P ++ R ++ []) := hs2.up ha (by simp; omega) (by rw [List.append_nil, ← lP, List.drop_left]; exact hS.asc)
          obtain ⟨Ds', x1, x2, x3, hL2, f⟩ := grow hn Ds0 hB hl z (P ++ R ++ []) (w := w * 2) (m2 := a) (m3 := b) (by omega) (by omega) hk2 (by rw [Nat.mul_comm]; exact hu)
          exact ⟨Ds', x1, x2, x3, BzU (by omega) (by omega) hL (by omega) (by omega) (by omega) hE (by omega) hL2, f⟩
        · have hu : Ab (2 * w) 0 Ds1 := hs1.up ha (by omega) (by rw [Bz8 (by omega)] at sA; exact sA)
          obtain ⟨Ds', x1, x2, x3, hL2, f⟩ := grow hn Ds0 hB hl z Ds1 (w := w * 2) (m2 := a) (m3 := b) (by omega) (by omega) hk1 (by rw [Nat.mul_comm]; exact hu)
          exact ⟨Ds', x1, x2, x3, BzT (by omega) (by omega) hL (by omega) (by omega) (by omega) (by omega) hL2, f⟩
    · refine ⟨Ds, w, m2, m3, r136_l1_out1 (by omega), ?_, hk.perm, hk.keep⟩
      have := hab 0 (by omega)
      rw [Nat.zero_mul, Bz8 (by omega)] at this; exact this
theorem e99 {Ds : List Dg} (hn : Ds.length < 1000000000) (hB : Bd Ds) : ∃ R, E 99 [.arr H.length g 0 Ds.length 5, fnc] (aS H T g Ds) (.tuple []) (aS H T g R) ∧ Sd Ds R := by
  obtain ⟨Ds1, i, a, b, hL, ha, han, hna, hk, hs⟩ := BqG (H := H) (T := T) (g := g) hn Ds hB rfl Ds.length 0 Ds (a := 0) (b := 20) (by omega) (by omega) (by omega) (by omega) (Kp.refl _) (fun q hq => by omega)
  have hlen := hk.len;have e : Ds1 = Ds1.take a ++ Ds1.drop a ++ [] := by simp
  have lP : (Ds1.take a).length = a := by rw [List.length_take]; omega
  have lL : (Ds1.drop a).length = Ds.length - a := by rw [List.length_drop]; omega
  generalize Ds1.take a = P at *;generalize Ds1.drop a = L at *;subst e;obtain ⟨R, hE, hS⟩ := e149 (H := H) (T := T) (g := g) (n := Ds.length) hn (P := P) (L := L) (Q := []) (a := a) (b := Ds.length) (by omega) (by omega) ((hk.bd hB).mono fun d hd => by simp [hd]) (by omega)
  have lR := hS.len
  have hs2 : Bl 20 a (P ++ R ++ []) := fun q hq => by
    have := hs q hq;rw [Aw9 (by omega)] at this ⊢; exact this
  have hu : Ab 20 0 (P ++ R ++ []) := hs2.up ha (by simp; omega) (by rw [List.append_nil, ← lP, List.drop_left]; exact hS.asc)
  obtain ⟨Ds', x1, x2, x3, hL2, f⟩ := grow (H := H) (T := T) (g := g) hn Ds hB rfl Ds.length (P ++ R ++ []) (w := 20) (m2 := a) (m3 := b) (by omega) (by omega) (hk.trans hS.kp.mid) hu
  exact ⟨Ds', r99 (r136 hL hE hL2), f⟩
end
end Go.Abs.Z
