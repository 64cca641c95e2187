/- A part of the proof: D11 D12 D13 D14. -/
import Derived.Test.YtfahhgdeociahaaGreatDoorGa
import Derived.Test.YtfahhgdeociahaaGreatDoorWc

set_option linter.unusedVariables false
set_option linter.unusedSimpArgs false
namespace Go.Abs.Z
def Asc (l : List Dg) : Prop := l.Pairwise fun d e => d.a ≤ e.a
def fk (k : Nat) (l : List Dg) : List Dg := l.filter fun d => d.a == k
structure Sd (l r : List Dg) : Prop where
  asc : Asc r
  perm : r.Perm l
  keep : ∀ k, fk k r = fk k l
theorem AxM (k : Nat) (l m : List Dg) : fk k (l ++ m) = fk k l ++ fk k m := List.filter_append ..
theorem AjB {l m : List Dg} : Asc (l ++ m) ↔ Asc l ∧ Asc m ∧ ∀ x ∈ l, ∀ y ∈ m, x.a ≤ y.a := List.pairwise_append
theorem Sd.len {l r : List Dg} (h : Sd l r) : r.length = l.length := h.perm.length_eq
theorem Sd.mem {l r : List Dg} (h : Sd l r) {d : Dg} : d ∈ r ↔ d ∈ l := h.perm.mem_iff
theorem Sd.refl {l : List Dg} (h : Asc l) : Sd l l := ⟨h, .refl _, fun _ => rfl⟩
theorem Sd.trans {l m r : List Dg} (h : Sd l m) (h' : Sd m r) : Sd l r := ⟨h'.asc, h'.perm.trans h.perm, fun k => (h'.keep k).trans (h.keep k)⟩
theorem fk_ne {k : Nat} {x y : Dg} (h : x.a ≠ y.a) (l : List Dg) : fk k (x :: y :: l) = fk k (y :: x :: l) := by
  simp only [fk, List.filter_cons];by_cases h1 : x.a = k
  · have : ¬ y.a = k := fun h2 => h (h1.trans h2.symm)
    simp [h1, this]
  · simp [h1]
theorem fk_comm {k : Nat} {u v : List Dg} (h : ∀ x ∈ u, ∀ y ∈ v, x.a ≠ y.a) : fk k (u ++ v) = fk k (v ++ u) := by
  rw [AxM, AxM];by_cases hu : fk k u = []
  · rw [hu]; simp
  · by_cases hv : fk k v = []
    · rw [hv]; simp
    · exfalso
      obtain ⟨x, hx⟩ := List.exists_mem_of_ne_nil _ hu;obtain ⟨y, hy⟩ := List.exists_mem_of_ne_nil _ hv;simp only [fk, List.mem_filter, beq_iff_eq] at hx hy;exact h x hx.1 y hy.1 (hx.2.trans hy.2.symm)
theorem asc_eq : ∀ {l r : List Dg}, Asc l → Asc r → (∀ k, fk k l = fk k r) → l = r
  | [], [], _, _, _ => rfl
  | [], y :: r, _, _, h => by have := h y.a; simp [fk] at this
  | x :: l, [], _, _, h => by have := h x.a; simp [fk] at this
  | x :: l, y :: r, hl, hr, h => by
    have hl' := List.pairwise_cons.1 hl;have hr' := List.pairwise_cons.1 hr;have mx : x ∈ fk x.a (y :: r) := by rw [← h]; simp [fk]
    have my : y ∈ fk y.a (x :: l) := by rw [h]; simp [fk]
    have e : x.a = y.a := by
      have h1 : y.a ≤ x.a := by
        rcases List.mem_cons.1 (List.mem_filter.1 mx).1 with e | m
        · rw [e]; exact Nat.le_refl _
        · exact hr'.1 _ m
      have h2 : x.a ≤ y.a := by
        rcases List.mem_cons.1 (List.mem_filter.1 my).1 with e | m
        · rw [e]; exact Nat.le_refl _
        · exact hl'.1 _ m
      omega
    have hx := h x.a;simp only [fk, List.filter_cons, beq_self_eq_true, if_true, e] at hx;have exy : x = y := (List.cons.inj hx).1;subst exy
    have := asc_eq hl'.2 hr'.2 fun k => by
      have := h k;simp only [fk, List.filter_cons] at this;by_cases hk : x.a = k
      · simpa [fk, hk] using this
      · simpa [fk, hk] using this
    rw [this]
theorem Sd.eq {l r r' : List Dg} (h : Sd l r) (h' : Sd l r') : r = r' := asc_eq h.asc h'.asc fun k => (h.keep k).trans (h'.keep k).symm
theorem Sd.join {A1 A2 B1 B2 R1 R2 : List Dg} (h1 : Sd (A1 ++ B1) R1) (h2 : Sd (A2 ++ B2) R2) (hA : Asc (A1 ++ A2)) (hB : Asc (B1 ++ B2)) (c1 : ∀ x ∈ A1, ∀ y ∈ B2, x.a ≤ y.a) (c2 : ∀ x ∈ A2, ∀ y ∈ B1, y.a < x.a) :
    Sd ((A1 ++ A2) ++ (B1 ++ B2)) (R1 ++ R2) := by
  have hA' := (AjB.1 hA).2.2;have hB' := (AjB.1 hB).2.2;refine ⟨AjB.2 ⟨h1.asc, h2.asc, fun x hx y hy => ?_⟩, ?_, fun k => ?_⟩
  · rcases List.mem_append.1 (h1.mem.1 hx) with hx | hx <;> rcases List.mem_append.1 (h2.mem.1 hy) with hy | hy
    · exact hA' x hx y hy
    · exact c1 x hx y hy
    · exact Nat.le_of_lt (c2 y hy x hx)
    · exact hB' x hx y hy
  · refine (h1.perm.append h2.perm).trans ?_
    rw [List.append_assoc, List.append_assoc];refine List.Perm.append_left _ ?_
    rw [← List.append_assoc, ← List.append_assoc];exact List.Perm.append_right _ List.perm_append_comm
  · rw [AxM, h1.keep, h2.keep, AxM, AxM, AxM, AxM, AxM];have := fk_comm (k := k) (u := A2) (v := B1) fun x hx y hy => by have := c2 x hx y hy; omega
    rw [AxM, AxM] at this;rw [List.append_assoc, List.append_assoc, ← List.append_assoc (fk k B1), ← this, List.append_assoc]
theorem Sd.nil_right {A : List Dg} (h : Asc A) : Sd (A ++ []) A := by simpa using Sd.refl h
theorem keep_mid {P L R Q : List Dg} (h : ∀ k, fk k R = fk k L) (k : Nat) : fk k (P ++ R ++ Q) = fk k (P ++ L ++ Q) := by rw [AxM, AxM, AxM, AxM, h]
theorem perm_mid {P L R Q : List Dg} (h : R.Perm L) : (P ++ R ++ Q).Perm (P ++ L ++ Q) := (h.append_left P).append_right Q
def seg (l : List Dg) (x y : Nat) : List Dg := (l.drop x).take y
theorem Aw9 {P R Q : List Dg} {x y : Nat} (h : x + y ≤ P.length) : seg (P ++ R ++ Q) x y = seg P x y := by
  unfold seg;rw [List.append_assoc, List.drop_append_of_le_length (by omega), List.take_append_of_le_length (by rw [List.length_drop]; omega)]
theorem seg_right {P R R' Q : List Dg} {x y : Nat} (he : R.length = R'.length) (h : P.length + R.length ≤ x) : seg (P ++ R ++ Q) x y = seg (P ++ R' ++ Q) x y := by
  unfold seg
  have e : ∀ R : List Dg, P.length + R.length ≤ x → (P ++ R ++ Q).drop x = Q.drop (x - (P.length + R.length)) := fun R h => by
    rw [List.drop_append, List.drop_eq_nil_of_le (by rw [List.length_append]; exact h), List.nil_append, List.length_append]
  rw [e R h, e R' (by omega), he]
theorem split3 (l : List Dg) {x y : Nat} (h : x + y ≤ l.length) : ∃ P Q, l = P ++ seg l x y ++ Q ∧ P.length = x ∧ (seg l x y).length = y := by
  refine ⟨l.take x, (l.drop x).drop y, ?_, by rw [List.length_take]; omega, by unfold seg; rw [List.length_take, List.length_drop]; omega⟩
  unfold seg;rw [List.append_assoc, List.take_append_drop, List.take_append_drop]
theorem seg_cat (l : List Dg) (x y z : Nat) : seg l x (y + z) = seg l x y ++ seg l (x + y) z := by
  unfold seg;rw [List.take_add, List.drop_drop]
end Go.Abs.Z

namespace Go.Abs.Z
open Go.Proofs Go.RowKit
theorem e100 {d e : Dg} (h1 : d.a < 1000000000) (h2 : e.a < 1000000000) : E 100 [d.pv, e.pv] [] (I ((d.a : Int) - e.a)) [] := r100 (by simp [IntKind.wrap, IntKind.bits, IntKind.signed]; omega)
theorem Av2 {α : Type} {A : List α} {x : α} {B : List α} {i : Nat} (hi : i = A.length) : (A ++ x :: B)[i]? = some x := by subst hi; simp
theorem AjG {α : Type} {A : List α} {x y : α} {B : List α} {i : Nat} (hi : i = A.length) : (A ++ x :: B).set i y = A ++ y :: B := by subst hi; simp
section
variable {H T : Sto} {g n : Nat}
abbrev fnc : PV := .func 100 [] []
theorem sw_loop (hn : n < 1000000000) : ∀ (U2 V2 : List Dg) (P U1 V1 M Q : List Dg) {a b c i : Nat}, U1.length = i → V1.length = i → U2.length = V2.length → a = P.length → b = P.length + (V1.length + U2.length) + M.length → c = i + U2.length → (P ++ V1 ++ U2 ++ M ++ U1 ++ V2 ++ Q).length = n →
    LE m157_0 l157_0 [(0, some (.arr H.length g 0 n 5)), (1, some (N a)), (2, some (N b)), (3, some (N c)), (10, some (N i))] (aS H T g (P ++ V1 ++ U2 ++ M ++ U1 ++ V2 ++ Q)) (.exit 0) [] (aS H T g (P ++ V1 ++ V2 ++ M ++ U1 ++ U2 ++ Q))
  | [], [], P, U1, V1, M, Q, a, b, c, i, h1, h2, h3, h4, h5, h6, h7 => r157_l0_out1 (by simp at h6; omega)
  | [], _ :: _, _, _, _, _, _, _, _, _, _, _, _, h3, _, _, _, _ => by simp at h3
  | _ :: _, [], _, _, _, _, _, _, _, _, _, _, _, h3, _, _, _, _ => by simp at h3
  | u :: U2, v :: V2, P, U1, V1, M, Q, a, b, c, i, h1, h2, h3, h4, h5, h6, h7 => by
    simp only [List.length_append, List.length_cons] at h3 h5 h6 h7;have e1 : P ++ V1 ++ (u :: U2) ++ M ++ U1 ++ (v :: V2) ++ Q = (P ++ V1) ++ u :: (U2 ++ M ++ U1 ++ v :: (V2 ++ Q)) := by simp
    have e2 : P ++ V1 ++ (u :: U2) ++ M ++ U1 ++ (v :: V2) ++ Q = (P ++ V1 ++ u :: U2 ++ M ++ U1) ++ v :: (V2 ++ Q) := by simp
    have s1 : (P ++ V1 ++ (u :: U2) ++ M ++ U1 ++ (v :: V2) ++ Q).set (a + i) v = (P ++ V1 ++ v :: U2 ++ M ++ U1) ++ v :: (V2 ++ Q) := by
      rw [e1, AjG (by simp; omega)]; simp
    have s2 : ((P ++ V1 ++ (u :: U2) ++ M ++ U1 ++ (v :: V2) ++ Q).set (a + i) v).set (b + i) u = P ++ (V1 ++ [v]) ++ U2 ++ M ++ (U1 ++ [u]) ++ V2 ++ Q := by
      rw [s1, AjG (by simp; omega)]; simp
    refine BzC (by omega) (by omega) (by omega) (by omega) (by omega) (d1 := v) (by rw [e2]; exact Av2 (by simp; omega)) (by omega) (d2 := u) (by rw [e1]; exact Av2 (by simp; omega)) (by simp; omega) (by rw [List.length_set]; simp; omega) ?_
    rw [s2];have e3 : P ++ V1 ++ (v :: V2) ++ M ++ U1 ++ (u :: U2) ++ Q = P ++ (V1 ++ [v]) ++ V2 ++ M ++ (U1 ++ [u]) ++ U2 ++ Q := by simp
    rw [e3];exact sw_loop hn U2 V2 P (U1 ++ [u]) (V1 ++ [v]) M Q (by simp; omega) (by simp; omega) (by omega) h4 (by simp; omega) (by omega) (by simp; omega)
theorem e157 (hn : n < 1000000000) {P U M V Q : List Dg} {a b c : Nat} (h3 : U.length = V.length) (h4 : a = P.length) (h5 : b = P.length + U.length + M.length) (h6 : c = U.length) (h7 : (P ++ U ++ M ++ V ++ Q).length = n) :
    E 157 [.arr H.length g 0 n 5, N a, N b, N c, fnc] (aS H T g (P ++ U ++ M ++ V ++ Q)) (.tuple []) (aS H T g (P ++ V ++ M ++ U ++ Q)) := by
  have := sw_loop (H := H) (T := T) (g := g) hn U V P [] [] M Q (i := 0) (a := a) (b := b) (c := c) rfl rfl h3 h4 (by simp; omega) (by omega) (by simpa using h7)
  simp only [List.append_nil] at this;exact r157 this
theorem ro_loop (hn : n < 1000000000) (m : Nat) : ∀ (k : Nat) (P U V Q : List Dg) {i j : Nat}, U.length + V.length ≤ k → 0 < i → 0 < j → i = U.length → j = V.length → m = P.length + U.length → (P ++ U ++ V ++ Q).length = n →
    ∃ P' U' V' Q', LE Bq3 Bq7 [(0, some (.arr H.length g 0 n 5)), (2, some (N m)), (4, some fnc), (10, some (N i)), (11, some (N j))] (aS H T g (P ++ U ++ V ++ Q)) (.exit 0) [(0, some (.arr H.length g 0 n 5)), (2, some (N m)), (4, some fnc), (10, some (N U'.length))] (aS H T g (P' ++ U' ++ V' ++ Q')) ∧
      U'.length = V'.length ∧ m = P'.length + U'.length ∧ (P' ++ U' ++ V' ++ Q').length = n ∧ P' ++ V' ++ U' ++ Q' = P ++ V ++ U ++ Q
  | 0, P, U, V, Q, i, j, hk, hi, hj, e1, e2, hm, hl => by omega
  | k + 1, P, U, V, Q, i, j, hk, hi, hj, e1, e2, hm, hl => by
    have hl' := hl;simp only [List.length_append] at hl';by_cases c1 : i = j
    · exact ⟨P, U, V, Q, by rw [← e1]; exact r154_l0_out1 (by omega), by omega, hm, hl, rfl⟩
    · by_cases c2 : j < i
      · obtain ⟨U1, U2, rfl, hu⟩ : ∃ U1 U2, U = U1 ++ U2 ∧ U1.length = j := ⟨U.take j, U.drop j, (List.take_append_drop j U).symm, by rw [List.length_take]; omega⟩
        simp only [List.length_append] at hk e1 hm hl';obtain ⟨P', U', V', Q', hL, f1, f2, f3, f4⟩ := ro_loop hn m k (P ++ V) U2 U1 Q (i := i - j) (j := j) (by omega) (by omega) (by omega) (by omega) (by omega) (by simp; omega) (by simp; omega)
        have hs := e157 (H := H) (T := T) (g := g) hn (P := P) (U := U1) (M := U2) (V := V) (Q := Q) (a := m - i) (b := m) (c := j) (by omega) (by omega) (by omega) (by omega) (by simp; omega)
        refine ⟨P', U', V', Q', BzE (by omega) (by omega) (by omega) (by omega) (by simpa using hs) (by omega) (by omega) (by simpa using hL), f1, f2, f3, ?_⟩
        rw [f4]; simp
      · obtain ⟨V1, V2, rfl, hv⟩ : ∃ V1 V2, V = V1 ++ V2 ∧ V1.length = j - i := ⟨V.take (j - i), V.drop (j - i), (List.take_append_drop (j - i) V).symm, by rw [List.length_take]; omega⟩
        simp only [List.length_append] at hk e2 hl';obtain ⟨P', U', V', Q', hL, f1, f2, f3, f4⟩ := ro_loop hn m k P V2 V1 (U ++ Q) (i := i) (j := j - i) (by omega) (by omega) (by omega) (by omega) (by omega) (by omega) (by simp; omega)
        have hs := e157 (H := H) (T := T) (g := g) hn (P := P) (U := U) (M := V1) (V := V2) (Q := Q) (a := m - i) (b := m + j - i) (c := i) (by omega) (by omega) (by omega) (by omega) (by simp; omega)
        refine ⟨P', U', V', Q', BzD (by omega) (by omega) (by omega) (by omega) (by omega) (by omega) (by omega) (by simpa using hs) (by omega) (by simpa using hL), f1, f2, f3, ?_⟩
        rw [f4]; simp
theorem e154 (hn : n < 1000000000) {P U V Q : List Dg} {a m b : Nat} (hu : U ≠ []) (hv : V ≠ []) (h4 : a = P.length) (h5 : m = P.length + U.length) (h6 : b = m + V.length) (h7 : (P ++ U ++ V ++ Q).length = n) :
    E 154 [.arr H.length g 0 n 5, N a, N m, N b, fnc] (aS H T g (P ++ U ++ V ++ Q)) (.tuple []) (aS H T g (P ++ V ++ U ++ Q)) := by
  have hu' := List.length_pos_iff.2 hu;have hv' := List.length_pos_iff.2 hv;have h7' := h7;simp only [List.length_append] at h7';obtain ⟨P', U', V', Q', hL, f1, f2, f3, f4⟩ := ro_loop (H := H) (T := T) (g := g) hn m _ P U V Q (i := m - a) (j := b - m) (Nat.le_refl _) (by omega) (by omega) (by omega) (by omega) h5 h7
  have f3' := f3;simp only [List.length_append] at f3';rw [← f4];have hs := e157 (H := H) (T := T) (g := g) hn (P := P') (U := U') (M := []) (V := V') (Q := Q') (a := m - U'.length) (b := m) (c := U'.length) f1 (by omega) (by simp; omega) rfl (by simp; omega)
  simp only [List.append_nil] at hs;exact r154 (by omega) (by omega) (by omega) (by omega) hL (by omega) hs
end
end Go.Abs.Z

namespace Go.Abs.Z
open Go.Proofs Go.RowKit
section
variable {H T : Sto} {g n : Nat}
def Bd (l : List Dg) : Prop := ∀ d ∈ l, d.a < 1000000000
theorem in_loop (hn : n < 1000000000) {a b k : Nat} (P Q : List Dg) (x : Dg) : ∀ (z : Nat) (S1 S2 : List Dg) {j : Nat}, S1.length = z → a = P.length → j = P.length + S1.length → Asc (S1 ++ S2) → (∀ y ∈ S2, x.a < y.a) → Bd (S1 ++ x :: S2) → (P ++ (S1 ++ x :: S2) ++ Q).length = n →
    ∃ R j', LE Bx9 BxE [(0, some (.arr H.length g 0 n 5)), (1, some (N a)), (2, some (N b)), (3, some fnc), (8, some (N k)), (9, some (N j))] (aS H T g (P ++ (S1 ++ x :: S2) ++ Q)) (.exit 2) [(0, some (.arr H.length g 0 n 5)), (1, some (N a)), (2, some (N b)), (3, some fnc), (8, some (N k)), (9, some (N j'))] (aS H T g (P ++ R ++ Q)) ∧ Sd (S1 ++ x :: S2) R := by
  intro z
  induction z with
  | zero =>
    intro S1 S2 j hz ha hj hs hx hb hl;have := List.length_eq_zero_iff.1 hz;subst this;refine ⟨_, j, r149_l1_out1 (by simp at hj; omega), Sd.refl ?_⟩
    exact List.pairwise_cons.2 ⟨fun y hy => Nat.le_of_lt (hx y hy), by rw [List.nil_append] at hs; exact hs⟩
  | succ z ih =>
    intro S1 S2 j hz ha hj hs hx hb hl
    obtain ⟨S1, y, rfl⟩ : ∃ S y, S1 = S ++ [y] := by
      rcases List.eq_nil_or_concat S1 with h | ⟨S, y, h⟩
      · rw [h] at hz; cases hz
      · exact ⟨S, y, by simpa using h⟩
    have hl' := hl;simp only [List.length_append, List.length_cons, List.length_nil] at hz;simp only [List.length_append, List.length_cons, List.length_nil] at hl' hj;have e1 : P ++ (S1 ++ [y] ++ x :: S2) ++ Q = (P ++ S1 ++ [y]) ++ x :: (S2 ++ Q) := by simp
    have e2 : P ++ (S1 ++ [y] ++ x :: S2) ++ Q = (P ++ S1) ++ y :: x :: (S2 ++ Q) := by simp
    have g1 : (P ++ (S1 ++ [y] ++ x :: S2) ++ Q)[j]? = some x := by rw [e1]; exact Av2 (by simp; omega)
    have g2 : (P ++ (S1 ++ [y] ++ x :: S2) ++ Q)[j - 1]? = some y := by rw [e2]; exact Av2 (by simp; omega)
    have hc := e100 (hb x (by simp)) (hb y (by simp))
    by_cases c : x.a < y.a
    · have s1 : ((P ++ (S1 ++ [y] ++ x :: S2) ++ Q).set j y).set (j - 1) x = P ++ (S1 ++ x :: (y :: S2)) ++ Q := by
        rw [e1, AjG (by simp; omega)]
        have : (P ++ S1 ++ [y]) ++ y :: (S2 ++ Q) = (P ++ S1) ++ y :: y :: (S2 ++ Q) := by simp
        rw [this, AjG (by simp; omega)]; simp
      obtain ⟨R, j', hL, hR⟩ := ih S1 (y :: S2) (j := j - 1) (by omega) ha (by omega) (by simpa using hs) (fun z hz => by
        rcases List.mem_cons.1 hz with rfl | hz
        · exact c
        · exact hx z hz) (fun z hz => hb z (by simp at hz ⊢; rcases hz with h | h | h | h <;> simp [h])) (by simp; omega)
      refine ⟨R, j', BzO (by omega) (by omega) g1 (by omega) (by omega) (by omega) g2 hc (by omega) (by simp; omega) (by rw [List.length_set]; simp; omega) (by rw [s1]; exact hL), hR.asc, hR.perm.trans ?_, fun z => (hR.keep z).trans ?_⟩
      · rw [List.append_assoc]; exact List.Perm.append_left _ (List.Perm.swap _ _ _)
      · rw [List.append_assoc, AxM, AxM]; congr 1;exact fk_ne (by omega) _
    · refine ⟨_, j, r149_l1_out2 (by omega) (by omega) g1 (by omega) (by omega) (by omega) g2 hc (by omega), Sd.refl ?_⟩
      rw [AjB] at hs ⊢;refine ⟨hs.1, List.pairwise_cons.2 ⟨fun z hz => Nat.le_of_lt (hx z hz), hs.2.1⟩, fun z hz w hw => ?_⟩
      rcases List.mem_cons.1 hw with rfl | hw
      · rcases List.mem_append.1 hz with hz | hz
        · have := (AjB.1 hs.1).2.2 z hz y (by simp); omega
        · rw [List.mem_singleton] at hz; subst hz; omega
      · exact hs.2.2 z hz w hw
theorem is_loop (hn : n < 1000000000) {a b : Nat} (P Q : List Dg) : ∀ (L S S0 : List Dg) {k : Nat}, a = P.length → k = P.length + S.length → b = k + L.length → Sd S0 S → Bd (S ++ L) → (P ++ (S ++ L) ++ Q).length = n →
    ∃ R, LE Bq4 Bq8 [(0, some (.arr H.length g 0 n 5)), (1, some (N a)), (2, some (N b)), (3, some fnc), (8, some (N k))] (aS H T g (P ++ (S ++ L) ++ Q)) (.exit 0) [(1, some (N a))] (aS H T g (P ++ R ++ Q)) ∧ Sd (S0 ++ L) R
  | [], S, S0, k, ha, hk, hb, hS, hB, hl => ⟨S, by rw [List.append_nil]; exact AvK (by simp at hb; omega), by simpa using hS⟩
  | x :: L, S, S0, k, ha, hk, hb, hS, hB, hl => by
    have hl' := hl;simp only [List.length_append, List.length_cons] at hl' hb;obtain ⟨R1, j, h1, f1⟩ := in_loop (H := H) (T := T) (g := g) (b := b) (k := k) hn P (L ++ Q) x S.length S [] (j := k) rfl ha hk (by simpa using hS.asc) (fun y h => by cases h) (fun z hz => hB z (by simp at hz ⊢; rcases hz with h | h <;> simp [h])) (by simp; omega)
    have hlen := f1.len;simp only [List.length_append, List.length_cons, List.length_nil] at hlen
    obtain ⟨R, h2, f2⟩ := is_loop hn (b := b) P Q L R1 (S0 ++ [x]) (k := k + 1) ha (by omega) (by omega) ⟨f1.asc, f1.perm.trans (hS.perm.append_right [x]), fun z => by rw [f1.keep, AxM, AxM, hS.keep]⟩ (fun z hz => by
      rcases List.mem_append.1 hz with hz | hz
      · exact hB z (by have := f1.mem.1 hz; simp at this ⊢; rcases this with h | h <;> simp [h])
      · exact hB z (by simp [hz])) (by simp; omega)
    refine ⟨R, BzP (by omega) (by simpa using h1) (by omega) (by simpa using h2), by simpa using f2⟩
theorem e149 (hn : n < 1000000000) {P L Q : List Dg} {a b : Nat} (ha : a = P.length) (hb : b = a + L.length) (hB : Bd L) (hl : (P ++ L ++ Q).length = n) :
    ∃ R, E 149 [.arr H.length g 0 n 5, N a, N b, fnc] (aS H T g (P ++ L ++ Q)) (.tuple []) (aS H T g (P ++ R ++ Q)) ∧ Sd L R := by
  have hl' := hl;simp only [List.length_append] at hl';cases L with
  | nil => exact ⟨[], r149 (by omega) (AvK (by simp at hb; omega)), Sd.refl List.Pairwise.nil⟩
  | cons x L =>
    simp only [List.length_cons] at hb hl';obtain ⟨R, h, f⟩ := is_loop (H := H) (T := T) (g := g) (b := b) hn P Q L [x] [x] (k := a + 1) ha (by simp; omega) (by omega) (Sd.refl (List.pairwise_singleton _ _)) hB hl
    exact ⟨R, r149 (by omega) h, f⟩
theorem bs_gen {LEp : Nat → Nat → Nat → Prop} {f : Nat → Prop} {lo hi : Nat} (out : ∀ i j, ¬ i < j → LEp i j i) (next1 : ∀ i j r, lo ≤ i → i < j → j ≤ hi → f ((i + j) / 2) → LEp ((i + j) / 2 + 1) j r → LEp i j r)
    (next2 : ∀ i j r, lo ≤ i → i < j → j ≤ hi → ¬ f ((i + j) / 2) → LEp i ((i + j) / 2) r → LEp i j r) :
    ∀ (k i j : Nat), j - i ≤ k → lo ≤ i → i ≤ j → j ≤ hi → (i = lo ∨ f (i - 1)) → (j = hi ∨ ¬ f j) → ∃ r, LEp i j r ∧ lo ≤ r ∧ r ≤ hi ∧ (r = lo ∨ f (r - 1)) ∧ (r = hi ∨ ¬ f r)
  | 0, i, j, hk, h1, h2, h3, h4, h5 => by
    have : i = j := by omega
    subst this;exact ⟨i, out i i (by omega), h1, h3, h4, h5⟩
  | k + 1, i, j, hk, h1, h2, h3, h4, h5 => by
    by_cases c : i < j
    · by_cases hf : f ((i + j) / 2)
      · obtain ⟨r, hr, x⟩ := bs_gen out next1 next2 k ((i + j) / 2 + 1) j (by omega) (by omega) (by omega) h3 (.inr (by simpa using hf)) h5
        exact ⟨r, next1 i j r h1 c h3 hf hr, x⟩
      · obtain ⟨r, hr, x⟩ := bs_gen out next1 next2 k i ((i + j) / 2) (by omega) h1 (by omega) (by omega) h4 (.inr hf)
        exact ⟨r, next2 i j r h1 c h3 hf hr, x⟩
    · have : i = j := by omega
      subst this;exact ⟨i, out i i (by omega), h1, h3, h4, h5⟩
def ky (l : List Dg) (i : Nat) : Nat := match l[i]? with
  | some d => d.a
  | none => 0
theorem ky_of {l : List Dg} {i : Nat} {d : Dg} (h : l[i]? = some d) : ky l i = d.a := by unfold ky; rw [h]
theorem AqV {l : List Dg} {i : Nat} (h : i < l.length) : l[i]? = some l[i] := List.getElem?_eq_getElem h
theorem AjC {l : List Dg} (hb : Bd l) {i : Nat} (h : i < l.length) : (l[i]).a < 1000000000 := hb _ (List.getElem_mem h)
theorem bs0 (hn : n < 1000000000) {Ds : List Dg} (hb : Bd Ds) (hl : Ds.length = n) {a m b : Nat} (h1 : a < n) (h2 : m ≤ b) (h3 : b ≤ n) :
    ∃ r, LE AvQ AvV [(0, some (.arr H.length g 0 n 5)), (1, some (N a)), (2, some (N m)), (3, some (N b)), (4, some fnc), (10, some (N m)), (11, some (N b))] (aS H T g Ds) (.exit 0) [(0, some (.arr H.length g 0 n 5)), (1, some (N a)), (2, some (N m)), (3, some (N b)), (4, some fnc), (10, some (N r))] (aS H T g Ds) ∧
      m ≤ r ∧ r ≤ b ∧ (r = m ∨ ky Ds (r - 1) < ky Ds a) ∧ (r = b ∨ ¬ ky Ds r < ky Ds a) := by
  refine bs_gen (f := fun h => ky Ds h < ky Ds a) (lo := m) (hi := b) (LEp := fun i j r => LE AvQ AvV [(0, some (.arr H.length g 0 n 5)), (1, some (N a)), (2, some (N m)), (3, some (N b)), (4, some fnc), (10, some (N i)), (11, some (N j))] (aS H T g Ds) (.exit 0) [(0, some (.arr H.length g 0 n 5)), (1, some (N a)), (2, some (N m)), (3, some (N b)), (4, some fnc), (10, some (N r))] (aS H T g Ds)) ?_ ?_ ?_ _ m b (Nat.le_refl _) (Nat.le_refl _) h2 (Nat.le_refl _) (.inl rfl) (.inl rfl)
  · exact fun i j h => r150_l0_out1 (by omega)
  · intro i j r x1 x2 x3 hf hL;have y1 : (i + j) / 2 < Ds.length := by omega
    have y2 : a < Ds.length := by omega
    rw [ky_of (AqV y1), ky_of (AqV y2)] at hf;exact BzM (by omega) (by omega) (by omega) (by omega) (by omega) (by omega) (AqV y1) h1 (AqV y2) (e100 (AjC hb y1) (AjC hb y2)) (by omega) hL
  · intro i j r x1 x2 x3 hf hL;have y1 : (i + j) / 2 < Ds.length := by omega
    have y2 : a < Ds.length := by omega
    rw [ky_of (AqV y1), ky_of (AqV y2)] at hf;exact BzL (by omega) (by omega) (by omega) (by omega) (by omega) (by omega) (AqV y1) h1 (AqV y2) (e100 (AjC hb y1) (AjC hb y2)) (by omega) hL
theorem bs2 (hn : n < 1000000000) {Ds : List Dg} (hb : Bd Ds) (hl : Ds.length = n) {a m b : Nat} (h1 : m < n) (h2 : a ≤ m) :
    ∃ r, LE AvP AvU [(0, some (.arr H.length g 0 n 5)), (1, some (N a)), (2, some (N m)), (3, some (N b)), (4, some fnc), (14, some (N a)), (15, some (N m))] (aS H T g Ds) (.exit 4) [(0, some (.arr H.length g 0 n 5)), (1, some (N a)), (2, some (N m)), (3, some (N b)), (4, some fnc), (14, some (N r))] (aS H T g Ds) ∧
      a ≤ r ∧ r ≤ m ∧ (r = a ∨ ¬ ky Ds m < ky Ds (r - 1)) ∧ (r = m ∨ ¬ ¬ ky Ds m < ky Ds r) := by
  refine bs_gen (f := fun h => ¬ ky Ds m < ky Ds h) (lo := a) (hi := m) (LEp := fun i j r => LE AvP AvU [(0, some (.arr H.length g 0 n 5)), (1, some (N a)), (2, some (N m)), (3, some (N b)), (4, some fnc), (14, some (N i)), (15, some (N j))] (aS H T g Ds) (.exit 4) [(0, some (.arr H.length g 0 n 5)), (1, some (N a)), (2, some (N m)), (3, some (N b)), (4, some fnc), (14, some (N r))] (aS H T g Ds)) ?_ ?_ ?_ _ a m (Nat.le_refl _) (Nat.le_refl _) h2 (Nat.le_refl _) (.inl rfl) (.inl rfl)
  · exact fun i j h => r150_l2_out1 (by omega)
  · intro i j r x1 x2 x3 hf hL;have y1 : (i + j) / 2 < Ds.length := by omega
    have y2 : m < Ds.length := by omega
    rw [ky_of (AqV y1), ky_of (AqV y2)] at hf;exact BzI (by omega) (by omega) (by omega) (by omega) (by omega) h1 (AqV y2) (by omega) (AqV y1) (e100 (AjC hb y2) (AjC hb y1)) (by omega) hL
  · intro i j r x1 x2 x3 hf hL;have y1 : (i + j) / 2 < Ds.length := by omega
    have y2 : m < Ds.length := by omega
    rw [ky_of (AqV y1), ky_of (AqV y2)] at hf;exact BzJ (by omega) (by omega) (by omega) (by omega) (by omega) h1 (AqV y2) (by omega) (AqV y1) (e100 (AjC hb y2) (AjC hb y1)) (by omega) hL
theorem bs4 (hn : n < 1000000000) {Ds : List Dg} (hb : Bd Ds) (hl : Ds.length = n) {a m b lo hi p : Nat} (hp : p = (a + b) / 2 + m - 1) (h2 : lo ≤ hi) (h3 : hi ≤ n) (h4 : hi ≤ p + 1) (h5 : p - lo < n) :
    ∃ r, LE AxF AxG [(0, some (.arr H.length g 0 n 5)), (1, some (N a)), (2, some (N m)), (3, some (N b)), (4, some fnc), (18, some (N ((a + b) / 2))), (19, some (N ((a + b) / 2 + m))), (20, some (N lo)), (21, some (N hi)), (22, some (N p))] (aS H T g Ds) (.exit 8) [(0, some (.arr H.length g 0 n 5)), (1, some (N a)), (2, some (N m)), (3, some (N b)), (4, some fnc), (18, some (N ((a + b) / 2))), (19, some (N ((a + b) / 2 + m))), (20, some (N r))] (aS H T g Ds) ∧
      lo ≤ r ∧ r ≤ hi ∧ (r = lo ∨ ¬ ky Ds (p - (r - 1)) < ky Ds (r - 1)) ∧ (r = hi ∨ ¬ ¬ ky Ds (p - r) < ky Ds r) := by
  subst hp;refine bs_gen (f := fun h => ¬ ky Ds ((a + b) / 2 + m - 1 - h) < ky Ds h) (lo := lo) (hi := hi) (LEp := fun i j r => LE AxF AxG [(0, some (.arr H.length g 0 n 5)), (1, some (N a)), (2, some (N m)), (3, some (N b)), (4, some fnc), (18, some (N ((a + b) / 2))), (19, some (N ((a + b) / 2 + m))), (20, some (N i)), (21, some (N j)), (22, some (N ((a + b) / 2 + m - 1)))] (aS H T g Ds) (.exit 8) [(0, some (.arr H.length g 0 n 5)), (1, some (N a)), (2, some (N m)), (3, some (N b)), (4, some fnc), (18, some (N ((a + b) / 2))), (19, some (N ((a + b) / 2 + m))), (20, some (N r))] (aS H T g Ds)) ?_ ?_ ?_ _ lo hi (Nat.le_refl _) (Nat.le_refl _) h2 (Nat.le_refl _) (.inl rfl) (.inl rfl)
  · exact fun i j h => r150_l4_out1 (by omega)
  · intro i j r x1 x2 x3 hf hL;have y1 : (i + j) / 2 < Ds.length := by omega
    have y2 : (a + b) / 2 + m - 1 - (i + j) / 2 < Ds.length := by omega
    rw [ky_of (AqV y1), ky_of (AqV y2)] at hf;exact BzF (by omega) (by omega) (by omega) (by omega) (by omega) (by omega) (by omega) (by omega) (AqV y2) (by omega) (AqV y1) (e100 (AjC hb y2) (AjC hb y1)) (by omega) hL
  · intro i j r x1 x2 x3 hf hL;have y1 : (i + j) / 2 < Ds.length := by omega
    have y2 : (a + b) / 2 + m - 1 - (i + j) / 2 < Ds.length := by omega
    rw [ky_of (AqV y1), ky_of (AqV y2)] at hf;exact BzG (by omega) (by omega) (by omega) (by omega) (by omega) (by omega) (by omega) (by omega) (AqV y2) (by omega) (AqV y1) (e100 (AjC hb y2) (AjC hb y1)) (by omega) hL
end
end Go.Abs.Z

namespace Go.Abs.Z
open Go.Proofs Go.RowKit
section
variable {H T : Sto} {g n : Nat}
theorem l1_loop (hn : n < 1000000000) {a m b r : Nat} (x : Dg) (rest : List Dg) : ∀ (B P : List Dg) {k : Nat}, k = P.length → r = P.length + B.length + 1 → (P ++ x :: (B ++ rest)).length = n →
    LE m150_1 l150_1 [(0, some (.arr H.length g 0 n 5)), (1, some (N a)), (2, some (N m)), (3, some (N b)), (4, some fnc), (10, some (N r)), (13, some (N k))] (aS H T g (P ++ x :: (B ++ rest))) (.exit 2) [(0, some (.arr H.length g 0 n 5)), (1, some (N a)), (2, some (N m)), (3, some (N b)), (4, some fnc), (10, some (N r))] (aS H T g (P ++ (B ++ x :: rest)))
  | [], P, k, hk, hr, hl => by
    have hl' := hl;simp only [List.length_append, List.length_cons, List.length_nil] at hl' hr;exact r150_l1_out1 (by omega) (by omega) (by omega)
  | y :: B, P, k, hk, hr, hl => by
    have hl' := hl;simp only [List.length_append, List.length_cons] at hl' hr
    have g1 : (P ++ x :: (y :: B ++ rest))[k + 1]? = some y := by
      rw [show P ++ x :: (y :: B ++ rest) = (P ++ [x]) ++ y :: (B ++ rest) by simp]; exact Av2 (by simp; omega)
    have g2 : (P ++ x :: (y :: B ++ rest))[k]? = some x := Av2 hk
    have s : ((P ++ x :: (y :: B ++ rest)).set k y).set (k + 1) x = (P ++ [y]) ++ x :: (B ++ rest) := by
      rw [AjG hk, show P ++ y :: (y :: B ++ rest) = (P ++ [y]) ++ y :: (B ++ rest) by simp, AjG (by simp; omega)]
    refine BzK (by omega) (by omega) (by omega) (by omega) (by omega) g1 (by omega) g2 (by omega) (by rw [List.length_set]; omega) ?_
    rw [s];have := l1_loop hn (a := a) (m := m) (b := b) (r := r) x rest B (P ++ [y]) (k := k + 1) (by simp; omega) (by simp; omega) (by simp; omega)
    simpa using this
theorem l3_loop (hn : n < 1000000000) {a m b r : Nat} (x : Dg) : ∀ (z : Nat) (B P rest : List Dg) {k : Nat}, B.length = z → r = P.length → k = P.length + B.length → (P ++ B ++ x :: rest).length = n →
    LE m150_3 l150_3 [(0, some (.arr H.length g 0 n 5)), (1, some (N a)), (2, some (N m)), (3, some (N b)), (4, some fnc), (14, some (N r)), (17, some (N k))] (aS H T g (P ++ B ++ x :: rest)) (.exit 6) [(0, some (.arr H.length g 0 n 5)), (1, some (N a)), (2, some (N m)), (3, some (N b)), (4, some fnc), (14, some (N r))] (aS H T g (P ++ x :: (B ++ rest)))
  | 0, B, P, rest, k, hz, hr, hk, hl => by
    have := List.length_eq_zero_iff.1 hz;subst this;rw [List.append_nil, List.nil_append];exact r150_l3_out1 (by simp at hk; omega)
  | z + 1, B, P, rest, k, hz, hr, hk, hl => by
    obtain ⟨B, y, rfl⟩ : ∃ S y, B = S ++ [y] := by
      rcases List.eq_nil_or_concat B with h | ⟨S, y, h⟩
      · rw [h] at hz; cases hz
      · exact ⟨S, y, by simpa using h⟩
    have hl' := hl;simp only [List.length_append, List.length_cons, List.length_nil] at hl' hk hz
    have g1 : (P ++ (B ++ [y]) ++ x :: rest)[k - 1]? = some y := by
      rw [show P ++ (B ++ [y]) ++ x :: rest = (P ++ B) ++ y :: (x :: rest) by simp]; exact Av2 (by simp; omega)
    have g2 : (P ++ (B ++ [y]) ++ x :: rest)[k]? = some x := Av2 (by simp; omega)
    have s : ((P ++ (B ++ [y]) ++ x :: rest).set k y).set (k - 1) x = P ++ B ++ x :: (y :: rest) := by
      rw [AjG (by simp; omega), show P ++ (B ++ [y]) ++ y :: rest = (P ++ B) ++ y :: (y :: rest) by simp, AjG (by simp; omega)]
    refine BzH (by omega) (by omega) (by omega) (by omega) g1 (by omega) g2 (by omega) (by rw [List.length_set]; omega) ?_
    rw [s];have := l3_loop hn (a := a) (m := m) (b := b) (r := r) x z B P (y :: rest) (k := k - 1) (by omega) hr (by omega) (by simp; omega)
    simpa using this
theorem r150_main (hn : n < 1000000000) {a m b r lo hi : Nat} {Ds Ds1 Ds2 Ds3 : List Dg} (ha : a < m) (hb : m < b) (hbn : b ≤ n) (c1 : m - a ≠ 1) (c2 : b - m ≠ 1)
    (elo : lo = if (a + b) / 2 < m then (a + b) / 2 + m - b else a) (ehi : hi = if (a + b) / 2 < m then (a + b) / 2 else m)
    (L1 : LE AxF AxG [(0, some (.arr H.length g 0 n 5)), (1, some (N a)), (2, some (N m)), (3, some (N b)), (4, some fnc), (18, some (N ((a + b) / 2))), (19, some (N ((a + b) / 2 + m))), (20, some (N lo)), (21, some (N hi)), (22, some (N ((a + b) / 2 + m - 1)))] (aS H T g Ds) (.exit 8) [(0, some (.arr H.length g 0 n 5)), (1, some (N a)), (2, some (N m)), (3, some (N b)), (4, some fnc), (18, some (N ((a + b) / 2))), (19, some (N ((a + b) / 2 + m))), (20, some (N r))] (aS H T g Ds))
    (hr1 : lo ≤ r) (hr2 : r ≤ hi)
    (h1 : r < m ∧ r < (a + b) / 2 → E 154 [.arr H.length g 0 n 5, N r, N m, N ((a + b) / 2 + m - r), fnc] (aS H T g Ds) (.tuple []) (aS H T g Ds1)) (h1' : ¬ (r < m ∧ r < (a + b) / 2) → Ds1 = Ds)
    (h2 : a < r ∧ r < (a + b) / 2 → E 150 [.arr H.length g 0 n 5, N a, N r, N ((a + b) / 2), fnc] (aS H T g Ds1) (.tuple []) (aS H T g Ds2)) (h2' : ¬ (a < r ∧ r < (a + b) / 2) → Ds2 = Ds1)
    (h3 : r < m ∧ (a + b) / 2 + m - r < b → E 150 [.arr H.length g 0 n 5, N ((a + b) / 2), N ((a + b) / 2 + m - r), N b, fnc] (aS H T g Ds2) (.tuple []) (aS H T g Ds3)) (h3' : ¬ (r < m ∧ (a + b) / 2 + m - r < b) → Ds3 = Ds2) :
    E 150 [.arr H.length g 0 n 5, N a, N m, N b, fnc] (aS H T g Ds) (.tuple []) (aS H T g Ds3) := by
  by_cases d0 : (a + b) / 2 < m
  · rw [if_pos d0] at elo ehi;subst elo ehi;by_cases d1 : r < (a + b) / 2
    · have k1 := h1 ⟨by omega, d1⟩
      by_cases d2 : a < r
      · have k2 := h2 ⟨d2, d1⟩;by_cases d3 : (a + b) / 2 + m - r < b
        · have k3 := h3 ⟨by omega, d3⟩
          exact r150_6 (by omega) (by omega) (by omega) (by omega) (by omega) (by omega) (by omega) (by omega) (by omega) (by omega) (by omega) (by omega) (by omega) L1 (by omega) (by omega) (by omega) k1 (by omega) (by omega) k2 (by omega) (by omega) k3
        · have k3 := h3' (fun h => d3 h.2); subst k3
          exact r150_7 (by omega) (by omega) (by omega) (by omega) (by omega) (by omega) (by omega) (by omega) (by omega) (by omega) (by omega) (by omega) (by omega) L1 (by omega) (by omega) (by omega) k1 (by omega) (by omega) k2 (by omega) (by omega)
      · have k2 := h2' (fun h => d2 h.1); subst k2
        by_cases d3 : (a + b) / 2 + m - r < b
        · have k3 := h3 ⟨by omega, d3⟩
          exact r150_8 (by omega) (by omega) (by omega) (by omega) (by omega) (by omega) (by omega) (by omega) (by omega) (by omega) (by omega) (by omega) (by omega) L1 (by omega) (by omega) (by omega) k1 (by omega) (by omega) (by omega) k3
        · have k3 := h3' (fun h => d3 h.2); subst k3
          exact r150_9 (by omega) (by omega) (by omega) (by omega) (by omega) (by omega) (by omega) (by omega) (by omega) (by omega) (by omega) (by omega) (by omega) L1 (by omega) (by omega) (by omega) k1 (by omega) (by omega) (by omega)
    · have k1 := h1' (fun h => d1 h.2); subst k1
      have k2 := h2' (fun h => d1 h.2); subst k2
      have k3 := h3 ⟨by omega, by omega⟩
      exact r150_3 (by omega) (by omega) (by omega) (by omega) (by omega) (by omega) (by omega) (by omega) (by omega) (by omega) (by omega) (by omega) (by omega) L1 (by omega) (by omega) (by omega) (by omega) (by omega) (by omega) (by omega) k3
  · rw [if_neg d0] at elo ehi;rw [elo, ehi] at L1;rw [elo] at hr1;rw [ehi] at hr2;clear elo ehi;by_cases d1 : r < m
    · have k1 := h1 ⟨by omega, by omega⟩
      by_cases d2 : a < r
      · have k2 := h2 ⟨d2, by omega⟩
        by_cases d3 : (a + b) / 2 + m - r < b
        · have k3 := h3 ⟨by omega, d3⟩
          exact r150_10 (by omega) (by omega) (by omega) (by omega) (by omega) (by omega) (by omega) (by omega) (by omega) (by omega) (by omega) (by omega) L1 (by omega) (by omega) (by omega) k1 (by omega) (by omega) k2 (by omega) (by omega) k3
        · have k3 := h3' (fun h => d3 h.2); subst k3
          exact r150_11 (by omega) (by omega) (by omega) (by omega) (by omega) (by omega) (by omega) (by omega) (by omega) (by omega) (by omega) (by omega) L1 (by omega) (by omega) (by omega) k1 (by omega) (by omega) k2 (by omega) (by omega)
      · have k2 := h2' (fun h => d2 h.1); subst k2
        by_cases d3 : (a + b) / 2 + m - r < b
        · have k3 := h3 ⟨by omega, d3⟩
          exact r150_12 (by omega) (by omega) (by omega) (by omega) (by omega) (by omega) (by omega) (by omega) (by omega) (by omega) (by omega) (by omega) L1 (by omega) (by omega) (by omega) k1 (by omega) (by omega) (by omega) k3
        · have k3 := h3' (fun h => d3 h.2); subst k3
          exact r150_13 (by omega) (by omega) (by omega) (by omega) (by omega) (by omega) (by omega) (by omega) (by omega) (by omega) (by omega) (by omega) L1 (by omega) (by omega) (by omega) k1 (by omega) (by omega) (by omega)
    · have k1 := h1' (fun h => d1 h.1); subst k1
      have k3 := h3' (fun h => d1 h.1); subst k3
      by_cases d2 : r < (a + b) / 2
      · have k2 := h2 ⟨by omega, d2⟩
        exact r150_4 (by omega) (by omega) (by omega) (by omega) (by omega) (by omega) (by omega) (by omega) (by omega) (by omega) (by omega) (by omega) L1 (by omega) (by omega) (by omega) (by omega) k2 (by omega)
      · have k2 := h2' (fun h => d2 h.2); subst k2
        exact r150_5 (by omega) (by omega) (by omega) (by omega) (by omega) (by omega) (by omega) (by omega) (by omega) (by omega) (by omega) (by omega) L1 (by omega) (by omega) (by omega) (by omega) (by omega)
theorem le_last {l : List Dg} {u : Dg} {v : Nat} (h : Asc (l ++ [u])) (hu : u.a ≤ v) : ∀ x ∈ l ++ [u], x.a ≤ v := fun x hx => by
  rcases List.mem_append.1 hx with hx | hx
  · exact Nat.le_trans ((AjB.1 h).2.2 x hx u (by simp)) hu
  · rw [List.mem_singleton] at hx; subst hx; exact hu
theorem ge_first {l : List Dg} {u : Dg} {v : Nat} (h : Asc (u :: l)) (hu : v ≤ u.a) : ∀ x ∈ u :: l, v ≤ x.a := fun x hx => by
  rcases List.mem_cons.1 hx with rfl | hx
  · exact hu
  · exact Nat.le_trans hu ((List.pairwise_cons.1 h).1 x hx)
theorem ky_at {P Q : List Dg} {x : Dg} {i : Nat} (hi : i = P.length) : ky (P ++ x :: Q) i = x.a := ky_of (Av2 hi)
theorem snoc_of {l : List Dg} (h : 0 < l.length) : ∃ S y, l = S ++ [y] := by
  rcases List.eq_nil_or_concat l with e | ⟨S, y, e⟩
  · rw [e] at h; cases h
  · exact ⟨S, y, by simpa using e⟩
theorem BjJ {P A1 M B2 Q : List Dg} (h1 : Asc A1) (h2 : Asc B2) {i j : Nat} (hi : i + 1 = P.length + A1.length) (hj : j = P.length + A1.length + M.length)
    (h : A1 = [] ∨ B2 = [] ∨ ky (P ++ A1 ++ M ++ B2 ++ Q) i ≤ ky (P ++ A1 ++ M ++ B2 ++ Q) j) : ∀ x ∈ A1, ∀ y ∈ B2, x.a ≤ y.a := by
  rcases h with rfl | rfl | h
  · intro x hx; cases hx
  · intro x _ y hy; cases hy
  · cases hB : B2 with
    | nil => intro x _ y hy; cases hy
    | cons v B2' =>
      rcases Nat.eq_zero_or_pos A1.length with h0 | h0
      · rw [List.length_eq_zero_iff.1 h0]; intro x hx; cases hx
      · obtain ⟨S, u, e⟩ := snoc_of h0;subst e hB;simp only [List.length_append, List.length_cons, List.length_nil] at hi hj
        rw [show P ++ (S ++ [u]) ++ M ++ (v :: B2') ++ Q = (P ++ S) ++ u :: (M ++ v :: (B2' ++ Q)) by simp, ky_at (by simp; omega),
          show (P ++ S) ++ u :: (M ++ v :: (B2' ++ Q)) = (P ++ S ++ u :: M) ++ v :: (B2' ++ Q) by simp, ky_at (by simp; omega)] at h
        exact fun x hx y hy => Nat.le_trans (le_last h1 h x hx) (ge_first h2 (Nat.le_refl _) y hy)
theorem BjK {P A2 M B1 Q : List Dg} (h1 : Asc A2) (h2 : Asc B1) {i j : Nat} (hi : i = P.length) (hj : j + 1 = P.length + A2.length + M.length + B1.length)
    (h : A2 = [] ∨ B1 = [] ∨ ky (P ++ A2 ++ M ++ B1 ++ Q) j < ky (P ++ A2 ++ M ++ B1 ++ Q) i) : ∀ x ∈ A2, ∀ y ∈ B1, y.a < x.a := by
  rcases h with rfl | rfl | h
  · intro x hx; cases hx
  · intro x _ y hy; cases hy
  · cases hA : A2 with
    | nil => intro x hx; cases hx
    | cons v A2' =>
      rcases Nat.eq_zero_or_pos B1.length with h0 | h0
      · rw [List.length_eq_zero_iff.1 h0]; intro x _ y hy; cases hy
      · obtain ⟨S, u, e⟩ := snoc_of h0;subst e hA;simp only [List.length_append, List.length_cons, List.length_nil] at hi hj
        rw [show P ++ (v :: A2') ++ M ++ (S ++ [u]) ++ Q = P ++ v :: (A2' ++ M ++ S ++ u :: Q) by simp, ky_at hi,
          show P ++ v :: (A2' ++ M ++ S ++ u :: Q) = (P ++ v :: A2' ++ M ++ S) ++ u :: Q by simp, ky_at (by simp; omega)] at h
        exact fun x hx y hy => Nat.lt_of_le_of_lt (le_last h2 (Nat.le_refl _) y hy) (ge_first (v := u.a + 1) h1 h x hx)
end
end Go.Abs.Z
