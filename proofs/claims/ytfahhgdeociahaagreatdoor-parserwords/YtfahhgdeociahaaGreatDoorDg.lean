/- A part of the proof: D19 D22. -/
import Derived.Test.YtfahhgdeociahaaGreatDoorWe
import Derived.Test.YtfahhgdeociahaaGreatDoorDa
import Derived.Test.YtfahhgdeociahaaGreatDoorDf
import Derived.Test.YtfahhgdeociahaaGreatDoorWf

set_option linter.unusedVariables false
set_option linter.unusedSimpArgs false
namespace Go.Abs.Z
open Go.Proofs Go.RowKit
section
variable {s : List UInt8} {ls : List Tk} {m : Nat} {k f : Nat} {D : List AD}
end
theorem e114 (ws : List (List UInt8)) (x : List UInt8) (hl : ws.length < 1000) : E 114 [.slice false 1 (ws.map PV.str), .str x] [] (.bool (ws.contains x)) [] := by
  have key : ∀ (n j : Nat), j + n = ws.length → (∀ i, i < j → ws[i]? ≠ some x) →
      (LE AvS AvX [(0, some (.slice false 1 (ws.map PV.str))), (1, some (.str x)), (5, some (N j))] [] .ret [(4, some (.bool true))] [] ∧ ws.contains x = true) ∨
      (LE AvS AvX [(0, some (.slice false 1 (ws.map PV.str))), (1, some (.str x)), (5, some (N j))] [] (.exit 0) [] [] ∧ ws.contains x = false) := by
    intro n
    induction n with
    | zero =>
      intro j hj h;refine .inr ⟨r114_l0_out1 (by omega), ?_⟩
      rw [← Bool.not_eq_true, List.contains_iff_mem, List.mem_iff_getElem?]
      rintro ⟨i, hi⟩
      have := (List.getElem?_eq_some_iff.1 hi).1
      exact h i (by omega) hi
    | succ n ih =>
      intro j hj h;have hlt : j < ws.length := by omega
      have hg := List.getElem?_eq_getElem hlt
      by_cases hx : ws[j] = x
      · refine .inl ⟨r114_l0_out2 (by omega) hg hx, ?_⟩
        rw [List.contains_iff_mem, ← hx]; exact List.getElem_mem hlt
      · rcases ih (j + 1) (by omega) (fun i hi => by
          rcases Nat.lt_or_ge i j with h' | h'
          · exact h i h'
          · have : i = j := by omega
            subst this; rw [hg]; intro e; exact hx (Option.some.inj e)) with ⟨h1, h2⟩ | ⟨h1, h2⟩
        · exact .inl ⟨AkI (by omega) hg hx (by omega) h1, h2⟩
        · exact .inr ⟨AkI (by omega) hg hx (by omega) h1, h2⟩
  rcases key ws.length 0 (by omega) (fun i h => by omega) with ⟨h1, h2⟩ | ⟨h1, h2⟩
  · rw [h2]; exact r114_2 h1
  · rw [h2]; exact r114_1 h1
section
variable {s : List UInt8} {ls : List Tk} {m : Nat} {k f : Nat} {D : List AD} {c : NT → Nat → List AD → Ans3} {r : Rs × Nat × List AD} {p q : Pg}
end
end Go.Abs.Z

namespace Go.Abs.Z
open Go.Proofs Go.RowKit
theorem f89 (c : UInt8) : E 89 [.int .u8 ((c.toNat : Nat) : Int)] [] (.bool (whB c)) [] := by
  unfold whB;by_cases h1 : c = 9
  · subst h1; exact r89_1 rfl
  by_cases h2 : c = 10
  · subst h2; exact r89_2 (by decide) rfl
  by_cases h3 : c = 13
  · subst h3; exact r89_3 (by decide) (by decide) rfl
  have e : (((c.toNat : Nat) : Int) == 32) = (c == 32) := by
    by_cases h4 : c = 32
    · subst h4; rfl
    · rw [beq_eq_false_iff_ne.2 h4, beq_eq_false_iff_ne];exact fun h => h4 ((u8i c 32).1 h)
  have := r89_4 (c := c) (fun h => h1 ((u8i c 9).1 h)) (fun h => h2 ((u8i c 10).1 h)) (fun h => h3 ((u8i c 13).1 h))
  rw [e] at this;rw [beq_eq_false_iff_ne.2 h1, beq_eq_false_iff_ne.2 h2, beq_eq_false_iff_ne.2 h3];simpa using this
theorem f90 (c : UInt8) : E 90 [.int .u8 ((c.toNat : Nat) : Int)] [] (.bool (leB c)) [] := by
  unfold leB;by_cases h : 97 ≤ c.toNat
  · have := r90_1 (c := c) (by omega)
    rw [decide_eq_true h, Bool.true_and];have e : decide (((c.toNat : Nat) : Int) ≤ 122) = decide (c.toNat ≤ 122) := by by_cases h2 : c.toNat ≤ 122 <;> simp [h2] <;> omega
    rwa [e] at this
  · rw [decide_eq_false h, Bool.false_and];exact r90_2 (by omega)
theorem f91 (c : UInt8) : E 91 [.int .u8 ((c.toNat : Nat) : Int)] [] (.bool (diB c)) [] := by
  unfold diB;by_cases h : 48 ≤ c.toNat
  · have := r91_1 (c := c) (by omega)
    rw [decide_eq_true h, Bool.true_and];have e : decide (((c.toNat : Nat) : Int) ≤ 57) = decide (c.toNat ≤ 57) := by by_cases h2 : c.toNat ≤ 57 <;> simp [h2] <;> omega
    rwa [e] at this
  · rw [decide_eq_false h, Bool.false_and];exact r91_2 (by omega)
theorem f92 (w : List UInt8) : E 92 [.str w] [] (.bool (kwL.contains w)) [] := r92 (e114 kwL w (by decide))
def syL2 : List (List UInt8) := [[61, 61], [33, 61], [60, 61], [62, 61]]
theorem sy2 (c d : UInt8) : syL2.contains [c, d] = decide (d = 61 ∧ (c = 61 ∨ c = 33 ∨ c = 60 ∨ c = 62)) := by
  have h : ∀ x y : UInt8, (([c, d] : List UInt8) == [x, y]) = (decide (c = x) && decide (d = y)) := by
    intro x y;by_cases h1 : c = x <;> by_cases h2 : d = y <;> simp [h1, h2]
  simp only [syL2, List.contains_cons, List.contains_nil, Bool.or_false, h];by_cases h1 : d = 61 <;> by_cases h2 : c = 61 <;> by_cases h3 : c = 33 <;> by_cases h4 : c = 60 <;> by_cases h5 : c = 62 <;> simp [h1, h2, h3, h4, h5]
theorem sy1 (c : UInt8) : ∀ l : List UInt8, (l.map fun x => [x]).contains [c] = l.contains c
  | [] => rfl
  | x :: l => by
    rw [List.map_cons, List.contains_cons, List.contains_cons, sy1 c l];congr 1;by_cases h : c = x <;> simp [h]
theorem f93 (s : List UInt8) (hs : s.length < 1000000) (i : Nat) (hi : i < s.length) : E 93 [.str s, N i] [] (N (symN (s.drop i))) [] := by
  obtain ⟨c, l, h1, h2, h3⟩ := getc hi;have x1 := p_ssl s i (i + 1) (by omega) (by omega)
  rw [h1, show i + 1 - i = 1 by omega] at x1
  have a1 := e114 (symL.map fun x => [x]) [c] (by decide)
  rw [sy1] at a1;rw [h1];rcases Nat.lt_or_ge (i + 1) s.length with hlt | hge
  · obtain ⟨d, l', g1, g2, g3⟩ := getc hlt;rw [h3] at g1;subst g1;have x2 := p_ssl s i (i + 2) (by omega) (by omega)
    rw [h1, show i + 2 - i = 2 by omega] at x2
    have a2 := e114 syL2 [c, d] (by decide)
    rw [sy2] at a2;by_cases hh : d = 61 ∧ (c = 61 ∨ c = 33 ∨ c = 60 ∨ c = 62)
    · rw [decide_eq_true hh] at a2;have : symN (c :: d :: l') = 2 := by rw [symN, if_pos ⟨by rw [hh.1]; rfl, hh.2⟩]
      rw [this]; exact r93_1 (by omega) (by omega) x2 a2
    · rw [decide_eq_false hh] at a2;have e : symN (c :: d :: l') = if symL.contains c then 1 else 0 := by rw [symN, if_neg (fun h => hh ⟨Option.some.inj h.1, h.2⟩)]
      rw [e];cases hy : symL.contains c with
      | true => rw [hy] at a1; exact r93_4 (by omega) (by omega) x2 a2 x1 a1
      | false => rw [hy] at a1; exact r93_5 (by omega) (by omega) x2 a2 x1 a1
  · have hl : l = [] := by rw [← h3, List.drop_eq_nil_iff]; omega
    subst hl;have e : symN [c] = if symL.contains c then 1 else 0 := by rw [symN, if_neg (by simp)]
    rw [e];cases hy : symL.contains c with
    | true => rw [hy] at a1; exact r93_2 (by omega) (by omega) x1 a1
    | false => rw [hy] at a1; exact r93_3 (by omega) (by omega) x1 a1
theorem f94 (s : List UInt8) (hs : s.length < 1000000) (i : Nat) {c : UInt8} {l : List UInt8} (h1 : s.drop i = c :: l) (h2 : s[i]? = some c) (hi : i < s.length) : E 94 [.str s, N i] [] (.bool (leB c || diB c || symN (c :: l) != 0)) [] := by
  have a1 := f90 c;have a2 := f91 c;cases hl : leB c with
  | true => rw [hl] at a1; exact r94_1 h2 a1
  | false =>
    rw [hl] at a1;cases hd : diB c with
    | true => rw [hd] at a2; exact r94_2 h2 a1 a2
    | false =>
      rw [hd] at a2;have a3 := f93 s hs i hi;rw [h1] at a3;have := r94_3 h2 a1 a2 a3
      have e : decide (((symN (c :: l) : Nat) : Int) > 0) = (symN (c :: l) != 0) := by
        by_cases h : symN (c :: l) = 0
        · rw [h]; rfl
        · rw [decide_eq_true (by omega), bne_iff_ne.2 h]
      rw [e] at this;simpa using this
theorem f40 (s : List UInt8) (hs : s.length < 1000000) (i : Nat) (hi : i ≤ s.length) : E 40 [.str s, N i] [] (N (i + skN false (s.drop i))) [] := by
  have com : ∀ (a : Nat) (n j : Nat), j ≤ s.length → s.length - j = n →
      LE m40_1 l40_1 [(0, some (.str s)), (1, some (N j)), (10, some (.str s)), (11, some (N a)), (12, some (.int .u8 (((35 : UInt8).toNat : Nat) : Int))), (13, some (.bool false)), (14, some (.bool false)), (15, some (.str s)), (16, some (N a)), (17, some (.int .u8 (((35 : UInt8).toNat : Nat) : Int))), (18, some (.bool true)), (19, some (.bool true))] [] (.exit 2)
        [(0, some (.str s)), (1, some (N (j + runL (· != 10) (s.drop j)))), (10, some (.str s)), (11, some (N a)), (12, some (.int .u8 (((35 : UInt8).toNat : Nat) : Int))), (13, some (.bool false)), (14, some (.bool false)), (15, some (.str s)), (16, some (N a)), (17, some (.int .u8 (((35 : UInt8).toNat : Nat) : Int))), (18, some (.bool true)), (19, some (.bool true))] [] := by
    intro a n
    induction n with
    | zero =>
      intro j hj hn;have : s.drop j = [] := by rw [List.drop_eq_nil_iff]; omega
      rw [this];exact r40_l1_out1 (by omega)
    | succ n ih =>
      intro j hj hn;obtain ⟨c, l, h1, h2, h3⟩ := getc (s := s) (i := j) (by omega)
      rw [h1];by_cases hc : c = 10
      · have e : runL (· != 10) (c :: l) = 0 := by subst hc; simp [runL]
        rw [e]; subst hc; exact r40_l1_out2 (by omega) h2 rfl
      · have e : runL (· != 10) (c :: l) = 1 + runL (· != 10) l := by simp [runL, List.takeWhile_cons, hc]; omega
        have := ih (j + 1) (by omega) (by omega)
        rw [h3] at this;rw [e, show j + (1 + runL (fun x => x != 10) l) = j + 1 + runL (fun x => x != 10) l by omega]
        exact r40_l1_next1 (by omega) h2 (fun h => hc ((u8i c 10).1 h)) (by omega) this
  refine r40 ?_
  have key : ∀ (n i : Nat), i ≤ s.length → s.length - i ≤ n → LE m40_0 l40_0 [(0, some (.str s)), (1, some (N i))] [] (.exit 0) [(1, some (N (i + skN false (s.drop i))))] [] := by
    intro n
    induction n with
    | zero =>
      intro i hi hn;have : s.drop i = [] := by rw [List.drop_eq_nil_iff]; omega
      rw [this];exact AwZ (by omega)
    | succ n ih =>
      intro i hi hn;rcases Nat.lt_or_ge i s.length with hlt | hge
      · obtain ⟨c, l, h1, h2, h3⟩ := getc hlt;have hc := f89 c;rw [h1];cases hw : whB c with
        | true =>
          rw [hw] at hc
          have n35 : ((c.toNat : Nat) : Int) ≠ 35 := fun h => by
            have := (u8i c 35).1 h;subst this; exact absurd hw (by decide)
          have e : i + skN false (c :: l) = i + 1 + skN false (s.drop (i + 1)) := by rw [h3, skN, if_pos hw]; omega
          rw [e];exact r40_l0_next2 (by omega) h2 hc n35 (by omega) (ih (i + 1) (by omega) (by omega))
        | false =>
          rw [hw] at hc;by_cases h35 : c = 35
          · subst h35;have h134 := com i _ i hi rfl;have hr : runL (· != 10) (s.drop i) = 1 + runL (· != 10) l := by rw [h1]; simp [runL, List.takeWhile_cons]; omega
            have hle := AzO (· != 10) l;have hll : l.length = s.length - (i + 1) := by rw [← h3, List.length_drop]
            have e : i + skN false ((35 : UInt8) :: l) = i + runL (· != 10) (s.drop i) + skN false (s.drop (i + runL (· != 10) (s.drop i))) := by
              rw [hr, skN, if_neg (by rw [hw]; simp), if_pos rfl, sk_com, ← h3, List.drop_drop, h3]
              rw [show i + 1 + runL (fun x => x != 10) l = i + (1 + runL (fun x => x != 10) l) by omega]; omega
            rw [e];exact r40_l0_next3 (by omega) h2 hc rfl h134 (ih (i + runL (· != 10) (s.drop i)) (by omega) (by omega))
          · have e : skN false (c :: l) = 0 := by rw [skN, if_neg (by rw [hw]; simp), if_neg h35]
            rw [e];exact r40_l0_out2 (by omega) h2 hc (fun h => h35 ((u8i c 35).1 h))
      · have : s.drop i = [] := by rw [List.drop_eq_nil_iff]; omega
        rw [this];exact AwZ (by omega)
  exact key _ i hi (Nat.le_refl _)
theorem f41a (s : List UInt8) (hs : s.length < 1000000) (i0 : Nat) : ∀ (n i : Nat), i ≤ s.length → s.length - i = n → LE m41_0 l41_0 [(0, some (.str s)), (1, some (N i0)), (6, some (N i))] [] (.exit 1) [(0, some (.str s)), (1, some (N i0)), (6, some (N (i + runL woB (s.drop i))))] [] := by
  intro n
  induction n with
  | zero =>
    intro i hi hn;have : s.drop i = [] := by rw [List.drop_eq_nil_iff]; omega
    rw [this];exact r41_l0_out1 (by omega)
  | succ n ih =>
    intro i hi hn;obtain ⟨c, l, h1, h2, h3⟩ := getc (s := s) (i := i) (by omega)
    have a1 := f90 c;have a2 := f91 c;have ih := ih (i + 1) (by omega) (by omega)
    rw [h3] at ih;rw [h1];have go : woB c = true → i + runL woB (c :: l) = i + 1 + runL woB l := fun h => by simp [runL, List.takeWhile_cons, h]; omega
    cases hl : leB c with
    | true =>
      rw [hl] at a1;rw [go (by simp [woB, hl])]; exact r41_l0_next1 (by omega) h2 a1 (by omega) ih
    | false =>
      rw [hl] at a1;cases hd : diB c with
      | true =>
        rw [hd] at a2;rw [go (by simp [woB, hd])]; exact r41_l0_next2 (by omega) h2 a1 a2 (by omega) ih
      | false =>
        rw [hd] at a2;by_cases h95 : c = 95
        · rw [go (by simp [woB, h95])]; subst h95; exact r41_l0_next3 (by omega) h2 a1 a2 rfl (by omega) ih
        · have e : runL woB (c :: l) = 0 := by simp [runL, List.takeWhile_cons, woB, hl, hd, h95]
          rw [e]; exact r41_l0_out2 (by omega) h2 a1 a2 (fun h => h95 ((u8i c 95).1 h))
theorem f41b (s : List UInt8) (hs : s.length < 1000000) (i0 : Nat) : ∀ (n i : Nat), i ≤ s.length → s.length - i = n → LE m41_1 l41_1 [(0, some (.str s)), (1, some (N i0)), (6, some (N i))] [] (.exit 3) [(0, some (.str s)), (1, some (N i0)), (6, some (N (i + runL diB (s.drop i))))] [] := by
  intro n
  induction n with
  | zero =>
    intro i hi hn;have : s.drop i = [] := by rw [List.drop_eq_nil_iff]; omega
    rw [this];exact r41_l1_out1 (by omega)
  | succ n ih =>
    intro i hi hn;obtain ⟨c, l, h1, h2, h3⟩ := getc (s := s) (i := i) (by omega)
    have a2 := f91 c;have ih := ih (i + 1) (by omega) (by omega)
    rw [h3] at ih;rw [h1];cases hd : diB c with
    | true =>
      rw [hd] at a2;have e : i + runL diB (c :: l) = i + 1 + runL diB l := by simp [runL, List.takeWhile_cons, hd]; omega
      rw [e]; exact r41_l1_next1 (by omega) h2 a2 (by omega) ih
    | false =>
      rw [hd] at a2;have e : runL diB (c :: l) = 0 := by simp [runL, List.takeWhile_cons, hd]
      rw [e]; exact r41_l1_out2 (by omega) h2 a2
theorem f41c (s : List UInt8) (hs : s.length < 1000000) (i0 : Nat) : ∀ (n i : Nat), i ≤ s.length → s.length - i = n → LE m41_2 l41_2 [(0, some (.str s)), (1, some (N i0)), (6, some (N i))] [] (.exit 5) [(0, some (.str s)), (1, some (N i0)), (6, some (N (i + wrN (s.drop i))))] [] := by
  intro n
  induction n with
  | zero =>
    intro i hi hn;have : s.drop i = [] := by rw [List.drop_eq_nil_iff]; omega
    rw [this];exact r41_l2_out1 (by omega)
  | succ n ih =>
    intro i hi hn;obtain ⟨c, l, h1, h2, h3⟩ := getc (s := s) (i := i) (by omega)
    have a1 := f89 c;have a4 := f94 s hs i h1 h2 (by omega)
    have ih := ih (i + 1) (by omega) (by omega)
    rw [h3] at ih;rw [h1];have stop : stopB c l = true → wrN (c :: l) = 0 := fun h => by rw [wrN, if_pos h]
    cases hw : whB c with
    | true => rw [hw] at a1; rw [stop (by simp [stopB, hw])]; exact r41_l2_out2 (by omega) h2 a1
    | false =>
      rw [hw] at a1;by_cases h35 : c = 35
      · rw [stop (by simp [stopB, h35])]; subst h35; exact r41_l2_out3 (by omega) h2 a1 rfl
      have n35 : ((c.toNat : Nat) : Int) ≠ 35 := fun h => h35 ((u8i c 35).1 h)
      cases hb : (leB c || diB c || symN (c :: l) != 0) with
      | true =>
        rw [hb] at a4;rw [stop (by unfold stopB; rw [Bool.or_assoc, Bool.or_assoc, ← Bool.or_assoc (leB c), hb]; simp)]; exact r41_l2_out4 (by omega) h2 a1 n35 a4
      | false =>
        rw [hb] at a4
        have e : wrN (c :: l) = 1 + wrN l := by
          rw [wrN, if_neg];unfold stopB;rw [Bool.or_assoc, Bool.or_assoc, ← Bool.or_assoc (leB c), hb, hw];simp [h35]
        rw [e, show i + (1 + wrN l) = i + 1 + wrN l by omega]
        exact r41_l2_next1 (by omega) h2 a1 n35 a4 (by omega) ih
theorem f41 (s : List UInt8) (hs : s.length < 1000000) (i : Nat) {c : UInt8} {l : List UInt8} (h1 : s.drop i = c :: l) (hw : whB c = false) (h35 : c ≠ 35) : E 41 [.str s, N i] [] (.tuple [N (tokN (s.drop i)).1, N (i + (tokN (s.drop i)).2)]) [] := by
  have hi : i < s.length := by
    rcases Nat.lt_or_ge i s.length with h | h
    · exact h
    · rw [List.drop_eq_nil_of_le h] at h1; cases h1
  obtain ⟨c', l', h1', h2, h3⟩ := getc hi;rw [h1] at h1';obtain ⟨rfl, rfl⟩ := List.cons.inj h1';have a2 := f90 c;have a3 := f91 c;unfold tokN;have hh : (s.drop i).headD 0 = c := by rw [h1]; rfl
  have ht : (s.drop i).tail = l := by rw [h1]; rfl
  rw [hh, ht];cases hl : leB c with
  | true =>
    rw [hl] at a2;have a4 := f41a s hs i _ i (by omega) rfl
    have hle := AzO woB (s.drop i);rw [List.length_drop] at hle;have a5 := p_ssl s i (i + runL woB (s.drop i)) (by omega) (by omega)
    rw [show i + runL woB (s.drop i) - i = runL woB (s.drop i) by omega] at a5
    have a6 := f92 ((s.drop i).take (runL woB (s.drop i)));simp only [if_true];cases hk : kwL.contains ((s.drop i).take (runL woB (s.drop i))) with
    | true => rw [hk] at a6; exact r41_1 h2 a2 a4 a5 a6
    | false => rw [hk] at a6; exact r41_2 h2 a2 a4 a5 a6
  | false =>
    rw [hl] at a2;simp only [Bool.false_eq_true, if_false];cases hd : diB c with
    | true =>
      rw [hd] at a3;simp only [if_true];exact r41_3 h2 a2 a3 (f41b s hs i _ i (by omega) rfl)
    | false =>
      rw [hd] at a3;simp only [Bool.false_eq_true, if_false];have a4 := f93 s hs i hi;have := Bz4 (s.drop i);rw [List.length_drop] at this;by_cases hy : 0 < symN (s.drop i)
      · rw [if_pos hy]; exact r41_4 h2 a2 a3 a4 (by omega) a4 (by omega) (by omega)
      · rw [if_neg hy];have a5 := f41c s hs i _ i (by omega) rfl
        have e : wrN (s.drop i) = 1 + wrN l := by
          rw [h1, wrN, if_neg];rw [h1] at hy;have : symN (c :: l) = 0 := by omega
          simp [stopB, hw, h35, hl, hd, this]
        rw [e] at a5;exact r41_5 h2 a2 a3 a4 (by omega) a5
theorem AwN : ∀ (b : Bool) (l : List UInt8) {c : UInt8} {r : List UInt8}, l.drop (skN b l) = c :: r → whB c = false ∧ c ≠ 35
  | b, [], c, r, h => by cases b <;> simp [skN] at h
  | true, d :: l, c, r, h => by
    rw [skN] at h;by_cases h10 : d = 10
    · rw [if_pos h10, Nat.add_comm, List.drop_succ_cons] at h; exact AwN false l h
    · rw [if_neg h10, Nat.add_comm, List.drop_succ_cons] at h; exact AwN true l h
  | false, d :: l, c, r, h => by
    rw [skN] at h;by_cases hw : whB d = true
    · rw [if_pos hw, Nat.add_comm, List.drop_succ_cons] at h; exact AwN false l h
    · rw [if_neg hw] at h;by_cases h35 : d = 35
      · rw [if_pos h35, Nat.add_comm, List.drop_succ_cons] at h; exact AwN true l h
      · rw [if_neg h35, List.drop_zero] at h;cases h;exact ⟨by simpa using hw, h35⟩
theorem sc18 (s : List UInt8) (hs : s.length < 1000000) : ∀ (n f : Nat) (tl : List Tk), f ≤ s.length → s.length - f < n → tl.length + n ≤ 2000000 →
    LE m18_0 l18_0 [(0, some (.str s)), (4, some (.slice true 4 (tl.map Tk.pv))), (5, some (N f))] [] .ret [(2, some (.slice true 4 ((tl ++ scanF n (s.drop f) f).map Tk.pv))), (3, some (I 0))] []
  | 0, f, tl, _, h, _ => by omega
  | n + 1, f, tl, hf, h, hn => by
    have a1 := f40 s hs f hf;have hk := AvJ false (s.drop f);rw [List.length_drop] at hk;have hm : tl.length + 1 ≤ AqE := by unfold AqE; omega
    rw [scanF];by_cases he : (s.drop f).drop (skN false (s.drop f)) = []
    · simp only [he, if_true];rw [List.drop_drop, List.drop_eq_nil_iff] at he;exact r18_l0_out1 (m2 := f + skN false (s.drop f)) a1 (by omega) hm
    · have hcr : ∃ c r, (s.drop f).drop (skN false (s.drop f)) = c :: r := by
        cases hx : (s.drop f).drop (skN false (s.drop f)) with
        | nil => exact absurd hx he
        | cons c r => exact ⟨c, r, rfl⟩
      obtain ⟨c, r, hcr⟩ := hcr;obtain ⟨w1, w2⟩ := AwN false _ hcr;simp only [he, if_false];rw [List.drop_drop] at he hcr
      have hlt : f + skN false (s.drop f) < s.length := by
        rcases Nat.lt_or_ge (f + skN false (s.drop f)) s.length with h' | h'
        · exact h'
        · exact absurd (List.drop_eq_nil_iff.2 (by omega)) he
      have a2 := f41 s hs (f + skN false (s.drop f)) hcr w1 w2;have ht := tokN_le he;rw [List.length_drop] at ht;have := sc18 s hs n (f + skN false (s.drop f) + (tokN (s.drop (f + skN false (s.drop f)))).2) (tl ++ [⟨(tokN (s.drop (f + skN false (s.drop f)))).1, f, f + skN false (s.drop f), f + skN false (s.drop f) + (tokN (s.drop (f + skN false (s.drop f)))).2⟩]) (by omega) (by omega) (by simp; omega)
      rw [List.append_assoc] at this;simp only [List.drop_drop];exact r18_l0_next1 a1 (by omega) a2 hm this
theorem f18 (s : List UInt8) (hs : s.length ≤ 4096) : E 18 [.str s] [] (.tuple [.slice false 4 ((scanT s).map Tk.pv), I 0]) [] :=
  r18_2 (by omega) (sc18 s (by omega) (s.length + 1) 0 [] (by omega) (by omega) (by simp; omega))
end Go.Abs.Z
