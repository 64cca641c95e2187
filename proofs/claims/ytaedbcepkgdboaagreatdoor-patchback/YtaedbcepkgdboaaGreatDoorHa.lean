/- A part of the proof: H1 H2 H3. -/

set_option linter.unusedVariables false
set_option linter.unusedSimpArgs false
namespace Go.Abs.Z
abbrev Str := List UInt8
def lnA (c : Str) : Str → List Str
  | [] => if c = [] then [] else [c]
  | b :: s => if b = 10 then c :: lnA [] s else lnA (c ++ [b]) s
def spA (c : Str) : Str → List Str
  | [] => [c]
  | b :: s => if b = 10 then c :: spA [] s else spA (c ++ [b]) s
def trim (s : Str) : Str := if s.getLast? = some 10 then s.dropLast else s
def noLf (l : Str) : Prop := ∀ b ∈ l, b ≠ 10
theorem lnA_lf : ∀ (t c : Str), lnA c (t ++ [10]) = spA c t
  | [], c => by simp [lnA, spA]
  | b :: t, c => by
    by_cases h : b = 10
    · simp [lnA, spA, h, lnA_lf t []]
    · simp [lnA, spA, h, lnA_lf t (c ++ [b])]
theorem lnA_no : ∀ (t c : Str), (c ≠ [] ∨ t ≠ []) → t.getLast? ≠ some 10 → lnA c t = spA c t
  | [], c, h, _ => by
    rcases h with h | h
    · simp [lnA, spA, h]
    · exact absurd rfl h
  | b :: t, c, _, hl => by
    by_cases h : b = 10
    · subst h
      have ht : t ≠ [] := by rintro rfl; simp at hl
      have hl' : t.getLast? ≠ some 10 := by
        intro e; exact hl (by rw [List.getLast?_cons, e]; rfl)
      simp [lnA, spA, lnA_no t [] (.inr ht) hl']
    · have hl' : t.getLast? ≠ some 10 := by
        intro e; exact hl (by rw [List.getLast?_cons, e]; rfl)
      simp [lnA, spA, h, lnA_no t (c ++ [b]) (.inl (by simp)) hl']
theorem trim_lines {s : Str} (h : s ≠ []) : spA [] (trim s) = lnA [] s := by
  unfold trim
  split
  · rename_i hl
    obtain ⟨t, rfl⟩ := List.getLast?_eq_some_iff.1 hl
    rw [List.dropLast_concat, lnA_lf]
  · rename_i hl
    exact (lnA_no s [] (.inr h) hl).symm
theorem lnA_noLf : ∀ (s c : Str), noLf c → ∀ l ∈ lnA c s, noLf l
  | [], c, hc, l, h => by
    simp only [lnA] at h
    split at h
    · cases h
    · rw [List.mem_singleton] at h; subst h; exact hc
  | b :: s, c, hc, l, h => by
    simp only [lnA] at h
    split at h
    · rcases List.mem_cons.1 h with rfl | h
      · exact hc
      · exact lnA_noLf s [] (fun _ h => by cases h) l h
    · rename_i hb
      refine lnA_noLf s (c ++ [b]) (fun x hx => ?_) l h
      rcases List.mem_append.1 hx with hx | hx
      · exact hc x hx
      · rw [List.mem_singleton] at hx; subst hx; exact hb
def joinL (l : List Str) : Str := l.flatMap fun s => s ++ [10]
theorem lnA_app : ∀ (l c r : Str), noLf l → lnA c (l ++ r) = lnA (c ++ l) r
  | [], c, r, _ => by simp
  | b :: l, c, r, h => by
    have hb : b ≠ 10 := h b (List.mem_cons_self ..)
    simp only [List.cons_append, lnA, if_neg hb]
    rw [lnA_app l (c ++ [b]) r (fun x hx => h x (List.mem_cons_of_mem _ hx))]
    simp
theorem lnA_join : ∀ (l : List Str), (∀ x ∈ l, noLf x) → lnA [] (joinL l) = l
  | [], _ => rfl
  | x :: l, h => by
    show lnA [] ((x ++ [10]) ++ joinL l) = x :: l
    rw [List.append_assoc, lnA_app x [] _ (h x (List.mem_cons_self ..))]
    simp [lnA, lnA_join l (fun y hy => h y (List.mem_cons_of_mem _ hy))]
theorem lnA_len : ∀ (s c : Str), (lnA c s).length ≤ s.length + 1
  | [], c => by simp only [lnA]; split <;> simp
  | b :: s, c => by
    simp only [lnA]
    split
    · simpa using lnA_len s []
    · have := lnA_len s (c ++ [b]); simp only [List.length_cons]; omega
theorem lnA_len0 : ∀ (s : Str), (lnA [] s).length ≤ s.length
  | [] => by simp [lnA]
  | b :: s => by
    simp only [lnA]
    split
    · simpa using lnA_len0 s
    · exact lnA_len s _
theorem joinL_len : ∀ (l : List Str), (joinL l).length = (l.map List.length).sum + l.length
  | [] => rfl
  | x :: l => by
    show ((x ++ [10]) ++ joinL l).length = _
    simp [joinL_len l]; omega
theorem lnA_size : ∀ (s c : Str), ((lnA c s).map List.length).sum ≤ s.length + c.length
  | [], c => by
    simp only [lnA]
    split <;> simp
  | b :: s, c => by
    simp only [lnA]
    split
    · have := lnA_size s []
      simp only [List.map_cons, List.sum_cons, List.length_cons, List.length_nil] at *
      omega
    · have := lnA_size s (c ++ [b])
      simp only [List.length_append, List.length_cons, List.length_nil] at *
      omega
def lc : List Str → List Str → Nat
  | [], _ => 0
  | _ :: _, [] => 0
  | a :: x, b :: y => if a = b then lc x y + 1 else max (lc x (b :: y)) (lc (a :: x) y)
termination_by x y => x.length + y.length
theorem lc_nil_left (y : List Str) : lc [] y = 0 := by rw [lc]
theorem lc_nil_right (x : List Str) : lc x [] = 0 := by cases x <;> rw [lc]
theorem lc_eq (a : Str) (x y : List Str) : lc (a :: x) (a :: y) = lc x y + 1 := by rw [lc, if_pos rfl]
theorem lc_ne {a b : Str} (h : a ≠ b) (x y : List Str) : lc (a :: x) (b :: y) = max (lc x (b :: y)) (lc (a :: x) y) := by rw [lc, if_neg h]
theorem lc_has : ∀ (n : Nat) (x y : List Str), x.length + y.length ≤ n → ∃ l : List Str, l.Sublist x ∧ l.Sublist y ∧ l.length = lc x y
  | _, [], y, _ => ⟨[], List.Sublist.refl _, List.nil_sublist _, by rw [lc_nil_left]; rfl⟩
  | _, a :: x, [], _ => ⟨[], List.nil_sublist _, List.Sublist.refl _, by rw [lc_nil_right]; rfl⟩
  | 0, a :: x, b :: y, h => by simp at h
  | n + 1, a :: x, b :: y, h => by
    simp only [List.length_cons] at h
    by_cases e : a = b
    · subst e
      obtain ⟨l, h1, h2, h3⟩ := lc_has n x y (by omega)
      exact ⟨a :: l, h1.cons_cons a, h2.cons_cons a, by rw [lc_eq, ← h3]; rfl⟩
    · rw [lc_ne e]
      rcases Nat.le_total (lc x (b :: y)) (lc (a :: x) y) with hm | hm
      · obtain ⟨l, h1, h2, h3⟩ := lc_has n (a :: x) y (by simp only [List.length_cons]; omega)
        exact ⟨l, h1, h2.cons b, by rw [Nat.max_eq_right hm, h3]⟩
      · obtain ⟨l, h1, h2, h3⟩ := lc_has n x (b :: y) (by simp only [List.length_cons]; omega)
        exact ⟨l, h1.cons a, h2, by rw [Nat.max_eq_left hm, h3]⟩
theorem lc_most : ∀ (n : Nat) (x y l : List Str), x.length + y.length ≤ n → l.Sublist x → l.Sublist y → l.length ≤ lc x y
  | _, [], y, l, _, h, _ => by rw [List.sublist_nil.1 h]; simp
  | _, a :: x, [], l, _, _, h => by rw [List.sublist_nil.1 h]; simp
  | 0, a :: x, b :: y, l, h, _, _ => by simp at h
  | n + 1, a :: x, b :: y, l, h, h1, h2 => by
    simp only [List.length_cons] at h
    by_cases e : a = b
    · subst e
      rw [lc_eq]
      cases l with
      | nil => simp
      | cons c l =>
        have h3 : l.Sublist x := h1.tail
        have h4 : l.Sublist y := h2.tail
        have := lc_most n x y l (by omega) h3 h4
        simp only [List.length_cons]; omega
    · rw [lc_ne e]
      cases h1 with
      | cons _ h1 =>
        have := lc_most n x (b :: y) l (by simp only [List.length_cons]; omega) h1 h2
        omega
      | cons_cons _ h1 =>
        cases h2 with
        | cons _ h2 =>
          have := lc_most n (a :: x) y _ (by simp only [List.length_cons]; omega) (h1.cons_cons a) h2
          omega
        | cons_cons _ h2 => exact absurd rfl e
theorem lc_rev (x y : List Str) : lc x.reverse y.reverse = lc x y := by
  have h : ∀ x y : List Str, lc x y ≤ lc x.reverse y.reverse := by
    intro x y
    obtain ⟨l, h1, h2, h3⟩ := lc_has _ x y (Nat.le_refl _)
    have := lc_most _ x.reverse y.reverse l.reverse (Nat.le_refl _) (List.reverse_sublist.2 h1) (List.reverse_sublist.2 h2)
    rw [List.length_reverse, h3] at this
    exact this
  refine Nat.le_antisymm ?_ (h x y)
  have := h x.reverse y.reverse
  rwa [List.reverse_reverse, List.reverse_reverse] at this
theorem lc_comm (x y : List Str) : lc x y = lc y x := by
  have h : ∀ x y : List Str, lc x y ≤ lc y x := by
    intro x y
    obtain ⟨l, h1, h2, h3⟩ := lc_has _ x y (Nat.le_refl _)
    rw [← h3]
    exact lc_most _ y x l (Nat.le_refl _) h2 h1
  exact Nat.le_antisymm (h x y) (h y x)
theorem lc_le (x y : List Str) : lc x y ≤ x.length ∧ lc x y ≤ y.length := by
  obtain ⟨l, h1, h2, h3⟩ := lc_has _ x y (Nat.le_refl _)
  rw [← h3]
  exact ⟨h1.length_le, h2.length_le⟩
end Go.Abs.Z

namespace Go.Abs.Z
structure Hk where
  fr : Nat
  to : Nat
  new : List Str
def meet : List Str → List Str → Bool
  | a :: _, b :: _ => a == b
  | _, _ => false
def inn : List Str → List Str → List Str × List Str × List Str × List Str
  | [], [] => ([], [], [], [])
  | [], b :: y => let r := inn [] y; (r.1, b :: r.2.1, r.2.2)
  | a :: x, [] => let r := inn x []; (a :: r.1, r.2)
  | a :: x, b :: y => if a = b then ([], [], a :: x, b :: y)
    else if lc (a :: x) y ≤ lc x (b :: y) then (let r := inn x (b :: y); (a :: r.1, r.2))
    else (let r := inn (a :: x) y; (r.1, b :: r.2.1, r.2.2))
termination_by x y => x.length + y.length
theorem inn_nil : inn [] [] = ([], [], [], []) := by rw [inn]
theorem inn_l (b : Str) (y : List Str) : inn [] (b :: y) = ((inn [] y).1, b :: (inn [] y).2.1, (inn [] y).2.2) := by rw [inn]
theorem inn_r (a : Str) (x : List Str) : inn (a :: x) [] = (a :: (inn x []).1, (inn x []).2) := by rw [inn]
theorem inn_eq (a : Str) (x y : List Str) : inn (a :: x) (a :: y) = ([], [], a :: x, a :: y) := by rw [inn, if_pos rfl]
theorem inn_le {a b : Str} {x y : List Str} (h : a ≠ b) (hl : lc (a :: x) y ≤ lc x (b :: y)) : inn (a :: x) (b :: y) = (a :: (inn x (b :: y)).1, (inn x (b :: y)).2) := by rw [inn, if_neg h, if_pos hl]
theorem inn_gt {a b : Str} {x y : List Str} (h : a ≠ b) (hl : ¬ lc (a :: x) y ≤ lc x (b :: y)) : inn (a :: x) (b :: y) = ((inn (a :: x) y).1, b :: (inn (a :: x) y).2.1, (inn (a :: x) y).2.2) := by rw [inn, if_neg h, if_neg hl]
structure InnOk (x y : List Str) (r : List Str × List Str × List Str × List Str) : Prop where
  ex : x = r.1 ++ r.2.2.1
  ey : y = r.2.1 ++ r.2.2.2
  same : lc x y = lc r.2.2.1 r.2.2.2
  fin : (r.2.2.1 = [] ∧ r.2.2.2 = []) ∨ meet r.2.2.1 r.2.2.2 = true
theorem inn_ok : ∀ (n : Nat) (x y : List Str), x.length + y.length ≤ n → InnOk x y (inn x y)
  | _, [], [], _ => by rw [inn_nil]; exact ⟨rfl, rfl, rfl, .inl ⟨rfl, rfl⟩⟩
  | 0, [], b :: y, h => by simp at h
  | 0, a :: x, _, h => by simp at h
  | n + 1, [], b :: y, h => by
    simp only [List.length_cons, List.length_nil] at h
    have ih := inn_ok n [] y (by simp only [List.length_nil]; omega)
    rw [inn_l]
    exact ⟨ih.ex, by show b :: y = b :: _ ++ _; rw [List.cons_append, ← ih.ey], by rw [lc_nil_left, ← ih.same, lc_nil_left], ih.fin⟩
  | n + 1, a :: x, [], h => by
    simp only [List.length_cons, List.length_nil] at h
    have ih := inn_ok n x [] (by simp only [List.length_nil]; omega)
    rw [inn_r]
    exact ⟨by show a :: x = a :: _ ++ _; rw [List.cons_append, ← ih.ex], ih.ey, by rw [lc_nil_right, ← ih.same, lc_nil_right], ih.fin⟩
  | n + 1, a :: x, b :: y, h => by
    simp only [List.length_cons] at h
    by_cases e : a = b
    · subst e
      rw [inn_eq]
      exact ⟨rfl, rfl, rfl, .inr (by simp [meet])⟩
    · by_cases hl : lc (a :: x) y ≤ lc x (b :: y)
      · have ih := inn_ok n x (b :: y) (by simp only [List.length_cons]; omega)
        rw [inn_le e hl]
        exact ⟨by show a :: x = a :: _ ++ _; rw [List.cons_append, ← ih.ex], ih.ey, by rw [lc_ne e, ← ih.same, Nat.max_eq_left hl], ih.fin⟩
      · have ih := inn_ok n (a :: x) y (by simp only [List.length_cons]; omega)
        rw [inn_gt e hl]
        exact ⟨ih.ex, by show b :: y = b :: _ ++ _; rw [List.cons_append, ← ih.ey], by rw [lc_ne e, ← ih.same, Nat.max_eq_right (by omega)], ih.fin⟩
def dif : Nat → Nat → List Str → List Str → List Hk
  | 0, _, _, _ => []
  | n + 1, i, x, y => match x, y with
    | [], [] => []
    | x, y => if meet x y then dif n (i + 1) x.tail y.tail
      else (let r := inn x y; ⟨i + 1, i + r.1.length + 1, r.2.1⟩ :: dif n (i + r.1.length) r.2.2.1 r.2.2.2)
def pat (X : List Str) : Nat → List Hk → List Str
  | at', [] => X.drop at'
  | at', h :: l => (X.drop at').take (h.fr - 1 - at') ++ h.new ++ pat X (h.to - 1) l
def size : List Hk → Nat
  | [] => 0
  | h :: l => (h.to - h.fr) + h.new.length + size l
def vld (n : Nat) : Nat → List Hk → Prop
  | _, [] => True
  | last, h :: l => last < h.fr ∧ h.fr ≤ h.to ∧ h.to ≤ n + 1 ∧ vld n h.to l
theorem meet_cons {x y : List Str} (h : meet x y = true) : ∃ a x' y', x = a :: x' ∧ y = a :: y' := by
  cases x with
  | nil => cases h
  | cons a x =>
    cases y with
    | nil => cases h
    | cons b y =>
      have : a = b := by simpa [meet] using h
      subst this
      exact ⟨a, x, y, rfl, rfl⟩
theorem inn_step {x y : List Str} (h : ¬ (x = [] ∧ y = [])) (hm : meet x y = false) : (inn x y).2.2.1.length + (inn x y).2.2.2.length < x.length + y.length := by
  have hok := inn_ok _ x y (Nat.le_refl _)
  have hx := congrArg List.length hok.ex
  have hy := congrArg List.length hok.ey
  rw [List.length_append] at hx hy
  rcases Nat.lt_or_ge ((inn x y).2.2.1.length + (inn x y).2.2.2.length) (x.length + y.length) with h' | h'
  · exact h'
  · have h1 : (inn x y).1 = [] := List.length_eq_zero_iff.1 (by omega)
    have h2 : (inn x y).2.1 = [] := List.length_eq_zero_iff.1 (by omega)
    have e1 := hok.ex
    have e2 := hok.ey
    rw [h1, List.nil_append] at e1
    rw [h2, List.nil_append] at e2
    rcases hok.fin with ⟨h3, h4⟩ | h3
    · exact absurd ⟨e1.trans h3, e2.trans h4⟩ h
    · rw [← e1, ← e2] at h3
      rw [h3] at hm; cases hm
theorem dif_nil (n i : Nat) : dif n i [] [] = [] := by cases n <;> rfl
theorem dif_meet {n i : Nat} {x y : List Str} (h : meet x y = true) : dif (n + 1) i x y = dif n (i + 1) x.tail y.tail := by
  obtain ⟨a, x', y', rfl, rfl⟩ := meet_cons h
  show (if meet (a :: x') (a :: y') = true then _ else _) = _
  rw [if_pos h]
theorem dif_hunk {n i : Nat} {x y : List Str} (h : ¬ (x = [] ∧ y = [])) (hm : meet x y = false) : dif (n + 1) i x y = ⟨i + 1, i + (inn x y).1.length + 1, (inn x y).2.1⟩ :: dif n (i + (inn x y).1.length) (inn x y).2.2.1 (inn x y).2.2.2 := by
  cases x with
  | nil =>
    cases y with
    | nil => exact absurd ⟨rfl, rfl⟩ h
    | cons b y => simp only [dif]; rw [if_neg (by rw [hm]; simp)]
  | cons a x => simp only [dif]; rw [if_neg (by rw [hm]; simp)]
theorem dif_self : ∀ (n i : Nat) (x : List Str), dif n i x x = []
  | 0, _, _ => rfl
  | n + 1, i, [] => rfl
  | n + 1, i, a :: x => by
    rw [dif_meet (by simp [meet])]
    exact dif_self n (i + 1) x
theorem dif_size : ∀ (n i : Nat) (x y : List Str), x.length + y.length ≤ n → size (dif n i x y) + 2 * lc x y = x.length + y.length
  | 0, i, x, y, h => by
    have h1 : x = [] := List.length_eq_zero_iff.1 (by omega)
    have h2 : y = [] := List.length_eq_zero_iff.1 (by omega)
    subst h1 h2
    rw [lc_nil_left]; rfl
  | n + 1, i, x, y, h => by
    by_cases h0 : x = [] ∧ y = []
    · obtain ⟨rfl, rfl⟩ := h0
      rw [lc_nil_left]; rfl
    · cases hm : meet x y with
      | true =>
        obtain ⟨a, x', y', rfl, rfl⟩ := meet_cons hm
        rw [dif_meet hm, lc_eq]
        simp only [List.length_cons, List.tail_cons] at *
        have := dif_size n (i + 1) x' y' (by omega)
        omega
      | false =>
        rw [dif_hunk h0 hm]
        have hok := inn_ok _ x y (Nat.le_refl _)
        have hs := inn_step h0 hm
        have hx := congrArg List.length hok.ex
        have hy := congrArg List.length hok.ey
        rw [List.length_append] at hx hy
        have := dif_size n (i + (inn x y).1.length) (inn x y).2.2.1 (inn x y).2.2.2 (by omega)
        rw [hok.same]
        simp only [size]
        omega
theorem dif_vld : ∀ (n i : Nat) (x y : List Str) (N last : Nat), x.length + y.length ≤ n → i + x.length = N → last ≤ i → (meet x y = false → last < i + 1 ∧ (¬ (x = [] ∧ y = []) → last ≤ i)) → vld N last (dif n i x y)
  | 0, _, _, _, _, _, _, _, _, _ => trivial
  | n + 1, i, x, y, N, last, h, hN, hl, hq => by
    by_cases h0 : x = [] ∧ y = []
    · obtain ⟨rfl, rfl⟩ := h0
      trivial
    · cases hm : meet x y with
      | true =>
        obtain ⟨a, x', y', rfl, rfl⟩ := meet_cons hm
        rw [dif_meet hm]
        simp only [List.length_cons, List.tail_cons] at *
        exact dif_vld n (i + 1) x' y' N last (by omega) (by omega) (by omega) (fun _ => ⟨by omega, fun _ => by omega⟩)
      | false =>
        rw [dif_hunk h0 hm]
        have hok := inn_ok _ x y (Nat.le_refl _)
        have hs := inn_step h0 hm
        have hx := congrArg List.length hok.ex
        have hy := congrArg List.length hok.ey
        rw [List.length_append] at hx hy
        refine ⟨by show last < i + 1; omega, by show i + 1 ≤ i + (inn x y).1.length + 1; omega, by show i + (inn x y).1.length + 1 ≤ N + 1; omega, ?_⟩
        show vld N (i + (inn x y).1.length + 1) _
        rcases hok.fin with ⟨h3, h4⟩ | h3
        · rw [h3, h4, dif_nil]; trivial
        · obtain ⟨a, x', y', ex, ey⟩ := meet_cons h3
          cases n with
          | zero => trivial
          | succ n =>
            rw [dif_meet h3, ex, ey]
            simp only [List.tail_cons]
            rw [ex, ey] at hs
            rw [ex] at hx
            simp only [List.length_cons] at hs hx
            exact dif_vld n (i + (inn x y).1.length + 1) x' y' N _ (by omega) (by omega) (by omega) (fun _ => ⟨by omega, fun _ => by omega⟩)
theorem dif_pat : ∀ (n i : Nat) (x y X : List Str) (at' : Nat), x.length + y.length ≤ n → X.drop i = x → at' ≤ i → i ≤ X.length → pat X at' (dif n i x y) = (X.drop at').take (i - at') ++ y
  | 0, i, x, y, X, at', h, hX, ha, hi => by
    have h1 : x = [] := List.length_eq_zero_iff.1 (by omega)
    have h2 : y = [] := List.length_eq_zero_iff.1 (by omega)
    subst h1 h2
    have hl := congrArg List.length hX
    rw [List.length_drop, List.length_nil] at hl
    show X.drop at' = _
    rw [List.append_nil, List.take_of_length_le (by rw [List.length_drop]; omega)]
  | n + 1, i, x, y, X, at', h, hX, ha, hi => by
    have hl := congrArg List.length hX
    rw [List.length_drop] at hl
    by_cases h0 : x = [] ∧ y = []
    · obtain ⟨rfl, rfl⟩ := h0
      rw [List.length_nil] at hl
      show X.drop at' = _
      rw [List.append_nil, List.take_of_length_le (by rw [List.length_drop]; omega)]
    · cases hm : meet x y with
      | true =>
        obtain ⟨a, x', y', rfl, rfl⟩ := meet_cons hm
        rw [dif_meet hm]
        simp only [List.length_cons, List.tail_cons] at *
        have hX' : X.drop (i + 1) = x' := by rw [← List.drop_drop, hX]; rfl
        rw [dif_pat n (i + 1) x' y' X at' (by omega) hX' (by omega) (by omega)]
        have hlt : i - at' < (X.drop at').length := by rw [List.length_drop]; omega
        have hg : (X.drop at')[i - at'] = a := by
          have h5 : X.drop i = X[i]'(by omega) :: X.drop (i + 1) := List.drop_eq_getElem_cons (by omega)
          rw [hX] at h5
          rw [List.getElem_drop]
          have h6 := (List.cons.inj h5).1
          rw [h6]
          congr 1
          omega
        rw [show i + 1 - at' = (i - at') + 1 from by omega, List.take_succ_eq_append_getElem hlt, hg]
        simp
      | false =>
        rw [dif_hunk h0 hm]
        have hok := inn_ok _ x y (Nat.le_refl _)
        have hs := inn_step h0 hm
        have hx := congrArg List.length hok.ex
        have hy := congrArg List.length hok.ey
        rw [List.length_append] at hx hy
        have hX' : X.drop (i + (inn x y).1.length) = (inn x y).2.2.1 := by
          rw [← List.drop_drop, hX]
          have h7 := congrArg (List.drop (inn x y).1.length) hok.ex
          rwa [List.drop_left' rfl] at h7
        have ih := dif_pat n (i + (inn x y).1.length) (inn x y).2.2.1 (inn x y).2.2.2 X (i + (inn x y).1.length + 1 - 1) (by omega) hX' (by omega) (by omega)
        simp only [pat]
        rw [ih, show i + (inn x y).1.length - (i + (inn x y).1.length + 1 - 1) = 0 from by omega, List.take_zero, List.nil_append, show i + 1 - 1 - at' = i - at' from by omega, List.append_assoc]
        congr 1
        exact hok.ey.symm
end Go.Abs.Z

namespace Go.Abs.Z
def D (x y : List Str) (i k : Nat) : Nat := i + k - 2 * lc (x.take i).reverse (y.take k).reverse
theorem D_zero_left (x y : List Str) (k : Nat) : D x y 0 k = k := by simp [D, lc_nil_left]
theorem D_zero_right (x y : List Str) (i : Nat) : D x y i 0 = i := by simp [D, lc_nil_right]
theorem take_rev {x : List Str} {i : Nat} (h : i < x.length) : (x.take (i + 1)).reverse = x[i] :: (x.take i).reverse := by
  rw [List.take_succ_eq_append_getElem h, List.reverse_append]; rfl
theorem lc_take_le (x y : List Str) (i k : Nat) : lc (x.take i).reverse (y.take k).reverse ≤ i ∧ lc (x.take i).reverse (y.take k).reverse ≤ k := by
  have := lc_le (x.take i).reverse (y.take k).reverse
  simp only [List.length_reverse, List.length_take] at this
  omega
theorem D_eq {x y : List Str} {i k : Nat} (hi : i < x.length) (hk : k < y.length) (h : x[i] = y[k]) : D x y (i + 1) (k + 1) = D x y i k := by
  unfold D
  rw [take_rev hi, take_rev hk, h, lc_eq]
  omega
theorem D_ne {x y : List Str} {i k : Nat} (hi : i < x.length) (hk : k < y.length) (h : x[i] ≠ y[k]) : D x y (i + 1) (k + 1) = min (D x y i (k + 1)) (D x y (i + 1) k) + 1 := by
  unfold D
  have h1 := lc_take_le x y i (k + 1)
  have h2 := lc_take_le x y (i + 1) k
  rw [take_rev hk] at h1 ⊢
  rw [take_rev hi] at h2 ⊢
  rw [lc_ne h]
  omega
theorem D_all (x y : List Str) : D x y x.length y.length = x.length + y.length - 2 * lc x y := by
  unfold D
  rw [List.take_length, List.take_length, lc_rev]
theorem dif_least (x y : List Str) : size (dif (x.length + y.length) 0 x y) = D x y x.length y.length := by
  have := dif_size (x.length + y.length) 0 x y (Nat.le_refl _)
  rw [D_all]
  omega
theorem dif_back (x y : List Str) : size (dif (x.length + y.length) 0 x y) = size (dif (y.length + x.length) 0 y x) := by
  have h1 := dif_size (x.length + y.length) 0 x y (Nat.le_refl _)
  have h2 := dif_size (y.length + x.length) 0 y x (Nat.le_refl _)
  rw [lc_comm y x] at h2
  omega
theorem D_le (x y : List Str) (i k : Nat) : D x y i k ≤ i + k := Nat.sub_le _ _
theorem dif_ok (x y : List Str) : vld x.length 0 (dif (x.length + y.length) 0 x y) :=
  dif_vld _ 0 x y x.length 0 (Nat.le_refl _) (by omega) (Nat.le_refl _) (fun _ => ⟨by omega, fun _ => by omega⟩)
theorem dif_text (x y : List Str) : pat x 0 (dif (x.length + y.length) 0 x y) = y := by
  rw [dif_pat (x.length + y.length) 0 x y x 0 (Nat.le_refl _) rfl (Nat.le_refl _) (Nat.zero_le _)]
  simp
end Go.Abs.Z
