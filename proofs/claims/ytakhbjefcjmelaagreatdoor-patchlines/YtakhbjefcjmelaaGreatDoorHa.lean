/- A part of the proof: H1 H2 H3. -/

set_option linter.unusedVariables false
set_option linter.unusedSimpArgs false
namespace Go.Abs.Z
abbrev Str := List UInt8
def lnA (c : Str) : Str → List Str
  | [] => if c = [] then [] else [c]
  | b :: s => if b = 10 then c :: lnA [] s else lnA (c ++ [b]) s
def spA (c : Str) : Str → List Str
  | [] => [c]
  | b :: s => if b = 10 then c :: spA [] s else spA (c ++ [b]) s
def trim (s : Str) : Str := if s.getLast? = some 10 then s.dropLast else s
theorem lnA_lf : ∀ (t c : Str), lnA c (t ++ [10]) = spA c t
  | [], c => by simp [lnA, spA]
  | b :: t, c => by
    by_cases h : b = 10
    · simp [lnA, spA, h, lnA_lf t []]
    · simp [lnA, spA, h, lnA_lf t (c ++ [b])]
theorem lnA_no : ∀ (t c : Str), (c ≠ [] ∨ t ≠ []) → t.getLast? ≠ some 10 → lnA c t = spA c t
  | [], c, h, _ => by
    rcases h with h | h
    · simp [lnA, spA, h]
    · exact absurd rfl h
  | b :: t, c, _, hl => by
    by_cases h : b = 10
    · subst h
      have ht : t ≠ [] := by rintro rfl; simp at hl
      have hl' : t.getLast? ≠ some 10 := by
        intro e; exact hl (by rw [List.getLast?_cons, e]; rfl)
      simp [lnA, spA, lnA_no t [] (.inr ht) hl']
    · have hl' : t.getLast? ≠ some 10 := by
        intro e; exact hl (by rw [List.getLast?_cons, e]; rfl)
      simp [lnA, spA, h, lnA_no t (c ++ [b]) (.inl (by simp)) hl']
theorem trim_lines {s : Str} (h : s ≠ []) : spA [] (trim s) = lnA [] s := by
  unfold trim
  split
  · rename_i hl
    obtain ⟨t, rfl⟩ := List.getLast?_eq_some_iff.1 hl
    rw [List.dropLast_concat, lnA_lf]
  · rename_i hl
    exact (lnA_no s [] (.inr h) hl).symm
def joinL (l : List Str) : Str := l.flatMap fun s => s ++ [10]
theorem lnA_len : ∀ (s c : Str), (lnA c s).length ≤ s.length + 1
  | [], c => by simp only [lnA]; split <;> simp
  | b :: s, c => by
    simp only [lnA]
    split
    · simpa using lnA_len s []
    · have := lnA_len s (c ++ [b]); simp only [List.length_cons]; omega
theorem lnA_len0 : ∀ (s : Str), (lnA [] s).length ≤ s.length
  | [] => by simp [lnA]
  | b :: s => by
    simp only [lnA]
    split
    · simpa using lnA_len0 s
    · exact lnA_len s _
theorem joinL_len : ∀ (l : List Str), (joinL l).length = (l.map List.length).sum + l.length
  | [] => rfl
  | x :: l => by
    show ((x ++ [10]) ++ joinL l).length = _
    simp [joinL_len l]; omega
theorem lnA_size : ∀ (s c : Str), ((lnA c s).map List.length).sum ≤ s.length + c.length
  | [], c => by
    simp only [lnA]
    split <;> simp
  | b :: s, c => by
    simp only [lnA]
    split
    · have := lnA_size s []
      simp only [List.map_cons, List.sum_cons, List.length_cons, List.length_nil] at *
      omega
    · have := lnA_size s (c ++ [b])
      simp only [List.length_append, List.length_cons, List.length_nil] at *
      omega
def lc : List Str → List Str → Nat
  | [], _ => 0
  | _ :: _, [] => 0
  | a :: x, b :: y => if a = b then lc x y + 1 else max (lc x (b :: y)) (lc (a :: x) y)
termination_by x y => x.length + y.length
end Go.Abs.Z

namespace Go.Abs.Z
structure Hk where
  fr : Nat
  to : Nat
  new : List Str
def meet : List Str → List Str → Bool
  | a :: _, b :: _ => a == b
  | _, _ => false
structure InnOk (x y : List Str) (r : List Str × List Str × List Str × List Str) : Prop where
  ex : x = r.1 ++ r.2.2.1
  ey : y = r.2.1 ++ r.2.2.2
  same : lc x y = lc r.2.2.1 r.2.2.2
  fin : (r.2.2.1 = [] ∧ r.2.2.2 = []) ∨ meet r.2.2.1 r.2.2.2 = true
def size : List Hk → Nat
  | [] => 0
  | h :: l => (h.to - h.fr) + h.new.length + size l
end Go.Abs.Z

namespace Go.Abs.Z
end Go.Abs.Z
