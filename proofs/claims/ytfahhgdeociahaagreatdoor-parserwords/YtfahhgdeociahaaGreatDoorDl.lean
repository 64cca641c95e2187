/- A part of the proof: D38 D39. -/
import Derived.Test.YtfahhgdeociahaaGreatDoorDk
import Derived.Test.YtfahhgdeociahaaGreatDoorDf
import Derived.Test.YtfahhgdeociahaaGreatDoorPb

set_option linter.unusedVariables false
set_option linter.unusedSimpArgs false
namespace Go.Abs.Z
open Go.Proofs
set_option linter.unusedVariables false
theorem AkA : ∀ (q : Bool) (l : List UInt8) (c : UInt8) (r : List UInt8), l.drop (skN q l) = c :: r → whB c = false ∧ c ≠ 35
  | q, [], c, r, h => by cases q <;> simp [skN] at h
  | true, x :: l, c, r, h => by
    simp only [skN] at h
    split at h
    · rw [Nat.add_comm, List.drop_succ_cons] at h; exact AkA false l c r h
    · rw [Nat.add_comm, List.drop_succ_cons] at h; exact AkA true l c r h
  | false, x :: l, c, r, h => by
    simp only [skN] at h
    split at h
    · rw [Nat.add_comm, List.drop_succ_cons] at h; exact AkA false l c r h
    · rename_i hw
      split at h
      · rw [Nat.add_comm, List.drop_succ_cons] at h; exact AkA true l c r h
      · rename_i h35;rw [List.drop_zero] at h;cases h;exact ⟨by simpa using hw, h35⟩
theorem runL_run (p : UInt8 → Bool) (l : List UInt8) : runL p (l.take (runL p l)) = runL p l := by
  have h := BjX p l
  have key : ∀ x : List UInt8, x.all p = true → runL p x = x.length := by
    intro x
    induction x with
    | nil => intro _; rfl
    | cons c x ih =>
      intro h;rw [List.all_cons, Bool.and_eq_true] at h;have := ih h.2;simp only [runL, List.takeWhile_cons, h.1, if_true, List.length_cons] at this ⊢;omega
  rw [key _ h, List.length_take];have := AzO p l;omega
theorem sym_take {c : UInt8} {l : List UInt8} (m : Nat) (h : symN (c :: l) = 0) : symN (c :: l.take m) = 0 := by
  simp only [symN] at h ⊢
  split at h
  · cases h
  · rename_i h1
    split at h
    · cases h
    · rename_i h2;rw [if_neg, if_neg h2]
      rintro ⟨a, b⟩
      apply h1;refine ⟨?_, b⟩
      cases l with
      | nil => simp at a
      | cons x l =>
        cases m with
        | zero => simp at a
        | succ m => simpa using a
theorem wr_take : ∀ l : List UInt8, wrN (l.take (wrN l)) = wrN l
  | [] => rfl
  | c :: l => by
    have ih := wr_take l;rw [wrN];split
    · rfl
    · rename_i h;rw [Nat.add_comm, List.take_succ_cons, wrN, ih, if_neg, Nat.add_comm];intro hs;apply h;have hs : stopB c (l.take (wrN l)) = true := hs;show stopB c l = true;unfold stopB at hs ⊢;by_cases h0 : symN (c :: l) = 0
      · rw [sym_take _ h0] at hs; rw [h0]; exact hs
      · simp [h0]
theorem tok_again {r : List UInt8} (hr : r ≠ []) : tokN (r.take (tokN r).2) = tokN r := by
  cases r with
  | nil => exact absurd rfl hr
  | cons c l =>
    have hd : ∀ n, 0 < n → ((c :: l).take n).headD 0 = c := fun n hn => by
      cases n with
      | zero => omega
      | succ n => rfl
    have hp := (tok_wf (s := c :: l) (f := 0) (a := 0) rfl hr (Nat.le_refl _)).2.1;simp only [List.drop_zero] at hp;by_cases hl : leB c = true
    · have e : tokN (c :: l) = (if kwL.contains ((c :: l).take (runL woB (c :: l))) then 1 else 0, runL woB (c :: l)) := by
        unfold tokN; rw [List.headD_cons, if_pos hl]
      rw [e] at hp ⊢;unfold tokN;rw [hd _ hp, if_pos hl, runL_run, List.take_take, Nat.min_self]
    · by_cases hdg : diB c = true
      · have e : tokN (c :: l) = (2, runL diB (c :: l)) := by
          unfold tokN; rw [List.headD_cons, if_neg hl, if_pos hdg]
        rw [e] at hp ⊢;unfold tokN;rw [hd _ hp, if_neg hl, if_pos hdg, runL_run]
      · by_cases hs : 0 < symN (c :: l)
        · have e : tokN (c :: l) = (3, symN (c :: l)) := by
            unfold tokN; rw [List.headD_cons, if_neg hl, if_neg hdg, if_pos hs]
          have e2 : symN ((c :: l).take (symN (c :: l))) = symN (c :: l) := by
            by_cases h : l.head? = some 61 ∧ (c = 61 ∨ c = 33 ∨ c = 60 ∨ c = 62)
            · have e3 : symN (c :: l) = 2 := if_pos h;rw [e3];cases l with
              | nil => simp at h
              | cons x l =>
                have : x = 61 := by simpa using h.1
                subst this;exact if_pos ⟨rfl, h.2⟩
            · by_cases h2 : symL.contains c = true
              · have e3 : symN (c :: l) = 1 := (if_neg h).trans (if_pos h2);rw [e3]
                have e4 : symN [c] = 1 := by
                  simp only [symN];rw [if_neg (by simp), if_pos h2]
                exact e4
              · have e3 : symN (c :: l) = 0 := (if_neg h).trans (if_neg h2);omega
          rw [e] at hp ⊢;unfold tokN;rw [hd _ hp, if_neg hl, if_neg hdg, e2, if_pos hs]
        · have e : tokN (c :: l) = (4, 1 + wrN l) := by
            unfold tokN; rw [List.headD_cons, if_neg hl, if_neg hdg, if_neg hs]; rfl
          rw [e] at hp ⊢;have h0 : symN (c :: l) = 0 := by omega
          rw [Nat.add_comm 1, List.take_succ_cons];unfold tokN;rw [List.headD_cons, if_neg hl, if_neg hdg, sym_take _ h0, if_neg (by omega)]
          show (4, 1 + wrN (l.take (wrN l))) = _;rw [wr_take, Nat.add_comm]
def T2 (s t : List UInt8) : List Tk → List Tk → Prop
  | [], [] => True
  | u :: us, v :: vs => (u.k = v.k ∧ wd s u = wd t v) ∧ T2 s t us vs
  | _, _ => False
def jn (s : List UInt8) : List Tk → List UInt8
  | [] => []
  | [_] => []
  | u :: v :: us => wd s u ++ 10 :: jn s (v :: us)
theorem jn_cons (s : List UInt8) (u : Tk) {us : List Tk} (h : us ≠ []) : jn s (u :: us) = wd s u ++ 10 :: jn s us := by
  cases us with
  | nil => exact absurd rfl h
  | cons v us => rfl
theorem scan_jn (s t : List UInt8) : ∀ (n N f F : Nat) (lead : List UInt8), f ≤ s.length → s.length - f < n → (lead = [] ∨ lead = [10]) → t.drop F = lead ++ jn s (scanF n (s.drop f) f) → (lead ++ jn s (scanF n (s.drop f) f)).length < N →
    T2 s t (scanF n (s.drop f) f) (scanF N (t.drop F) F)
  | 0, _, f, F, lead, _, h, _, _, _ => by omega
  | _ + 1, 0, _, _, _, _, _, _, _, h => by omega
  | n + 1, N + 1, f, F, lead, hf, hn, hl, ht, hN => by
    have hk := AvJ false (s.drop f);rw [List.length_drop] at hk;by_cases he : (s.drop f).drop (skN false (s.drop f)) = []
    · have e1 : scanF (n + 1) (s.drop f) f = [⟨5, f, f + skN false (s.drop f), f + skN false (s.drop f)⟩] := by
        simp only [scanF]; rw [if_pos he]
      rw [e1] at ht hN ⊢;have ht : t.drop F = lead := by rw [ht]; show lead ++ [] = lead; rw [List.append_nil]
      have hs : skN false lead = lead.length := by rcases hl with rfl | rfl <;> rfl
      have e2 : scanF (N + 1) (t.drop F) F = [⟨5, F, F + skN false (t.drop F), F + skN false (t.drop F)⟩] := by
        simp only [scanF]; rw [if_pos (by rw [ht, hs, List.drop_length])]
      rw [e2];refine ⟨⟨rfl, ?_⟩, trivial⟩
      simp [wd]
    · have hlt : f + skN false (s.drop f) < s.length := by
        rw [List.drop_drop, List.drop_eq_nil_iff] at he;omega
      have hd : (s.drop f).drop (skN false (s.drop f)) = s.drop (f + skN false (s.drop f)) := List.drop_drop ..;have hp := tok_wf (s := s) (f := f) (a := f + skN false (s.drop f)) rfl (by rw [← hd]; exact he) (by omega)
      rw [← hd] at hp;generalize hr : (s.drop f).drop (skN false (s.drop f)) = r at he hp hd;obtain ⟨_, p2, p3, _⟩ := hp
      have e1 : scanF (n + 1) (s.drop f) f = ⟨(tokN r).1, f, f + skN false (s.drop f), f + skN false (s.drop f) + (tokN r).2⟩ :: scanF n (s.drop (f + skN false (s.drop f) + (tokN r).2)) (f + skN false (s.drop f) + (tokN r).2) := by
        simp only [scanF];rw [hr, if_neg he, hd, List.drop_drop]
      rw [e1] at ht hN ⊢;have hw : wd s ⟨(tokN r).1, f, f + skN false (s.drop f), f + skN false (s.drop f) + (tokN r).2⟩ = r.take (tokN r).2 := wd_eq hd.symm
      have hne : scanF n (s.drop (f + skN false (s.drop f) + (tokN r).2)) (f + skN false (s.drop f) + (tokN r).2) ≠ [] := by
        cases n with
        | zero => omega
        | succ n => exact scan_ne _ _ _
      rw [jn_cons _ _ hne, hw] at ht hN;generalize hJ : jn s (scanF n (s.drop (f + skN false (s.drop f) + (tokN r).2)) (f + skN false (s.drop f) + (tokN r).2)) = J at ht hN;have hrl : r.length = s.length - (f + skN false (s.drop f)) := (congrArg List.length hd).trans (List.length_drop ..);have hlen : (tokN r).2 ≤ r.length := by omega
      have htl : (r.take (tokN r).2).length = (tokN r).2 := by rw [List.length_take]; omega
      have hwne : r.take (tokN r).2 ≠ [] := by
        intro e; rw [e] at htl; simp at htl; omega
      have hskip : skN false (t.drop F) = lead.length ∧ (t.drop F).drop lead.length = r.take (tokN r).2 ++ 10 :: J := by
        rw [ht];refine ⟨?_, List.drop_left⟩
        cases hq : r.take (tokN r).2 with
        | nil => exact absurd hq hwne
        | cons c q =>
          have hc : ∃ l, r = c :: l := by
            cases r with
            | nil => simp at hq
            | cons x l =>
              cases hn2 : (tokN (x :: l)).2 with
              | zero => rw [hn2] at hq; simp at hq
              | succ m => rw [hn2, List.take_succ_cons] at hq; cases hq; exact ⟨l, rfl⟩
          obtain ⟨l, hc⟩ := hc;obtain ⟨w1, w2⟩ := AkA false (s.drop f) c l (by rw [hr, hc])
          rcases hl with rfl | rfl
          · simp [skN, w1, w2]
          · simp [skN, whB, w1, w2];simpa [whB] using w1
      have htok : tokN (r.take (tokN r).2 ++ 10 :: J) = tokN r := by rw [tokN_lf J hwne, tok_again he]
      have e2 : scanF (N + 1) (t.drop F) F = ⟨(tokN r).1, F, F + lead.length, F + lead.length + (tokN r).2⟩ :: scanF N (t.drop (F + lead.length + (tokN r).2)) (F + lead.length + (tokN r).2) := by
        simp only [scanF];rw [hskip.1, hskip.2, if_neg (by simp), htok]
        congr 2;rw [← hskip.2, List.drop_drop, List.drop_drop];congr 1;omega
      rw [e2];have hdF : t.drop (F + lead.length) = r.take (tokN r).2 ++ 10 :: J := by rw [← hskip.2, List.drop_drop]
      refine ⟨⟨rfl, ?_⟩, ?_⟩
      · rw [hw, wd_eq hdF];rw [List.take_append_of_le_length (by omega), List.take_take, Nat.min_self]
      · have h10 : t.drop (F + lead.length + (tokN r).2) = [10] ++ J := by
          rw [← List.drop_drop, hdF];have : (tokN r).2 = (r.take (tokN r).2).length := htl.symm;rw [List.drop_append_of_le_length (by omega), List.drop_of_length_le (by omega)]
          rfl
        refine scan_jn s t n N _ _ [10] (by omega) (by omega) (.inr rfl) (by rw [h10, hJ]) ?_
        rw [hJ];simp only [List.length_append, List.length_cons, List.length_nil] at hN ⊢;omega
theorem jn_len (s : List UInt8) : ∀ (n f : Nat), f ≤ s.length → s.length - f < n → (jn s (scanF n (s.drop f) f)).length ≤ 2 * (s.length - f)
  | 0, f, _, h => by omega
  | n + 1, f, hf, hn => by
    by_cases he : (s.drop f).drop (skN false (s.drop f)) = []
    · have e1 : scanF (n + 1) (s.drop f) f = [⟨5, f, f + skN false (s.drop f), f + skN false (s.drop f)⟩] := by
        simp only [scanF]; rw [if_pos he]
      rw [e1]; exact Nat.zero_le _
    · have hlt : f + skN false (s.drop f) < s.length := by
        rw [List.drop_drop, List.drop_eq_nil_iff] at he;omega
      have hd : (s.drop f).drop (skN false (s.drop f)) = s.drop (f + skN false (s.drop f)) := List.drop_drop ..;have hp := tok_wf (s := s) (f := f) (a := f + skN false (s.drop f)) rfl (by rw [← hd]; exact he) (by omega)
      rw [← hd] at hp;generalize hr : (s.drop f).drop (skN false (s.drop f)) = r at he hp hd;obtain ⟨_, p2, p3, _⟩ := hp
      have e1 : scanF (n + 1) (s.drop f) f = ⟨(tokN r).1, f, f + skN false (s.drop f), f + skN false (s.drop f) + (tokN r).2⟩ :: scanF n (s.drop (f + skN false (s.drop f) + (tokN r).2)) (f + skN false (s.drop f) + (tokN r).2) := by
        simp only [scanF];rw [hr, if_neg he, hd, List.drop_drop]
      rw [e1]
      have hne : scanF n (s.drop (f + skN false (s.drop f) + (tokN r).2)) (f + skN false (s.drop f) + (tokN r).2) ≠ [] := by
        cases n with
        | zero => omega
        | succ n => exact scan_ne _ _ _
      rw [jn_cons _ _ hne];have ih := jn_len s n (f + skN false (s.drop f) + (tokN r).2) (by omega) (by omega)
      have hw : (wd s ⟨(tokN r).1, f, f + skN false (s.drop f), f + skN false (s.drop f) + (tokN r).2⟩).length ≤ (tokN r).2 := by
        rw [wd_eq hd.symm, List.length_take]; omega
      simp only [List.length_append, List.length_cons];omega
def txW (s : List UInt8) : List UInt8 := jn s (scanT s)
theorem t2_txW (s : List UInt8) : T2 s (txW s) (scanT s) (scanT (txW s)) := by
  have := scan_jn s (txW s) (s.length + 1) ((txW s).length + 1) 0 0 [] (Nat.zero_le _) (by omega) (.inl rfl) (by rw [List.drop_zero]; rfl) (by show (txW s).length < _; omega)
  exact this
theorem join_jn (s : List UInt8) : ∀ (l : List Tk), (∀ t, l.getLast? = some t → wd s t = []) → Lib.join (l.map (wd s)) [10] = jn s l
  | [], _ => rfl
  | [u], h => by
    show Lib.join [wd s u] [10] = [];rw [Lib.join_one]; exact h u rfl
  | u :: v :: us, h => by
    have ih := join_jn s (v :: us) (fun t ht => h t (by simpa using ht))
    have e1 : Lib.join ((u :: v :: us).map (wd s)) [10] = wd s u ++ Lib.joinTail [10] ((v :: us).map (wd s)) := Lib.join_cons _ _ _;have e2 : Lib.join ((v :: us).map (wd s)) [10] = wd s v ++ Lib.joinTail [10] (us.map (wd s)) := Lib.join_cons _ _ _;have e3 : Lib.joinTail [10] ((v :: us).map (wd s)) = [10] ++ wd s v ++ Lib.joinTail [10] (us.map (wd s)) := by simp [Lib.joinTail]
    rw [e1, e3];show _ = wd s u ++ 10 :: jn s (v :: us);rw [← ih, e2];simp
theorem join_txW (s : List UInt8) : Lib.join ((scanT s).map (wd s)) [10] = txW s := by
  refine join_jn s _ fun t ht => ?_
  obtain ⟨⟨l0, g, e, _⟩, _, _⟩ := Aj2 s (s.length + 1) 0 (Nat.zero_le _) (by omega)
  have e : scanT s = l0 ++ [⟨5, g, s.length, s.length⟩] := e;rw [e, List.getLast?_concat] at ht
  cases ht;simp [wd]
theorem txW_len (s : List UInt8) : (txW s).length ≤ 2 * s.length := jn_len s (s.length + 1) 0 (Nat.zero_le _) (by omega)
end Go.Abs.Z

namespace Go.Abs.Z
open Go.Proofs
set_option linter.unusedVariables false
section
variable {s t : List UInt8}
theorem T2.len : ∀ {us vs : List Tk}, T2 s t us vs → us.length = vs.length
  | [], [], _ => rfl
  | u :: us, v :: vs, h => by rw [List.length_cons, List.length_cons, T2.len h.2]
theorem T2.get : ∀ {us vs : List Tk}, T2 s t us vs → ∀ {i : Nat} {u : Tk}, us[i]? = some u → ∃ v, vs[i]? = some v ∧ u.k = v.k ∧ wd s u = wd t v
  | [], [], _, i, u, hu => by simp at hu
  | x :: us, y :: vs, h, 0, u, hu => by cases hu; exact ⟨y, rfl, h.1.1, h.1.2⟩
  | x :: us, y :: vs, h, i + 1, u, hu => by
    obtain ⟨v, h1, h2⟩ := T2.get h.2 (i := i) (u := u) (by simpa using hu)
    exact ⟨v, by simpa using h1, h2⟩
theorem T2.good : ∀ {us vs : List Tk}, T2 s t us vs → T2 s t (Z.good us) (Z.good vs)
  | [], [], _ => trivial
  | x :: us, y :: vs, h => by
    have ih := T2.good h.2;unfold Z.good at ih ⊢;simp only [List.filter_cons, h.1.1];split
    · exact ⟨⟨h.1.1, h.1.2⟩, ih⟩
    · exact ih
theorem T2.w (h : T2 s t (toksT s) (toksT t)) (k : Nat) : wAt s (toksT s) k = wAt t (toksT t) k := by
  cases hu : (toksT s)[k]? with
  | none =>
    have hl := h.len
    have : (toksT t)[k]? = none := by
      rw [List.getElem?_eq_none_iff] at hu ⊢; omega
    unfold wAt; rw [hu, this]
  | some u =>
    obtain ⟨v, h1, h2, h3⟩ := h.get hu;rw [Ak7 hu, Ak7 h1, h2, h3]
end
def lexI (s : List UInt8) : Nat → List Tk → List Dg
  | _, [] => []
  | j, t :: l => if lexC s t = 0 then lexI s (j + 1) l else ⟨lexC s t, j, j, []⟩ :: lexI s (j + 1) l
def gI (ls : List Tk) (d : Dg) : Dg := ⟨d.c, tA ls d.a, tE ls d.a, d.t⟩
def gx : Nat → List Tk → List Nat
  | _, [] => []
  | j, t :: l => if t.k = 4 then gx (j + 1) l else j :: gx (j + 1) l
def adI (q : List Nat) (d : AD) : Dg := ⟨d.c, q[d.i]?.getD 0, q[d.i]?.getD 0, d.t⟩
theorem lexI_eq (s : List UInt8) (all : List Tk) : ∀ (l pre : List Tk), all = pre ++ l → lexP s l = (lexI s pre.length l).map (gI all)
  | [], _, _ => rfl
  | t :: l, pre, h => by
    have ih := lexI_eq s all l (pre ++ [t]) (by rw [h]; simp)
    rw [List.length_append, List.length_singleton] at ih;have ht : all[pre.length]? = some t := by rw [h]; simp
    rw [lexP, lexI, ih];split
    · rfl
    · show _ = (⟨lexC s t, tA all pre.length, tE all pre.length, []⟩ : Dg) :: _;rw [tA_eq ht, tE_eq ht]
theorem lexI_T2 {s t : List UInt8} : ∀ {us vs : List Tk}, T2 s t us vs → ∀ j, lexI s j us = lexI t j vs
  | [], [], _, _ => rfl
  | x :: us, y :: vs, h, j => by
    have : lexC s x = lexC t y := by unfold lexC; rw [h.1.1, h.1.2]
    simp only [lexI, this, lexI_T2 h.2]
theorem gx_T2 {s t : List UInt8} : ∀ {us vs : List Tk}, T2 s t us vs → ∀ j, gx j us = gx j vs
  | [], [], _, _ => rfl
  | x :: us, y :: vs, h, j => by simp only [gx, h.1.1, gx_T2 h.2]
theorem gx_get (all : List Tk) : ∀ (l pre : List Tk), all = pre ++ l → ∀ (i : Nat) (t : Tk), (good l)[i]? = some t → ∃ q, (gx pre.length l)[i]? = some q ∧ all[q]? = some t
  | [], _, _, i, t, h => by simp [good] at h
  | x :: l, pre, h, i, t, hi => by
    have ih := gx_get all l (pre ++ [x]) (by rw [h]; simp)
    rw [List.length_append, List.length_singleton] at ih;have hx : all[pre.length]? = some x := by rw [h]; simp
    rw [gx];by_cases h4 : x.k = 4
    · have e : good (x :: l) = good l := by unfold good; rw [List.filter_cons]; simp [h4]
      rw [e] at hi;rw [if_pos h4];exact ih i t hi
    · have e : good (x :: l) = x :: good l := by unfold good; rw [List.filter_cons]; simp [h4]
      rw [e] at hi;rw [if_neg h4];cases i with
      | zero => cases hi; exact ⟨_, rfl, hx⟩
      | succ i => exact ih i t (by simpa using hi)
theorem dgs_I (s : List UInt8) {D : List AD} (hD : ∀ d ∈ D, d.i < (toksT s).length) : dgs (toksT s) D = (D.map (adI (gx 0 (scanT s)))).map (gI (scanT s)) := by
  unfold dgs;rw [List.map_map];apply List.map_congr_left;intro d hd;have hg := List.getElem?_eq_getElem (hD d hd)
  obtain ⟨q, h1, h2⟩ := gx_get (scanT s) (scanT s) [] rfl d.i _ hg;have h1 : (gx 0 (scanT s))[d.i]? = some q := h1;show Dg.mk d.c (tA (toksT s) d.i) (tE (toksT s) d.i) d.t = Dg.mk d.c (tA (scanT s) ((gx 0 (scanT s))[d.i]?.getD 0)) (tE (scanT s) ((gx 0 (scanT s))[d.i]?.getD 0)) d.t;rw [h1, Option.getD_some, tA_eq hg, tE_eq hg, tA_eq h2, tE_eq h2]
theorem gx_lt (all : List Tk) : ∀ (l pre : List Tk), all = pre ++ l → ∀ q ∈ gx pre.length l, q < all.length
  | [], _, _, q, h => by cases h
  | x :: l, pre, h, q, hq => by
    have ih := gx_lt all l (pre ++ [x]) (by rw [h]; simp)
    rw [List.length_append, List.length_singleton] at ih;rw [gx] at hq
    split at hq
    · exact ih q hq
    · rcases List.mem_cons.1 hq with rfl | hq
      · rw [h]; simp
      · exact ih q hq
theorem lexI_lt (s : List UInt8) (all : List Tk) : ∀ (l pre : List Tk), all = pre ++ l → ∀ d ∈ lexI s pre.length l, d.a < all.length
  | [], _, _, d, h => by cases h
  | x :: l, pre, h, d, hd => by
    have ih := lexI_lt s all l (pre ++ [x]) (by rw [h]; simp)
    rw [List.length_append, List.length_singleton] at ih;rw [lexI] at hd
    split at hd
    · exact ih d hd
    · rcases List.mem_cons.1 hd with rfl | hd
      · show pre.length < _; rw [h]; simp
      · exact ih d hd
theorem sd_map {g : Dg → Dg} {l r : List Dg} (hg : ∀ x ∈ l, ∀ y ∈ l, x.a ≤ y.a ↔ (g x).a ≤ (g y).a) (h : Sd l r) : Sd (l.map g) (r.map g) := by
  refine ⟨?_, h.perm.map _, fun k => ?_⟩
  · show (r.map g).Pairwise _;rw [List.pairwise_map];exact h.asc.imp_of_mem fun {a b} ha hb hab => (hg a (h.mem.1 ha) b (h.mem.1 hb)).1 hab
  · by_cases hx : ∃ x ∈ l, (g x).a = k
    · obtain ⟨x, hx, rfl⟩ := hx
      have key : ∀ m : List Dg, (∀ y ∈ m, y ∈ l) → fk (g x).a (m.map g) = (fk x.a m).map g := by
        intro m hm;unfold fk;rw [List.filter_map];congr 1;apply List.filter_congr;intro y hy;show ((g y).a == (g x).a) = (y.a == x.a);have h1 := hg y (hm y hy) x hx;have h2 := hg x hx y (hm y hy);rw [Bool.eq_iff_iff, beq_iff_eq, beq_iff_eq];omega
      rw [key r (fun y hy => h.mem.1 hy), key l (fun y hy => hy), h.keep]
    · have key : ∀ m : List Dg, (∀ y ∈ m, y ∈ l) → fk k (m.map g) = [] := by
        intro m hm;unfold fk;rw [List.filter_map, List.map_eq_nil_iff, List.filter_eq_nil_iff];intro y hy he;exact hx ⟨y, hm y hy, by simpa using he⟩
      rw [key r (fun y hy => h.mem.1 hy), key l (fun y hy => hy)]
def insD (x : Dg) : List Dg → List Dg
  | [] => [x]
  | y :: r => if x.a ≤ y.a then x :: y :: r else y :: insD x r
theorem insD_sd (x : Dg) : ∀ {r : List Dg}, Asc r → Sd (x :: r) (insD x r)
  | [], _ => Sd.refl (List.pairwise_singleton _ _)
  | y :: r, h => by
    have hp := List.pairwise_cons.1 h;rw [insD];split
    · rename_i hxy;refine Sd.refl (List.pairwise_cons.2 ⟨fun z hz => ?_, h⟩)
      rcases List.mem_cons.1 hz with rfl | hz
      · exact hxy
      · have := hp.1 z hz; omega
    · rename_i hxy;have ih := insD_sd x (r := r) hp.2;have hp2 : (insD x r).Perm (x :: r) := ih.perm;refine ⟨List.pairwise_cons.2 ⟨fun z hz => ?_, ih.asc⟩, (hp2.cons y).trans (List.Perm.swap x y r), fun k => ?_⟩
      · rcases List.mem_cons.1 (hp2.mem_iff.1 hz) with rfl | hz
        · omega
        · exact hp.1 z hz
      · have h1 := fk_ne (k := k) (x := x) (y := y) (by omega) r
        have h2 : fk k (y :: insD x r) = fk k (y :: x :: r) := by
          have := ih.keep k;unfold fk at this ⊢;rw [List.filter_cons, List.filter_cons (x := y), this]
        rw [h2, h1]
theorem sd_ex : ∀ l : List Dg, ∃ r, Sd l r
  | [] => ⟨[], Sd.refl List.Pairwise.nil⟩
  | x :: l => by
    obtain ⟨r, h⟩ := sd_ex l;have h1 := insD_sd x h.asc;refine ⟨insD x r, h1.asc, h1.perm.trans (h.perm.cons x), fun k => ?_⟩
    rw [h1.keep];have := h.keep k;unfold fk at this ⊢;rw [List.filter_cons, List.filter_cons (x := x), this]
theorem tA_lt {s : List UInt8} {i j : Nat} (hj : j < (scanT s).length) (h : i < j) : tA (scanT s) i < tA (scanT s) j := by
  have ho := (Aj2 s (s.length + 1) 0 (Nat.zero_le _) (by omega)).ord
  have ho : (scanT s).Pairwise fun t u => t.a < u.a ∧ t.e ≤ u.a := ho
  have hi : i < (scanT s).length := by omega
  have := List.pairwise_iff_getElem.1 ho i j hi hj h;rw [tA_eq (List.getElem?_eq_getElem hi), tA_eq (List.getElem?_eq_getElem hj)]
  exact this.1
theorem gI_mono {s : List UInt8} {l : List Dg} (hl : ∀ d ∈ l, d.a < (scanT s).length) : ∀ x ∈ l, ∀ y ∈ l, x.a ≤ y.a ↔ (gI (scanT s) x).a ≤ (gI (scanT s) y).a := by
  intro x hx y hy;show x.a ≤ y.a ↔ tA (scanT s) x.a ≤ tA (scanT s) y.a;rcases Nat.lt_trichotomy x.a y.a with h | h | h
  · have := tA_lt (hl y hy) h; omega
  · rw [h]; omega
  · have := tA_lt (hl x hx) h; omega
theorem words_dgs {s t : List UInt8} (h : T2 s t (scanT s) (scanT t)) {D : List AD} (hD : ∀ d ∈ D, d.i < (toksT s).length) {R1 R2 : List Dg} (h1 : Sd (lexs s ++ dgs (toksT s) D) R1) (h2 : Sd (lexs t ++ dgs (toksT t) D) R2) :
    R1.length = R2.length ∧ ∀ (i : Nat) (x y : Dg), R1[i]? = some x → R2[i]? = some y → x.c = y.c ∧ x.t = y.t := by
  have hg : T2 s t (toksT s) (toksT t) := h.good;have e1 : lexs s = (lexI s 0 (scanT s)).map (gI (scanT s)) := lexI_eq s (scanT s) (scanT s) [] rfl;have e2 : lexs t = (lexI t 0 (scanT t)).map (gI (scanT t)) := lexI_eq t (scanT t) (scanT t) [] rfl;have e3 := dgs_I s hD;have e4 := dgs_I t (D := D) (fun d hd => by rw [← hg.len]; exact hD d hd)
  rw [← gx_T2 h 0] at e4;rw [← lexI_T2 h 0] at e2
  have hlt : ∀ d ∈ lexI s 0 (scanT s) ++ D.map (adI (gx 0 (scanT s))), d.a < (scanT s).length := by
    intro d hd;rcases List.mem_append.1 hd with hd | hd
    · exact lexI_lt s (scanT s) (scanT s) [] rfl d hd
    · obtain ⟨x, hx, rfl⟩ := List.mem_map.1 hd;obtain ⟨q, q1, _⟩ := gx_get (scanT s) (scanT s) [] rfl x.i _ (List.getElem?_eq_getElem (hD x hx))
      have q1 : (gx 0 (scanT s))[x.i]? = some q := q1;show (gx 0 (scanT s))[x.i]?.getD 0 < _;rw [q1];exact gx_lt (scanT s) (scanT s) [] rfl q (List.mem_of_getElem? q1)
  obtain ⟨S, hS⟩ := sd_ex (lexI s 0 (scanT s) ++ D.map (adI (gx 0 (scanT s))));rw [e1, e3, ← List.map_append] at h1;rw [e2, e4, ← List.map_append] at h2;have r1 : R1 = S.map (gI (scanT s)) := h1.eq (sd_map (gI_mono hlt) hS);have r2 : R2 = S.map (gI (scanT t)) := h2.eq (sd_map (gI_mono (by rw [← h.len]; exact hlt)) hS)
  subst r1 r2;refine ⟨by rw [List.length_map, List.length_map], fun i x y hx hy => ?_⟩
  rw [List.getElem?_map] at hx hy
  cases hq : S[i]? with
  | none => rw [hq] at hx; cases hx
  | some d => rw [hq] at hx hy; cases hx; cases hy; exact ⟨rfl, rfl⟩
end Go.Abs.Z
