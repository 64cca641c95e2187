/- A part of the proof: D10 D9. -/
import Derived.Test.YtfahhgdeociahaaGreatDoorDb
import Derived.Test.YtfahhgdeociahaaGreatDoorWb

set_option linter.unusedVariables false
set_option linter.unusedSimpArgs false
namespace Go.Abs.Z
structure WFt (s : List UInt8) (t : Tk) : Prop where
  ord : t.a ≤ t.e ∧ t.e ≤ s.length ∧ t.f ≤ t.a
  k0 : t.k = 0 → leB ((wd s t).headD 0) = true ∧ kwL.contains (wd s t) = false
  k1 : t.k = 1 → kwL.contains (wd s t) = true
  k2 : t.k = 2 → diB ((wd s t).headD 0) = true ∧ (wd s t).all diB = true
  k3 : t.k = 3 → leB ((wd s t).headD 0) = false ∧ diB ((wd s t).headD 0) = false ∧ wd s t ≠ []
  k5 : t.k = 5 → wd s t = []
theorem wd_eq {s r : List UInt8} {k f a n : Nat} (h : s.drop a = r) : wd s ⟨k, f, a, a + n⟩ = r.take n := by
  simp only [wd]; rw [h, show a + n - a = n by omega]
theorem BjX (p : UInt8 → Bool) (l : List UInt8) : (l.take (runL p l)).all p = true := by
  induction l with
  | nil => rfl
  | cons c l ih =>
    unfold runL at *;rw [List.takeWhile_cons];cases h : p c with
    | true => simp only [if_true, List.length_cons, List.take_succ_cons, List.all_cons, h, Bool.true_and]; exact ih
    | false => rfl
theorem Bz4 (l : List UInt8) : symN l ≤ l.length := by
  cases l with
  | nil => simp [symN]
  | cons a l =>
    rw [symN];split
    · rename_i h;cases l with
      | nil => simp at h
      | cons => simp
    · split <;> simp
theorem AzO (p : UInt8 → Bool) (l : List UInt8) : runL p l ≤ l.length := by
  unfold runL;exact (List.takeWhile_sublist p).length_le
theorem wrN_le : ∀ l : List UInt8, wrN l ≤ l.length
  | [] => Nat.le_refl _
  | c :: l => by have := wrN_le l; rw [wrN]; split <;> simp; omega
theorem AvJ : ∀ (b : Bool) (l : List UInt8), skN b l ≤ l.length
  | b, [] => by cases b <;> simp [skN]
  | true, c :: l => by
    have h1 := AvJ false l; have h2 := AvJ true l;simp only [skN, List.length_cons]; split <;> omega
  | false, c :: l => by
    have h1 := AvJ false l; have h2 := AvJ true l;simp only [skN, List.length_cons]; split
    · omega
    · split <;> omega
theorem tok_wf {s r : List UInt8} {f a : Nat} (hr : s.drop a = r) (hne : r ≠ []) (hf : f ≤ a) : WFt s ⟨(tokN r).1, f, a, a + (tokN r).2⟩ ∧ 0 < (tokN r).2 ∧ a + (tokN r).2 ≤ s.length ∧ (tokN r).1 < 5 := by
  have hlen : r.length = s.length - a := by rw [← hr, List.length_drop]
  cases r with
  | nil => exact absurd rfl hne
  | cons c l =>
    have hpos : 0 < s.length - a := by rw [← hlen]; simp
    have hd : ∀ n, 0 < n → ((c :: l).take n).headD 0 = c := fun n hn => by
      cases n with
      | zero => omega
      | succ n => rfl
    have hne' : ∀ n, 0 < n → (c :: l).take n ≠ [] := fun n hn => by
      cases n with
      | zero => omega
      | succ n => simp
    unfold tokN;simp only [List.headD_cons, List.tail_cons];by_cases hl : leB c = true
    · simp only [hl, if_true];have hwo : woB c = true := by simp [woB, hl]
      have h0 : 0 < runL woB (c :: l) := by simp [runL, hwo]
      have hle := AzO woB (c :: l);refine ⟨?_, h0, by omega, by split <;> omega⟩
      have hw : wd s ⟨if kwL.contains ((c :: l).take (runL woB (c :: l))) = true then 1 else 0, f, a, a + runL woB (c :: l)⟩ = (c :: l).take (runL woB (c :: l)) := wd_eq hr
      cases hk : kwL.contains ((c :: l).take (runL woB (c :: l))) with
      | true =>
        rw [hk] at hw;exact ⟨⟨by simp, by simp only; omega, hf⟩, fun h => by simp at h, fun _ => by rw [hw]; exact hk, fun h => by simp at h, fun h => by simp at h, fun h => by simp at h⟩
      | false =>
        rw [hk] at hw;exact ⟨⟨by simp, by simp only; omega, hf⟩, fun _ => by rw [hw, hd _ h0]; exact ⟨hl, hk⟩, fun h => by simp at h, fun h => by simp at h, fun h => by simp at h, fun h => by simp at h⟩
    · by_cases hdg : diB c = true
      · simp only [hl, hdg, if_true, Bool.false_eq_true, if_false];have h0 : 0 < runL diB (c :: l) := by simp [runL, hdg]
        have hle := AzO diB (c :: l);have hw : wd s ⟨2, f, a, a + runL diB (c :: l)⟩ = (c :: l).take (runL diB (c :: l)) := wd_eq hr;exact ⟨⟨⟨by simp, by simp only; omega, hf⟩, fun h => by simp at h, fun h => by simp at h, fun _ => by rw [hw, hd _ h0]; exact ⟨hdg, BjX _ _⟩, fun h => by simp at h, fun h => by simp at h⟩, h0, by omega, by omega⟩
      · have hl' : leB c = false := by simpa using hl
        have hd' : diB c = false := by simpa using hdg
        by_cases hs : 0 < symN (c :: l)
        · simp only [hl', hd', hs, if_true, Bool.false_eq_true, if_false];have hle := Bz4 (c :: l);have hw : wd s ⟨3, f, a, a + symN (c :: l)⟩ = (c :: l).take (symN (c :: l)) := wd_eq hr;exact ⟨⟨⟨by simp, by simp only; omega, hf⟩, fun h => by simp at h, fun h => by simp at h, fun h => by simp at h, fun _ => by rw [hw, hd _ hs]; exact ⟨hl', hd', hne' _ hs⟩, fun h => by simp at h⟩, trivial, by omega, by omega⟩
        · simp only [hl', hd', hs, Bool.false_eq_true, if_false];have hle := wrN_le l;simp only [List.length_cons] at hlen;exact ⟨⟨⟨by simp, by simp only; omega, hf⟩, fun h => by simp at h, fun h => by simp at h, fun h => by simp at h, fun h => by simp at h, fun h => by simp at h⟩, by omega, by omega, by omega⟩
structure Tok0 (s : List UInt8) (f : Nat) (l : List Tk) : Prop where
  init : ∃ l0 g, l = l0 ++ [⟨5, g, s.length, s.length⟩] ∧ ∀ t ∈ l0, t.k < 5
  wf : ∀ t ∈ l, WFt s t ∧ f ≤ t.a
  ord : l.Pairwise fun t u => t.a < u.a ∧ t.e ≤ u.a
theorem Aj2 (s : List UInt8) : ∀ (n f : Nat), f ≤ s.length → s.length - f < n → Tok0 s f (scanF n (s.drop f) f)
  | 0, f, _, h => by omega
  | n + 1, f, hf, h => by
    have hk := AvJ false (s.drop f);rw [List.length_drop] at hk;rw [scanF];by_cases he : (s.drop f).drop (skN false (s.drop f)) = []
    · simp only [he, if_true];rw [List.drop_drop, List.drop_eq_nil_iff] at he;have e : f + skN false (s.drop f) = s.length := by omega
      rw [e];refine ⟨⟨[], f, rfl, fun t h => by cases h⟩, fun t ht => ?_, by simp⟩
      rw [List.mem_singleton] at ht;subst ht;exact ⟨⟨⟨by simp, by simp, hf⟩, fun h => by simp at h, fun h => by simp at h, fun h => by simp at h, fun h => by simp at h, fun _ => by simp [wd]⟩, hf⟩
    · simp only [he, if_false];rw [List.drop_drop] at he;simp only [List.drop_drop];obtain ⟨w1, w2, w3, w4⟩ := tok_wf (s := s) (f := f) (a := f + skN false (s.drop f)) rfl he (by omega)
      have hlt : f + skN false (s.drop f) < s.length := by omega
      obtain ⟨⟨l0, g, e, hi⟩, hw, ho⟩ := Aj2 s n (f + skN false (s.drop f) + (tokN (s.drop (f + skN false (s.drop f)))).2) (by omega) (by omega)
      refine ⟨⟨_ :: l0, g, by rw [e]; rfl, fun t ht => ?_⟩, fun t ht => ?_, ?_⟩
      · rcases List.mem_cons.1 ht with rfl | ht
        · exact w4
        · exact hi t ht
      · rcases List.mem_cons.1 ht with rfl | ht
        · exact ⟨w1, by simp⟩
        · exact ⟨(hw t ht).1, by have := (hw t ht).2; omega⟩
      · rw [List.pairwise_cons];exact ⟨fun u hu => by have := (hw u hu).2; simp only; omega, ho⟩
def good (l : List Tk) : List Tk := l.filter fun t => t.k != 4
theorem Tok0.good {s : List UInt8} {f : Nat} {l : List Tk} (h : Tok0 s f l) : Tok0 s f (good l) := by
  obtain ⟨⟨l0, g, e, hi⟩, hw, ho⟩ := h;refine ⟨⟨Z.good l0, g, by rw [e]; simp [Z.good], fun t ht => hi t (List.mem_filter.1 ht).1⟩, fun t ht => hw t (List.mem_filter.1 ht).1, ho.filter _⟩
theorem sp_facts : (spW.all fun x => (!leB (x.headD 0) || kwL.contains x) && !diB (x.headD 0)) = true := by decide
theorem bk_facts : (begK.all fun x => leB (x.headD 0) && spW.contains x) = true := by decide
theorem toks_of {s : List UInt8} {l : List Tk} (h : Tok0 s 0 l) (hs : s.length < 1000000) (hl : l.length ≤ 1000000) (hk : ∀ t ∈ l, t.k ≠ 4) : Toks s l (l.length - 1) := by
  obtain ⟨⟨l0, g, e, hi⟩, hw, ho⟩ := h;have hlen : l.length = l0.length + 1 := by rw [e]; simp
  have hlast : l[l.length - 1]? = some ⟨5, g, s.length, s.length⟩ := by rw [hlen, e]; simp
  have mem : ∀ {k : Nat} {t : Tk}, l[k]? = some t → t ∈ l := fun h => List.mem_of_getElem? h
  have nsp : ∀ (t : Tk), t ∈ l → spW.contains (wd s t) = true → t.k = 1 ∨ t.k = 3 := by
    intro t ht hsp;have hf := List.all_eq_true.1 sp_facts _ (List.contains_iff_mem.1 hsp);simp only [Bool.and_eq_true, Bool.or_eq_true, Bool.not_eq_true'] at hf;have w := (hw t ht).1
    have h5 : t.k ≤ 5 := by
      rw [e] at ht;rcases List.mem_append.1 ht with h' | h'
      · have := hi t h'; omega
      · rw [List.mem_singleton] at h'; subst h'; simp
    have h4 := hk t ht
    have c0 : t.k ≠ 0 := fun h0 => by
      obtain ⟨a, b⟩ := w.k0 h0;rcases hf.1 with x | x
      · rw [a] at x; cases x
      · rw [b] at x; cases x
    have c2 : t.k ≠ 2 := fun h0 => by
      obtain ⟨a, b⟩ := w.k2 h0;rw [a] at hf; exact absurd hf.2 (by simp)
    have c5 : t.k ≠ 5 := fun h0 => by
      rw [w.k5 h0] at hsp; exact absurd hsp (by decide)
    omega
  refine ⟨by omega, by omega, hs, ⟨_, hlast, rfl, rfl⟩, fun k t ht => ⟨(hw t (mem ht)).1.ord.1, (hw t (mem ht)).1.ord.2.1⟩, fun i j t u ht hu hij => ?_, fun k t ht hkm => ?_, fun k t ht hsp => nsp t (mem ht) hsp, fun k t ht hp => ?_, fun k t ht hb => ?_⟩
  · have h1 := List.getElem?_eq_some_iff.1 ht
    have h2 := List.getElem?_eq_some_iff.1 hu
    have := List.pairwise_iff_getElem.1 ho i j h1.1 h2.1 hij;rw [h1.2, h2.2] at this; exact this
  · have hm := mem ht
    have : t ∈ l0 := by
      have hk0 : k < l0.length := by omega
      rw [e, List.getElem?_append_left hk0] at ht
      exact List.mem_of_getElem? ht
    have h1 := hi t this;have h2 := hk t hm;omega
  · rcases nsp t (mem ht) (by rw [hp]; decide) with h1 | h3
    · have := (hw t (mem ht)).1.k1 h1;rw [hp] at this; exact absurd this (by decide)
    · exact h3
  · have hf := List.all_eq_true.1 bk_facts _ (List.contains_iff_mem.1 hb);simp only [Bool.and_eq_true] at hf;rcases nsp t (mem ht) hf.2 with h1 | h3
    · exact h1
    · have := ((hw t (mem ht)).1.k3 h3).1;rw [hf.1] at this; cases this
theorem AzT : ∀ (n : Nat) (l : List UInt8) (f : Nat), (scanF n l f).length ≤ n
  | 0, _, _ => Nat.le_refl _
  | n + 1, l, f => by
    simp only [scanF];split
    · simp
    · have := AzT n (((l.drop (skN false l))).drop (tokN (l.drop (skN false l))).2) (f + skN false l + (tokN (l.drop (skN false l))).2);simp only [List.length_cons]; omega
def toksT (s : List UInt8) : List Tk := good (scanT s)
theorem Av6 (s : List UInt8) (hs : s.length < 999999) : Toks s (toksT s) ((toksT s).length - 1) := by
  have h := (Aj2 s (s.length + 1) 0 (by omega) (by omega)).good
  have hl : (scanT s).length ≤ s.length + 1 := AzT (s.length + 1) s 0;refine toks_of h (by omega) ?_ (fun t ht => ?_)
  · exact Nat.le_trans (List.length_filter_le _ _) (by omega)
  · have := (List.mem_filter.1 ht).2;simpa using this
end Go.Abs.Z

namespace Go.Abs.Z
open Go.Proofs Go.RowKit
theorem u8i (c d : UInt8) : (((c.toNat : Nat) : Int) = ((d.toNat : Nat) : Int)) ↔ c = d := by
  refine ⟨fun h => UInt8.toNat_inj.1 (by omega), fun h => by rw [h]⟩
theorem e143 (c : UInt8) : E 143 [.int .u8 ((c.toNat : Nat) : Int)] [] (.bool (whB c)) [] := by
  unfold whB;by_cases h1 : c = 9
  · subst h1; exact r143_1 rfl
  by_cases h2 : c = 10
  · subst h2; exact r143_2 (by decide) rfl
  by_cases h3 : c = 13
  · subst h3; exact r143_3 (by decide) (by decide) rfl
  have e : (((c.toNat : Nat) : Int) == 32) = (c == 32) := by
    by_cases h4 : c = 32
    · subst h4; rfl
    · rw [beq_eq_false_iff_ne.2 h4, beq_eq_false_iff_ne];exact fun h => h4 ((u8i c 32).1 h)
  have := r143_4 (c := c) (fun h => h1 ((u8i c 9).1 h)) (fun h => h2 ((u8i c 10).1 h)) (fun h => h3 ((u8i c 13).1 h))
  rw [e] at this;rw [beq_eq_false_iff_ne.2 h1, beq_eq_false_iff_ne.2 h2, beq_eq_false_iff_ne.2 h3];simpa using this
theorem e145 (c : UInt8) : E 145 [.int .u8 ((c.toNat : Nat) : Int)] [] (.bool (leB c)) [] := by
  unfold leB;by_cases h : 97 ≤ c.toNat
  · have := r145_1 (c := c) (by omega)
    rw [decide_eq_true h, Bool.true_and];have e : decide (((c.toNat : Nat) : Int) ≤ 122) = decide (c.toNat ≤ 122) := by by_cases h2 : c.toNat ≤ 122 <;> simp [h2] <;> omega
    rwa [e] at this
  · rw [decide_eq_false h, Bool.false_and];exact r145_2 (by omega)
theorem e135 (c : UInt8) : E 135 [.int .u8 ((c.toNat : Nat) : Int)] [] (.bool (diB c)) [] := by
  unfold diB;by_cases h : 48 ≤ c.toNat
  · have := r135_1 (c := c) (by omega)
    rw [decide_eq_true h, Bool.true_and];have e : decide (((c.toNat : Nat) : Int) ≤ 57) = decide (c.toNat ≤ 57) := by by_cases h2 : c.toNat ≤ 57 <;> simp [h2] <;> omega
    rwa [e] at this
  · rw [decide_eq_false h, Bool.false_and];exact r135_2 (by omega)
theorem e144 (c : UInt8) : E 144 [.int .u8 ((c.toNat : Nat) : Int)] [] (.bool (c != 10)) [] := by
  have := r144 (c := c)
  have e : (((c.toNat : Nat) : Int) != 10) = (c != 10) := by
    by_cases h : c = 10
    · subst h; rfl
    · rw [bne_iff_ne.2 h, bne_iff_ne]; exact fun x => h ((u8i c 10).1 x)
  rwa [e] at this
theorem e146 (c : UInt8) : E 146 [.int .u8 ((c.toNat : Nat) : Int)] [] (.bool (woB c)) [] := by
  unfold woB;have h1 := e145 c;have h2 := e135 c;cases hl : leB c with
  | true => rw [hl] at h1; exact r146_1 h1
  | false =>
    rw [hl] at h1;cases hd : diB c with
    | true => rw [hd] at h2; exact r146_2 h1 h2
    | false =>
      rw [hd] at h2;have := r146_3 h1 h2
      have e : (((c.toNat : Nat) : Int) == 95) = (c == 95) := by
        by_cases h : c = 95
        · subst h; rfl
        · rw [beq_eq_false_iff_ne.2 h, beq_eq_false_iff_ne]; exact fun x => h ((u8i c 95).1 x)
      rw [e] at this;simpa using this
theorem getc {s : List UInt8} {i : Nat} (h : i < s.length) : ∃ c l, s.drop i = c :: l ∧ s[i]? = some c ∧ s.drop (i + 1) = l := by
  refine ⟨s[i], s.drop (i + 1), List.drop_eq_getElem_cons h, List.getElem?_eq_getElem h, rfl⟩
theorem e134 {g : FuncId} (p : UInt8 → Bool) (pg : pur g = true) (hg : ∀ c : UInt8, E g [.int .u8 ((c.toNat : Nat) : Int)] [] (.bool (p c)) []) (s : List UInt8) (hs : s.length < 1000000) (i : Nat) (hi : i ≤ s.length) :
    E 134 [.str s, N i, .func g [] []] [] (N (i + runL p (s.drop i))) [] := by
  refine r134 ?_
  have key : ∀ (n i : Nat), i ≤ s.length → s.length - i = n → LE BxB BxG [(0, some (.str s)), (1, some (N i)), (2, some (.func g [] []))] [] (.exit 0) [(1, some (N (i + runL p (s.drop i))))] [] := by
    intro n
    induction n with
    | zero =>
      intro i hi hn;have : s.drop i = [] := by rw [List.drop_eq_nil_iff]; omega
      rw [this];exact r134_l0_out1 (by omega)
    | succ n ih =>
      intro i hi hn;obtain ⟨c, l, h1, h2, h3⟩ := getc (s := s) (i := i) (by omega)
      have hc := hg c;rw [h1];cases hp : p c with
      | true =>
        rw [hp] at hc;have := ih (i + 1) (by omega) (by omega)
        rw [h3] at this;have e : runL p (c :: l) = 1 + runL p l := by simp [runL, List.takeWhile_cons, hp]; omega
        rw [e, show i + (1 + runL p l) = i + 1 + runL p l by omega]
        exact BzW (by omega) h2 pg hc (by omega) this
      | false =>
        rw [hp] at hc;have e : runL p (c :: l) = 0 := by simp [runL, List.takeWhile_cons, hp]
        rw [e];exact r134_l0_out2 (by omega) h2 pg hc
  exact key _ i hi rfl
theorem sk_com : ∀ l : List UInt8, skN true l = runL (· != 10) l + skN false (l.drop (runL (· != 10) l))
  | [] => rfl
  | c :: l => by
    by_cases h : c = 10
    · subst h;have : runL (· != 10) ((10 : UInt8) :: l) = 0 := by simp [runL]
      rw [this];simp [skN, whB]
    · have : runL (· != 10) (c :: l) = 1 + runL (· != 10) l := by simp [runL, List.takeWhile_cons, h]; omega
      rw [this, skN, if_neg h, sk_com l, show 1 + runL (· != 10) l = runL (· != 10) l + 1 by omega, List.drop_succ_cons]; omega
theorem e132 (s : List UInt8) (hs : s.length < 1000000) (i : Nat) (hi : i ≤ s.length) : E 132 [.str s, N i] [] (N (i + skN false (s.drop i))) [] := by
  have key : ∀ (n i : Nat), i ≤ s.length → s.length - i ≤ n →
      LE AjX AjZ [(0, some (.str s)), (1, some (N i))] [] (.exit 0) [(1, some (N (i + skN false (s.drop i))))] [] ∨
      LE AjX AjZ [(0, some (.str s)), (1, some (N i))] [] .ret [(4, some (N (i + skN false (s.drop i))))] [] := by
    intro n
    induction n with
    | zero =>
      intro i hi hn;have : s.drop i = [] := by rw [List.drop_eq_nil_iff]; omega
      rw [this];exact .inl (AvL (by omega))
    | succ n ih =>
      intro i hi hn;rcases Nat.lt_or_ge i s.length with hlt | hge
      · obtain ⟨c, l, h1, h2, h3⟩ := getc hlt;have hc := e143 c;rw [h1];cases hw : whB c with
        | true =>
          rw [hw] at hc;have e : i + skN false (c :: l) = i + 1 + skN false (s.drop (i + 1)) := by rw [h3, skN, if_pos hw]; omega
          rw [e];rcases ih (i + 1) (by omega) (by omega) with h | h
          · exact .inl (AkH (by omega) h2 hc (by omega) h)
          · exact .inr (AkH (by omega) h2 hc (by omega) h)
        | false =>
          rw [hw] at hc;by_cases h35 : c = 35
          · subst h35;have h134 := e134 (· != 10) rfl e144 s hs i hi;have hr : runL (· != 10) (s.drop i) = 1 + runL (· != 10) l := by rw [h1]; simp [runL, List.takeWhile_cons]; omega
            have hle := AzO (· != 10) l;have hll : l.length = s.length - (i + 1) := by rw [← h3, List.length_drop]
            have e : i + skN false ((35 : UInt8) :: l) = i + runL (· != 10) (s.drop i) + skN false (s.drop (i + runL (· != 10) (s.drop i))) := by
              rw [hr, skN, if_neg (by rw [hw]; simp), if_pos rfl, sk_com, ← h3, List.drop_drop, h3]
              rw [show i + 1 + runL (fun x => x != 10) l = i + (1 + runL (fun x => x != 10) l) by omega]; omega
            rw [e];rcases ih (i + runL (· != 10) (s.drop i)) (by omega) (by omega) with h | h
            · exact .inl (AkG (by omega) h2 hc rfl h134 h)
            · exact .inr (AkG (by omega) h2 hc rfl h134 h)
          · have e : skN false (c :: l) = 0 := by rw [skN, if_neg (by rw [hw]; simp), if_neg h35]
            rw [e];exact .inr (r132_l0_out2 (by omega) h2 hc (fun h => h35 ((u8i c 35).1 h)))
      · have : s.drop i = [] := by rw [List.drop_eq_nil_iff]; omega
        rw [this];exact .inl (AvL (by omega))
  rcases key _ i hi (Nat.le_refl _) with h | h
  · exact r132_1 h
  · exact r132_2 h
theorem sy148 (s : List UInt8) (i : Nat) {c : UInt8} (hc : s[i]? = some c) : ∀ (n j : Nat), j + n = 18 → (∀ k d, k < j → symL[k]? = some d → d ≠ c) →
    (symL.contains c = false ∧ LE AzL AzM [(0, some (.str s)), (1, some (N i)), (44, some (.slice false 1 (symL.map by8))), (45, some (I 18)), (46, some (N j))] [] (.exit 0) [(0, some (.str s)), (1, some (N i)), (44, some (.slice false 1 (symL.map by8)))] []) ∨
    (symL.contains c = true ∧ LE AzL AzM [(0, some (.str s)), (1, some (N i)), (44, some (.slice false 1 (symL.map by8))), (45, some (I 18)), (46, some (N j))] [] .ret [(4, some (I 1))] []) := by
  have hlen : symL.length = 18 := rfl;intro n
  induction n with
  | zero =>
    intro j hj h;refine .inl ⟨?_, r148_l0_out1 (by omega)⟩
    rw [← Bool.not_eq_true, List.contains_iff_mem, List.mem_iff_getElem?]
    rintro ⟨k, hk⟩
    have := (List.getElem?_eq_some_iff.1 hk).1
    exact h k c (by omega) hk rfl
  | succ n ih =>
    intro j hj h;have hlt : j < symL.length := by omega
    have hg := List.getElem?_eq_getElem hlt
    by_cases hx : c = symL[j]
    · refine .inr ⟨?_, r148_l0_out2 (by omega) hg hc ((u8i _ _).2 hx)⟩
      rw [List.contains_iff_mem, hx]; exact List.getElem_mem hlt
    · rcases ih (j + 1) (by omega) (fun k d hk hd => by
        rcases Nat.lt_or_ge k j with h' | h'
        · exact h k d h' hd
        · have : k = j := by omega
          subst this; rw [hg] at hd; cases hd; exact fun e => hx e.symm) with ⟨h1, h2⟩ | ⟨h1, h2⟩
      · exact .inl ⟨h1, AkE (by omega) hg hc (fun e => hx ((u8i _ _).1 e)) (by omega) h2⟩
      · exact .inr ⟨h1, AkE (by omega) hg hc (fun e => hx ((u8i _ _).1 e)) (by omega) h2⟩
theorem e148 (s : List UInt8) (hs : s.length < 1000000) (i : Nat) (hi : i < s.length) : E 148 [.str s, N i] [] (N (symN (s.drop i))) [] := by
  obtain ⟨c, l, h1, h2, h3⟩ := getc hi;have hsy := sy148 s i h2 18 0 rfl (fun k d hk => by omega)
  rw [h1]
  have fin : ∀ {r : Nat}, (r = if symL.contains c then 1 else 0) → (∀ (L : LE AzL AzM [(0, some (.str s)), (1, some (N i)), (44, some (.slice false 1 (symL.map by8))), (45, some (I 18)), (46, some (I 0))] [] (.exit 0) [(0, some (.str s)), (1, some (N i)), (44, some (.slice false 1 (symL.map by8)))] []), E 148 [.str s, N i] [] (I 0) []) →
      (∀ (L : LE AzL AzM [(0, some (.str s)), (1, some (N i)), (44, some (.slice false 1 (symL.map by8))), (45, some (I 18)), (46, some (I 0))] [] .ret [(4, some (I 1))] []), E 148 [.str s, N i] [] (I 1) []) → E 148 [.str s, N i] [] (N r) [] := by
    intro r hr f1 f2;rcases hsy with ⟨a1, a2⟩ | ⟨a1, a2⟩
    · rw [hr, a1]; exact f1 a2
    · rw [hr, a1]; exact f2 a2
  rcases Nat.lt_or_ge (i + 1) s.length with hlt | hge
  · obtain ⟨d, l', g1, g2, g3⟩ := getc hlt;rw [h3] at g1;have hh : l.head? = some d := by rw [g1]; rfl
    by_cases hd : d = 61
    · subst hd;have two : c = 61 ∨ c = 33 ∨ c = 60 ∨ c = 62 → symN (c :: l) = 2 := fun h => by rw [symN, if_pos ⟨hh, h⟩]
      by_cases c1 : c = 61
      · rw [two (.inl c1)]; subst c1; exact r148_3 (by omega) (by omega) g2 rfl h2 rfl
      by_cases c2 : c = 33
      · rw [two (.inr (.inl c2))]; subst c2; exact r148_6 (by omega) (by omega) g2 rfl h2 (by decide) rfl
      by_cases c3 : c = 60
      · rw [two (.inr (.inr (.inl c3)))]; subst c3; exact r148_7 (by omega) (by omega) g2 rfl h2 (by decide) (by decide) rfl
      by_cases c4 : c = 62
      · rw [two (.inr (.inr (.inr c4)))]; subst c4; exact r148_8 (by omega) (by omega) g2 rfl h2 (by decide) (by decide) (by decide) rfl
      have n1 : ((c.toNat : Nat) : Int) ≠ 61 := fun h => c1 ((u8i c 61).1 h)
      have n2 : ((c.toNat : Nat) : Int) ≠ 33 := fun h => c2 ((u8i c 33).1 h)
      have n3 : ((c.toNat : Nat) : Int) ≠ 60 := fun h => c3 ((u8i c 60).1 h)
      have n4 : ((c.toNat : Nat) : Int) ≠ 62 := fun h => c4 ((u8i c 62).1 h)
      exact fin (by rw [symN, if_neg (by simp [c1, c2, c3, c4])]) (fun L => r148_9 (by omega) (by omega) g2 rfl h2 n1 n2 n3 n4 L) (fun L => r148_10 (by omega) (by omega) g2 rfl h2 n1 n2 n3 n4 L)
    · have nd : ((d.toNat : Nat) : Int) ≠ 61 := fun h => hd ((u8i d 61).1 h)
      exact fin (by rw [symN, if_neg (by rw [hh]; intro h; exact hd (Option.some.inj h.1))]) (fun L => r148_4 (by omega) (by omega) g2 nd L) (fun L => r148_5 (by omega) (by omega) g2 nd L)
  · have hl : l = [] := by rw [← h3, List.drop_eq_nil_iff]; omega
    subst hl;exact fin (by rw [symN, if_neg (by simp)]) (fun L => r148_1 (by omega) (by omega) L) (fun L => r148_2 (by omega) (by omega) L)
theorem e147 (w : List UInt8) : E 147 [.str w] [] (.bool (kwL.contains w)) [] := by
  refine r147 ?_
  have hf : ∀ ks : List (List UInt8), findKey (.s w) (ks.map Ky.s) (ks.map fun _ => PV.bool true) = if ks.contains w then some (.bool true) else none := by
    intro ks
    induction ks with
    | nil => rfl
    | cons a ks ih =>
      simp only [List.map_cons, findKey, Ky.s.injEq];by_cases h : a = w
      · subst h; simp
      · rw [if_neg h, ih];have : (w == a) = false := by rw [beq_eq_false_iff_ne]; exact fun e => h e.symm
        rw [List.contains_cons, this, Bool.false_or]
  show (lookV (.bool false) false false kwMap (.str w)).map (fun v => [some v]) = _
  have hall : (kwL.map Ky.s).all (sameKind (.s w)) = true := rfl;unfold kwMap lookV;simp only [kyOf, hall, Ky.isInt, and_self, if_true, hf];cases kwL.contains w <;> rfl
theorem wr133 (s : List UInt8) (hs : s.length < 1000000) : ∀ (n i : Nat), i ≤ s.length → s.length - i = n → LE AjW AjY [(0, some (.str s)), (8, some (N i))] [] (.exit 1) [(0, some (.str s)), (8, some (N (i + wrN (s.drop i))))] [] := by
  intro n
  induction n with
  | zero =>
    intro i hi hn;have : s.drop i = [] := by rw [List.drop_eq_nil_iff]; omega
    rw [this];exact r133_l0_out1 (by omega)
  | succ n ih =>
    intro i hi hn;obtain ⟨c, l, h1, h2, h3⟩ := getc (s := s) (i := i) (by omega)
    have a1 := e143 c;have a2 := e145 c;have a3 := e135 c;have a4 := e148 s hs i (by omega)
    rw [h1] at a4 ⊢;have stop : stopB c l = true → wrN (c :: l) = 0 := fun h => by rw [wrN, if_pos h]
    cases hw : whB c with
    | true => rw [hw] at a1; rw [stop (by simp [stopB, hw])]; exact r133_l0_out2 (by omega) h2 a1
    | false =>
      rw [hw] at a1;by_cases h35 : c = 35
      · rw [stop (by simp [stopB, h35])]; subst h35; exact r133_l0_out3 (by omega) h2 a1 rfl
      have n35 : ((c.toNat : Nat) : Int) ≠ 35 := fun h => h35 ((u8i c 35).1 h)
      cases hl : leB c with
      | true => rw [hl] at a2; rw [stop (by simp [stopB, hl])]; exact r133_l0_out4 (by omega) h2 a1 n35 a2
      | false =>
        rw [hl] at a2;cases hd : diB c with
        | true => rw [hd] at a3; rw [stop (by simp [stopB, hd])]; exact r133_l0_out5 (by omega) h2 a1 n35 a2 a3
        | false =>
          rw [hd] at a3;by_cases hy : symN (c :: l) = 0
          · have e : wrN (c :: l) = 1 + wrN l := by rw [wrN, if_neg]; simp [stopB, hw, h35, hl, hd, hy]
            have := ih (i + 1) (by omega) (by omega)
            rw [h3] at this;rw [e, show i + (1 + wrN l) = i + 1 + wrN l by omega]
            exact BzX (by omega) h2 a1 n35 a2 a3 a4 (by omega) (by omega) this
          · rw [stop (by simp [stopB, hy])]
            exact r133_l0_out6 (by omega) h2 a1 n35 a2 a3 a4 (by omega)
theorem tokN_le {l : List UInt8} (h : l ≠ []) : 0 < (tokN l).2 ∧ (tokN l).2 ≤ l.length := by
  cases l with
  | nil => exact absurd rfl h
  | cons c l =>
    unfold tokN;simp only [List.headD_cons, List.tail_cons];by_cases hl : leB c = true
    · simp only [hl, if_true];refine ⟨?_, AzO _ _⟩
      have : woB c = true := by simp [woB, hl]
      simp [runL, this]
    · by_cases hd : diB c = true
      · simp only [hl, hd, if_true, Bool.false_eq_true, if_false];refine ⟨?_, AzO _ _⟩
        simp [runL, hd]
      · by_cases hs : 0 < symN (c :: l)
        · simp only [hl, hd, hs, if_true, Bool.false_eq_true, if_false]; exact ⟨trivial, Bz4 _⟩
        · have := wrN_le l;simp only [hl, hd, hs, Bool.false_eq_true, if_false, List.length_cons]; omega
theorem e133 (s : List UInt8) (hs : s.length < 1000000) (i : Nat) (hi : i < s.length) : E 133 [.str s, N i] [] (.tuple [N (tokN (s.drop i)).1, N (i + (tokN (s.drop i)).2)]) [] := by
  obtain ⟨c, l, h1, h2, h3⟩ := getc hi;have a2 := e145 c;have a3 := e135 c;unfold tokN;have hh : (s.drop i).headD 0 = c := by rw [h1]; rfl
  have ht : (s.drop i).tail = l := by rw [h1]; rfl
  rw [hh, ht];cases hl : leB c with
  | true =>
    rw [hl] at a2;have a4 := e134 woB rfl e146 s hs i (by omega)
    have hle := AzO woB (s.drop i);rw [List.length_drop] at hle;have a5 := p_ssl s i (i + runL woB (s.drop i)) (by omega) (by omega)
    rw [show i + runL woB (s.drop i) - i = runL woB (s.drop i) by omega] at a5
    have a6 := e147 ((s.drop i).take (runL woB (s.drop i)));simp only [if_true];cases hk : kwL.contains ((s.drop i).take (runL woB (s.drop i))) with
    | true => rw [hk] at a6; exact r133_1 h2 a2 a4 a5 a6
    | false => rw [hk] at a6; exact r133_2 h2 a2 a4 a5 a6
  | false =>
    rw [hl] at a2;simp only [Bool.false_eq_true, if_false];cases hd : diB c with
    | true =>
      rw [hd] at a3;simp only [if_true];exact r133_3 h2 a2 a3 (e134 diB rfl e135 s hs i (by omega))
    | false =>
      rw [hd] at a3;simp only [Bool.false_eq_true, if_false];have a4 := e148 s hs i hi;have := Bz4 (s.drop i);rw [List.length_drop] at this;by_cases hy : 0 < symN (s.drop i)
      · rw [if_pos hy]; exact r133_4 h2 a2 a3 a4 (by omega) (by omega) (by omega)
      · rw [if_neg hy];have a5 := wr133 s hs _ (i + 1) (by omega) rfl
        rw [h3] at a5;have := r133_5 h2 a2 a3 a4 (by omega) (by omega) a5
        rwa [show i + 1 + wrN l = i + (1 + wrN l) by omega] at this
theorem sc97 (s : List UInt8) (hs : s.length < 1000000) : ∀ (n f : Nat) (tl : List Tk), f ≤ s.length → s.length - f < n → tl.length + n ≤ 2000000 →
    LE m97_0 l97_0 [(0, some (.str s)), (4, some (accP 4 (tl.map Tk.pv))), (5, some (N f))] [] .ret [(2, some (accP 4 ((tl ++ scanF n (s.drop f) f).map Tk.pv))), (3, some (I 0))] []
  | 0, f, tl, _, h, _ => by omega
  | n + 1, f, tl, hf, h, hn => by
    have a1 := e132 s hs f hf;have hk := AvJ false (s.drop f);rw [List.length_drop] at hk;have hm : (tl.map Tk.pv).length + 1 ≤ AqE := by rw [List.length_map]; unfold AqE; omega
    rw [scanF];by_cases he : (s.drop f).drop (skN false (s.drop f)) = []
    · simp only [he, if_true, List.map_append];rw [List.drop_drop, List.drop_eq_nil_iff] at he;exact r97_l0_out1 (m2 := f + skN false (s.drop f)) a1 (by omega) hm
    · simp only [he, if_false];rw [List.drop_drop] at he
      have hlt : f + skN false (s.drop f) < s.length := by
        rcases Nat.lt_or_ge (f + skN false (s.drop f)) s.length with h' | h'
        · exact h'
        · exact absurd (List.drop_eq_nil_iff.2 (by omega)) he
      have a2 := e133 s hs (f + skN false (s.drop f)) hlt;have ht := tokN_le he;rw [List.length_drop] at ht;have := sc97 s hs n (f + skN false (s.drop f) + (tokN (s.drop (f + skN false (s.drop f)))).2) (tl ++ [⟨(tokN (s.drop (f + skN false (s.drop f)))).1, f, f + skN false (s.drop f), f + skN false (s.drop f) + (tokN (s.drop (f + skN false (s.drop f)))).2⟩]) (by omega) (by omega) (by simp; omega)
      rw [List.append_assoc, List.map_append (l₁ := tl) (l₂ := [_])] at this;simp only [List.drop_drop];exact Bk0 a1 (by omega) a2 hm this
theorem scanF_ne (n : Nat) (l : List UInt8) (f : Nat) : scanF (n + 1) l f ≠ [] := by
  simp only [scanF]; split <;> simp
theorem e97 (s : List UInt8) (hs : s.length ≤ 4096) : E 97 [.str s] [] (.tuple [.slice false 4 ((scanT s).map Tk.pv), I 0]) [] := by
  have h0 := sc97 s (by omega) (s.length + 1) 0 [] (by omega) (by omega) (by simp; omega)
  have h1 := r97_2 (by omega) h0
  have e : accD 4 (([] ++ scanF (s.length + 1) (s.drop 0) 0).map Tk.pv) = .slice false 4 ((scanT s).map Tk.pv) := by
    show accD 4 ((scanT s).map Tk.pv) = _;cases hc : scanT s with
    | nil => exact absurd hc (scanF_ne _ _ _)
    | cons t ts => rfl
  rwa [e] at h1
end Go.Abs.Z
