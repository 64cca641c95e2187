/- A part of the proof: K9 K10 K11 K13. -/
import Derived.Test.YtakhbjefcjmelaaGreatDoorWc
import Derived.Test.YtakhbjefcjmelaaGreatDoorDa
import Derived.Lib.ItoaLen
import Derived.Test.YtakhbjefcjmelaaGreatDoorWd

set_option linter.unusedVariables false
set_option linter.unusedSimpArgs false
namespace Go.Abs.Z
open Go.Proofs Go.RowKit
set_option linter.unusedVariables false
def vB (n : Nat) : Int → List Hg → Bool
  | _, [] => true
  | last, h :: l => if h.fr ≤ last ∨ h.fr > h.to ∨ h.to > ((n + 1 : Nat) : Int) then false else vB n h.to l
theorem vB_drop {n : Nat} {last : Int} {l : List Hg} {i : Nat} {f t : Int} {v : PV} {w : List Str} {ok : RowS v w} (h : i < l.length) (hg : l[i]? = some ⟨f, t, v, w, ok⟩) :
    vB n last (l.drop i) = if f ≤ last ∨ f > t ∨ t > ((n + 1 : Nat) : Int) then false else vB n t (l.drop (i + 1)) := by
  rw [List.drop_eq_getElem_cons h]
  have : l[i] = ⟨f, t, v, w, ok⟩ := by rw [List.getElem?_eq_getElem h] at hg; exact Option.some.inj hg
  rw [this]; rfl
theorem hg_get {l : List Hg} {i : Nat} (h : i < l.length) : ∃ f t v w, ∃ ok : RowS v w, l[i]? = some ⟨f, t, v, w, ok⟩ :=
  ⟨l[i].fr, l[i].to, l[i].nv, l[i].nw, l[i].ok, List.getElem?_eq_getElem h⟩
theorem vld_loop {d : PV} {l : List Hg} {n : Nat} (hd : RowG d l) (hn : n < 4000000000) (hl : l.length < 4000000000) : ∀ (k i : Nat) (last : Int), l.length - i = k → i ≤ l.length →
    (vB n last (l.drop i) = true ∧ LE m20_0 l20_0 [(0, some (N n)), (5, some (I last)), (8, some d), (9, some (N l.length)), (10, some (N i))] [] (.exit 0) [(8, some d)] []) ∨
    (vB n last (l.drop i) = false ∧ LE m20_0 l20_0 [(0, some (N n)), (5, some (I last)), (8, some d), (9, some (N l.length)), (10, some (N i))] [] .ret [(4, some (.bool false))] [])
  | 0, i, last, hk, hi => .inl ⟨by rw [List.drop_eq_nil_of_le (by omega)]; rfl, g21_l0_out1 hd (by omega)⟩
  | k + 1, i, last, hk, hi => by
    have hlt : i < l.length := by omega
    obtain ⟨f, t, v, w, ok, hg⟩ := hg_get hlt
    rw [vB_drop hlt hg]
    by_cases h1 : f ≤ last
    · exact .inr ⟨if_pos (.inl h1), g21_l0_out2 hd (by omega) ok hg h1⟩
    by_cases h2 : f > t
    · exact .inr ⟨if_pos (.inr (.inl h2)), g21_l0_out3 hd (by omega) ok hg h1 h2⟩
    by_cases h3 : t > ((n + 1 : Nat) : Int)
    · exact .inr ⟨if_pos (.inr (.inr h3)), g21_l0_out4 hd (by omega) ok hg h1 h2 (by omega) h3⟩
    have hno : ¬ (f ≤ last ∨ f > t ∨ t > ((n + 1 : Nat) : Int)) := by
      rintro (h | h | h)
      · exact h1 h
      · exact h2 h
      · exact h3 h
    rw [if_neg hno]
    rcases vld_loop hd hn hl k (i + 1) t (by omega) (by omega) with ⟨q1, q2⟩ | ⟨q1, q2⟩
    · exact .inl ⟨q1, g21_l0_next1 hd (by omega) ok hg h1 h2 (by omega) h3 (by omega) q2⟩
    · exact .inr ⟨q1, g21_l0_next1 hd (by omega) ok hg h1 h2 (by omega) h3 (by omega) q2⟩
theorem eg21 {d : PV} {l : List Hg} {n : Nat} (hd : RowG d l) (hn : n < 4000000000) (hl : l.length < 4000000000) : E 20 [N n, d] [] (.bool (vB n 0 l)) [] := by
  rcases vld_loop hd hn hl l.length 0 0 (by omega) (by omega) with ⟨q1, q2⟩ | ⟨q1, q2⟩
  · rw [List.drop_zero] at q1
    rw [q1]; exact g21_1 hd q2
  · rw [List.drop_zero] at q1
    rw [q1]; exact g21_2 hd q2
theorem fit_loop {d : PV} {l : List Hg} {ws : List Str} (hd : RowG d l) (hn : ws.length < 4000000000) (hl : l.length < 4000000000) : ∀ (k i : Nat) (last : Int), l.length - i = k → i ≤ l.length →
    ((i = 0 ∧ last = 0) ∨ (0 < i ∧ 1 ≤ last ∧ ∃ f v w, ∃ ok : RowS v w, l[i - 1]? = some ⟨f, last, v, w, ok⟩)) →
    (vB ws.length last (l.drop i) = true ∧ LE m22_0 l22_0 [(1, some d), (5, some (N ws.length)), (6, some (N i))] [] (.exit 0) [] []) ∨
    (vB ws.length last (l.drop i) = false ∧ LE m22_0 l22_0 [(1, some d), (5, some (N ws.length)), (6, some (N i))] [] .ret [(4, some (.bool false))] [])
  | 0, i, last, hk, hi, _ => .inl ⟨by rw [List.drop_eq_nil_of_le (by omega)]; rfl, g8_l0_out1 hd (by omega)⟩
  | k + 1, i, last, hk, hi, hla => by
    have hlt : i < l.length := by omega
    obtain ⟨f, t, v, w, ok, hg⟩ := hg_get hlt
    rw [vB_drop hlt hg]
    by_cases h1 : f < 1
    · exact .inr ⟨if_pos (.inl (by omega)), g8_l0_out2 hd (by omega) ok hg h1⟩
    by_cases h2 : t < f
    · exact .inr ⟨if_pos (.inr (.inl h2)), g8_l0_out3 hd (by omega) ok hg h1 h2⟩
    by_cases h3 : t > ((ws.length + 1 : Nat) : Int)
    · exact .inr ⟨if_pos (.inr (.inr h3)), g8_l0_out4 hd (by omega) ok hg h1 h2 (by omega) h3⟩
    have rest := fit_loop hd hn hl k (i + 1) t (by omega) (by omega) (.inr ⟨by omega, by omega, f, v, w, ok, by rw [Nat.add_sub_cancel]; exact hg⟩)
    rcases hla with ⟨rfl, rfl⟩ | ⟨h0, h0', f0, v0, w0, ok0, hg0⟩
    · have hno : ¬ (f ≤ 0 ∨ f > t ∨ t > ((ws.length + 1 : Nat) : Int)) := by omega
      rw [if_neg hno]
      rcases rest with ⟨q1, q2⟩ | ⟨q1, q2⟩
      · exact .inl ⟨q1, g8_l0_next1 hd (by omega) ok hg h1 h2 (by omega) h3 (by omega) (by omega) q2⟩
      · exact .inr ⟨q1, g8_l0_next1 hd (by omega) ok hg h1 h2 (by omega) h3 (by omega) (by omega) q2⟩
    · by_cases h4 : f ≤ last
      · exact .inr ⟨if_pos (.inl h4), g8_l0_out5 hd (by omega) ok hg h1 h2 (by omega) h3 (by omega) (by omega) (by omega) ok0 hg0 h4⟩
      have hno : ¬ (f ≤ last ∨ f > t ∨ t > ((ws.length + 1 : Nat) : Int)) := by omega
      rw [if_neg hno]
      rcases rest with ⟨q1, q2⟩ | ⟨q1, q2⟩
      · exact .inl ⟨q1, g8_l0_next2 hd (by omega) ok hg h1 h2 (by omega) h3 (by omega) (by omega) (by omega) ok0 hg0 h4 q2⟩
      · exact .inr ⟨q1, g8_l0_next2 hd (by omega) ok hg h1 h2 (by omega) h3 (by omega) (by omega) (by omega) ok0 hg0 h4 q2⟩
theorem eg8 {d : PV} {l : List Hg} {s : Str} (hd : RowG d l) (hs : s.length < 4000000000) (hn : (lnA [] s).length < 4000000000) (hl : l.length < 4000000000) : E 22 [.str s, d] [] (.bool (vB (lnA [] s).length 0 l)) [] := by
  rcases fit_loop (ws := lnA [] s) hd hn hl l.length 0 0 (by omega) (by omega) (.inl ⟨rfl, rfl⟩) with ⟨q1, q2⟩ | ⟨q1, q2⟩
  · rw [List.drop_zero] at q1
    rw [q1]; exact g8_1 hd (e9 s hs) q2
  · rw [List.drop_zero] at q1
    rw [q1]; exact g8_2 hd (e9 s hs) q2
def nOf (h : Hg) : Hn := ⟨h.fr.toNat, h.to.toNat, h.nv, h.nw, h.ok⟩
def vN (n : Nat) : Nat → List Hn → Prop
  | _, [] => True
  | last, h :: l => last < h.fr ∧ h.fr ≤ h.to ∧ h.to ≤ n + 1 ∧ vN n h.to l
theorem vB_nat {n : Nat} : ∀ {last : Nat} {l : List Hg}, vB n last l = true → l = (l.map nOf).map Hn.g ∧ vN n last (l.map nOf)
  | last, [], _ => ⟨rfl, trivial⟩
  | last, h :: l, hv => by
    unfold vB at hv
    split at hv
    · cases hv
    · rename_i hno
      have e1 : ((h.to.toNat : Nat) : Int) = h.to := by omega
      have e2 : ((h.fr.toNat : Nat) : Int) = h.fr := by omega
      rw [← e1] at hv
      obtain ⟨q1, q2⟩ := vB_nat hv
      refine ⟨?_, by show last < h.fr.toNat; omega, by show h.fr.toNat ≤ h.to.toNat; omega, by show h.to.toNat ≤ n + 1; omega, q2⟩
      rw [List.map_cons, List.map_cons, ← q1]
      congr 1
      show h = ⟨((h.fr.toNat : Nat) : Int), ((h.to.toNat : Nat) : Int), h.nv, h.nw, h.ok⟩
      obtain ⟨f, t, v, w, ok⟩ := h
      simp only at e1 e2
      simp only [e1, e2]
end Go.Abs.Z

namespace Go.Abs.Z
open Go.Proofs Go.RowKit
set_option linter.unusedVariables false
def wrM (m : Str) (l : List Str) : Str := l.flatMap fun s => (m ++ s) ++ [10]
theorem wrM_drop (m : Str) (l : List Str) (i : Nat) (h : i < l.length) : wrM m (l.drop i) = ((m ++ l[i]) ++ [10]) ++ wrM m (l.drop (i + 1)) := by
  rw [List.drop_eq_getElem_cons h]; rfl
theorem wrM_len : ∀ (m : Str) (l : List Str), l.length ≤ (wrM m l).length
  | m, [] => Nat.le_refl _
  | m, x :: l => by
    show l.length + 1 ≤ (((m ++ x) ++ [10]) ++ wrM m l).length
    have := wrM_len m l
    simp; omega
theorem wr_loop {v : PV} {l : List Str} {mk : Str} (hv : RowS v l) (hl : l.length < 4000000000) (hm : mk.length ≤ 10) (σ : Sto) : ∀ (k i : Nat) (bs : Str), l.length - i = k → i ≤ l.length → bs.length + (wrM mk (l.drop i)).length ≤ 4000000000 →
    LE m21_0 l21_0 [(0, some (.str mk)), (5, some (.ref σ.length 0)), (8, some v), (9, some (N l.length)), (10, some (N i))] (σ ++ [[.bld 93 5 bs]]) (.exit 0) [(5, some (.ref σ.length 0)), (8, some v)] (σ ++ [[.bld 93 5 (bs ++ wrM mk (l.drop i))]])
  | 0, i, bs, hk, hi, hb => by
    have e : l.drop i = [] := List.drop_eq_nil_of_le (by omega)
    rw [e]
    show LE m21_0 l21_0 _ _ _ _ (σ ++ [[.bld 93 5 (bs ++ [])]])
    rw [List.append_nil]
    exact r22_l0_out1 hv (by omega)
  | k + 1, i, bs, hk, hi, hb => by
    have hlt : i < l.length := by omega
    rw [wrM_drop mk l i hlt] at hb ⊢
    simp only [List.length_append, List.length_cons, List.length_nil] at hb
    have ih := wr_loop hv hl hm σ k (i + 1) (bs ++ ((mk ++ l[i]) ++ [10])) (by omega) (by omega) (by simp only [List.length_append, List.length_cons, List.length_nil]; omega)
    rw [List.append_assoc bs] at ih
    have h47 := e47 σ bs ((mk ++ l[i]) ++ [10]) (by simp only [List.length_append, List.length_cons, List.length_nil]; omega)
    exact r22_l0_next1 hv (by omega) (List.getElem?_eq_getElem hlt) (by simp only [maxStr]; omega) (by simp only [maxStr, List.length_append, List.length_cons, List.length_nil]; omega) h47 (by omega) ih
theorem em22 {v : PV} {l : List Str} (mk : Str) (hv : RowS v l) (hm : mk.length ≤ 10) (h : (wrM mk l).length < 4000000000) : ∃ σ', E 21 [.str mk, v] [] (.str (wrM mk l)) σ' := by
  have hj := wrM_len mk l
  have h0 := wr_loop (mk := mk) hv (by omega) hm [] l.length 0 [] (by omega) (by omega) (by simpa using Nat.le_of_lt h)
  simp only [List.drop_zero, List.nil_append] at h0
  exact ⟨_, r22 hv h0 (e48 [] (wrM mk l))⟩
theorem vN_drop {n last : Nat} {l : List Hn} {i : Nat} (h : i < l.length) (hv : vN n last (l.drop i)) : last < l[i].fr ∧ l[i].fr ≤ l[i].to ∧ l[i].to ≤ n + 1 ∧ vN n l[i].to (l.drop (i + 1)) := by
  rw [List.drop_eq_getElem_cons h] at hv
  exact hv
theorem hn_get {l : List Hn} {i : Nat} (h : i < l.length) : l[i]? = some ⟨l[i].fr, l[i].to, l[i].nv, l[i].nw, l[i].ok⟩ := List.getElem?_eq_getElem h
def patN (X : List Str) : Nat → List Hn → List Str
  | at', [] => X.drop at'
  | at', h :: l => (X.drop at').take (h.fr - 1 - at') ++ h.nw ++ patN X (h.to - 1) l
theorem patN_drop (X : List Str) (at' : Nat) (l : List Hn) (i : Nat) (h : i < l.length) : patN X at' (l.drop i) = (X.drop at').take (l[i].fr - 1 - at') ++ l[i].nw ++ patN X (l[i].to - 1) (l.drop (i + 1)) := by
  rw [List.drop_eq_getElem_cons h]; rfl
theorem ptn_loop {d v : PV} {l : List Hn} {X : List Str} (hd : RowN d l) (hX : RowS v X) (hn : X.length < 4000000000) (hl : l.length < 4000000000) : ∀ (k i last : Nat) (s : Str), l.length - i = k → i ≤ l.length → last ≤ X.length + 1 → vN X.length last (l.drop i) → s.length + (joinL (patN X (last - 1) (l.drop i))).length < 4000000000 →
    ∃ (s' : Str) (m' : Nat), m' ≤ X.length ∧ s ++ joinL (patN X (last - 1) (l.drop i)) = s' ++ joinL (X.drop m') ∧
    LE m6_0 l6_0 [(6, some v), (7, some (.str s)), (8, some (N (last - 1))), (18, some d), (19, some (N l.length)), (20, some (N i))] [] (.exit 0) [(6, some v), (7, some (.str s')), (8, some (N m')), (18, some d)] []
  | 0, i, last, s, hk, hi, hla, hv, hb => by
    have e : l.drop i = [] := List.drop_eq_nil_of_le (by omega)
    rw [e]
    exact ⟨s, last - 1, by omega, rfl, n7_l0_out1 hd hX (by omega)⟩
  | k + 1, i, last, s, hk, hi, hla, hv, hb => by
    have hlt : i < l.length := by omega
    obtain ⟨v1, v2, v3, v4⟩ := vN_drop hlt hv
    rw [patN_drop X (last - 1) l i hlt] at hb ⊢
    rw [joinL_append, joinL_append] at hb ⊢
    simp only [List.length_append] at hb
    obtain ⟨w, hw1, hw2⟩ := row_vsl hX (a := last - 1) (b := l[i].fr - 1) (by omega) (by omega)
    obtain ⟨σ1, h22⟩ := e22 hw2 (by omega)
    obtain ⟨σ2, h23⟩ := e22 l[i].ok (by omega)
    obtain ⟨s', m', q1, q2, q3⟩ := ptn_loop hd hX hn hl k (i + 1) l[i].to (s ++ (joinL ((X.drop (last - 1)).take (l[i].fr - 1 - (last - 1))) ++ joinL l[i].nw)) (by omega) (by omega) v3 v4 (by simp only [List.length_append]; omega)
    refine ⟨s', m', q1, by rw [← q2]; simp, n7_l0_next1 hd hX (by omega) l[i].ok (hn_get hlt) (by omega) (by omega) hw2 hw1 h22 h23 (by simp only [maxStr]; omega) (by simp only [maxStr, List.length_append]; omega) (by omega) (by omega) (by omega) q3⟩
theorem en7 {d : PV} {l : List Hn} {s : Str} (hd : RowN d l) (hs : s.length < 4000000000) (hn : (lnA [] s).length < 4000000000) (hl : l.length < 4000000000) (hv : vN (lnA [] s).length 0 l) (hv2 : E 20 [N (lnA [] s).length, d] [] (.bool true) []) (hb : (joinL (patN (lnA [] s) 0 l)).length < 4000000000) :
    E 6 [.str s, d] [] (.tuple [.str (joinL (patN (lnA [] s) 0 l)), I 0]) [] := by
  obtain ⟨v, σ, hX, h19⟩ := e19 s hs
  obtain ⟨s', m', q1, q2, q3⟩ := ptn_loop hd hX hn hl l.length 0 0 [] (by omega) (by omega) (by omega) hv (by simpa using hb)
  simp only [List.drop_zero, List.nil_append, Nat.zero_sub] at q2
  rw [q2] at hb ⊢
  simp only [List.length_append] at hb
  obtain ⟨w, hw1, hw2⟩ := row_vsl1 hX q1
  obtain ⟨σ1, h22⟩ := e22 hw2 (by omega)
  exact n7 hd hX h19 hv2 q3 hw2 hw1 h22 (by simp only [maxStr]; omega)
abbrev dec (n : Nat) : Str := Lib.itoa (n : Int)
theorem dec_len (n : Nat) (h : n < 4000000000) : (dec n).length ≤ 21 := Lib.itoa_length_le _ (by omega) (by omega)
def fmt1 (X : List Str) (h : Hn) : Str := ((((([64, 32] ++ dec h.fr) ++ [32]) ++ dec h.to) ++ [10]) ++ wrM [45, 32] ((X.drop (h.fr - 1)).take (h.to - 1 - (h.fr - 1)))) ++ wrM [43, 32] h.nw
def fmtN (X : List Str) (l : List Hn) : Str := l.flatMap (fmt1 X)
theorem fmtN_drop (X : List Str) (l : List Hn) (i : Nat) (h : i < l.length) : fmtN X (l.drop i) = fmt1 X l[i] ++ fmtN X (l.drop (i + 1)) := by
  rw [List.drop_eq_getElem_cons h]; rfl
theorem fmt_loop {d v : PV} {l : List Hn} {X : List Str} (hit : ∀ n : Nat, n < 4000000000 → ∃ σ', E 23 [N n] [] (.str (dec n)) σ') (hd : RowN d l) (hX : RowS v X) (hn : X.length < 3000000000) (hl : l.length < 4000000000) : ∀ (k i last : Nat) (s : Str), l.length - i = k → i ≤ l.length → vN X.length last (l.drop i) → s.length + (fmtN X (l.drop i)).length < 4000000000 →
    LE m8_0 l8_0 [(6, some v), (7, some (.str s)), (17, some d), (18, some (N l.length)), (19, some (N i))] [] (.exit 0) [(6, some v), (7, some (.str (s ++ fmtN X (l.drop i)))), (17, some d)] []
  | 0, i, last, s, hk, hi, hv, hb => by
    have e : l.drop i = [] := List.drop_eq_nil_of_le (by omega)
    rw [e]
    show LE m8_0 l8_0 _ _ _ [(6, some v), (7, some (.str (s ++ []))), (17, some d)] _
    rw [List.append_nil]
    exact n18_l0_out1 hd hX (by omega)
  | k + 1, i, last, s, hk, hi, hv, hb => by
    have hlt : i < l.length := by omega
    obtain ⟨v1, v2, v3, v4⟩ := vN_drop hlt hv
    rw [fmtN_drop X l i hlt] at hb ⊢
    simp only [List.length_append] at hb
    have ih := fmt_loop hit hd hX hn hl k (i + 1) l[i].to (s ++ fmt1 X l[i]) (by omega) (by omega) v4 (by simp only [List.length_append]; omega)
    rw [List.append_assoc] at ih
    have d1 := dec_len l[i].fr (by omega)
    have d2 := dec_len l[i].to (by omega)
    unfold fmt1 at hb ih ⊢
    simp only [List.length_append, List.length_cons, List.length_nil] at hb
    obtain ⟨w, hw1, hw2⟩ := row_vsl hX (a := l[i].fr - 1) (b := l[i].to - 1) (by omega) (by omega)
    obtain ⟨σ1, h1⟩ := hit l[i].fr (by omega)
    obtain ⟨σ2, h2⟩ := hit l[i].to (by omega)
    obtain ⟨σ3, h3⟩ := em22 [45, 32] hw2 (by decide) (by omega)
    obtain ⟨σ4, h4⟩ := em22 [43, 32] l[i].ok (by decide) (by omega)
    exact n18_l0_next1 hd hX (by omega) l[i].ok (hn_get hlt) h1 (by simp only [maxStr, List.length_cons, List.length_nil]; omega) (by simp only [maxStr, List.length_append, List.length_cons, List.length_nil]; omega) h2 (by simp only [maxStr, List.length_append, List.length_cons, List.length_nil]; omega)
      (by simp only [maxStr, List.length_append, List.length_cons, List.length_nil]; omega) (by omega) (by omega) (by omega) (by omega) hw2 hw1 h3 (by simp only [maxStr, List.length_append, List.length_cons, List.length_nil]; omega) h4 (by simp only [maxStr, List.length_append, List.length_cons, List.length_nil]; omega)
      (by simp only [maxStr, List.length_append, List.length_cons, List.length_nil]; omega) (by omega) ih
theorem en18 {d : PV} {l : List Hn} {s : Str} (hit : ∀ n : Nat, n < 4000000000 → ∃ σ', E 23 [N n] [] (.str (dec n)) σ') (hd : RowN d l) (hs : s.length < 4000000000) (hn : (lnA [] s).length < 3000000000) (hl : l.length < 4000000000) (hv : vN (lnA [] s).length 0 l) (hv2 : E 20 [N (lnA [] s).length, d] [] (.bool true) []) (hb : (fmtN (lnA [] s) l).length < 4000000000) :
    E 8 [.str s, d] [] (.tuple [.str (fmtN (lnA [] s) l), I 0]) [] := by
  obtain ⟨v, σ, hX, h19⟩ := e19 s hs
  have h := fmt_loop hit hd hX hn hl l.length 0 0 [] (by omega) (by omega) hv (by simpa using hb)
  simp only [List.drop_zero, List.nil_append] at h
  exact n18 hd hX h19 hv2 h
end Go.Abs.Z

namespace Go.Abs.Z
open Go.Proofs Go.RowKit
set_option linter.unusedVariables false
theorem take_drop1 {X : List Str} {q e : Nat} (h1 : 1 ≤ q) (h : q < e) (he : e ≤ X.length + 1) : ∃ x, X[q - 1]? = some x ∧ (X.drop (q - 1)).take (e - q) = x :: (X.drop (q + 1 - 1)).take (e - (q + 1)) := by
  have hlt : q - 1 < X.length := by omega
  refine ⟨X[q - 1], List.getElem?_eq_getElem hlt, ?_⟩
  rw [List.drop_eq_getElem_cons hlt, show e - q = (e - (q + 1)) + 1 from by omega, List.take_succ_cons, show q - 1 + 1 = q + 1 - 1 from by omega]
theorem rp_lines {d : PV} {l : List Hn} {X : List Str} (hd : RowN d l) (hn : X.length < 3000000000) (m2 : Nat) : ∀ (k q e : Nat) (s : Str), e - q = k → q ≤ e → 1 ≤ q → e ≤ X.length + 1 → s.length + (joinL ((X.drop (q - 1)).take (e - q))).length < 4000000000 →
    LE m7_1 l7_1 [(1, some d), (6, some (.slice false 1 (X.map PV.str))), (7, some (.str s)), (8, some (N q)), (9, some (N m2)), (10, some (N e))] [] (.exit 2) [(1, some d), (6, some (.slice false 1 (X.map PV.str))), (7, some (.str (s ++ joinL ((X.drop (q - 1)).take (e - q))))), (8, some (N e)), (9, some (N m2)), (10, some (N e))] []
  | 0, q, e, s, hk, hq, h1, he, hb => by
    have hqe : q = e := by omega
    subst hqe
    rw [Nat.sub_self, List.take_zero]
    show LE m7_1 l7_1 _ _ _ [(1, some d), (6, some (.slice false 1 (X.map PV.str))), (7, some (.str (s ++ []))), (8, some (N q)), (9, some (N m2)), (10, some (N q))] _
    rw [List.append_nil]
    exact np7_l1_out1 hd (by omega)
  | k + 1, q, e, s, hk, hq, h1, he, hb => by
    obtain ⟨x, hx, hx2⟩ := take_drop1 (X := X) h1 (by omega : q < e) he
    rw [hx2] at hb ⊢
    have hj : joinL (x :: (X.drop (q + 1 - 1)).take (e - (q + 1))) = (x ++ [10]) ++ joinL ((X.drop (q + 1 - 1)).take (e - (q + 1))) := rfl
    rw [hj] at hb ⊢
    simp only [List.length_append, List.length_cons, List.length_nil] at hb
    have ih := rp_lines hd hn m2 k (q + 1) e ((s ++ x) ++ [10]) (by omega) (by omega) (by omega) he (by simp only [List.length_append, List.length_cons, List.length_nil]; omega)
    have e1 : ((s ++ x) ++ [10]) ++ joinL ((X.drop (q + 1 - 1)).take (e - (q + 1))) = s ++ ((x ++ [10]) ++ joinL ((X.drop (q + 1 - 1)).take (e - (q + 1)))) := by simp
    rw [e1] at ih
    exact np7_l1_next1 (s := []) hd (by omega) h1 (by omega) hx (by simp only [maxStr]; omega) (by simp only [maxStr, List.length_append, List.length_cons, List.length_nil]; omega) ih
theorem rp_new {d : PV} {l : List Hn} {X : List Str} {m2 f t : Nat} {v : PV} {W : List Str} {ok : RowS v W} (hd : RowN d l) (hg : l[m2]? = some ⟨f, t, v, W, ok⟩) (hw : W.length < 4000000000) (f1 m3 : Nat) : ∀ (k i : Nat) (s : Str), W.length - i = k → i ≤ W.length → s.length + (joinL (W.drop i)).length < 4000000000 →
    LE m7_2 l7_2 [(1, some d), (6, some (.slice false 1 (X.map PV.str))), (7, some (.str s)), (8, some (N m3)), (9, some (N m2)), (10, some (N f1)), (11, some (N i))] [] (.exit 4) [(1, some d), (6, some (.slice false 1 (X.map PV.str))), (7, some (.str (s ++ joinL (W.drop i)))), (8, some (N m3)), (9, some (N m2)), (10, some (N f1))] []
  | 0, i, s, hk, hi, hb => by
    have e : W.drop i = [] := List.drop_eq_nil_of_le (by omega)
    rw [e]
    show LE m7_2 l7_2 _ _ _ [(1, some d), (6, some (.slice false 1 (X.map PV.str))), (7, some (.str (s ++ []))), (8, some (N m3)), (9, some (N m2)), (10, some (N f1))] _
    rw [List.append_nil]
    exact np7_l2_out1 hd ok hg (by omega)
  | k + 1, i, s, hk, hi, hb => by
    have hlt : i < W.length := by omega
    rw [joinL_drop W i hlt] at hb ⊢
    simp only [List.length_append, List.length_cons, List.length_nil] at hb
    have ih := rp_new (X := X) (ok := ok) hd hg hw f1 m3 k (i + 1) ((s ++ W[i]) ++ [10]) (by omega) (by omega) (by simp only [List.length_append, List.length_cons, List.length_nil]; omega)
    have e1 : ((s ++ W[i]) ++ [10]) ++ joinL (W.drop (i + 1)) = s ++ ((W[i] ++ [10]) ++ joinL (W.drop (i + 1))) := by simp
    rw [e1] at ih
    exact np7_l2_next1 hd ok hg (by omega) (List.getElem?_eq_getElem hlt) (by simp only [maxStr]; omega) (by simp only [maxStr, List.length_append, List.length_cons, List.length_nil]; omega) (by omega) ih
theorem rp_loop {d : PV} {l : List Hn} {X : List Str} (hd : RowN d l) (hn : X.length < 3000000000) (hl : l.length < 3000000000) : ∀ (k i q last : Nat) (s : Str), l.length - i = k → i ≤ l.length → 1 ≤ q → q ≤ X.length + 1 → q ≤ last + 1 → vN X.length last (l.drop i) → s.length + (joinL (patN X (q - 1) (l.drop i))).length < 4000000000 →
    LE m7_0 l7_0 [(1, some d), (6, some (.slice false 1 (X.map PV.str))), (7, some (.str s)), (8, some (N q)), (9, some (N i))] [] (.exit 0) [(1, some d), (7, some (.str (s ++ joinL (patN X (q - 1) (l.drop i)))))] []
  | 0, i, q, last, s, hk, hi, hq1, hq2, hq3, hv, hb => by
    have e : l.drop i = [] := List.drop_eq_nil_of_le (by omega)
    rw [e] at hb ⊢
    have e2 : patN X (q - 1) [] = (X.drop (q - 1)).take (X.length + 1 - q) := by
      show X.drop (q - 1) = _
      rw [List.take_of_length_le (by rw [List.length_drop]; omega)]
    rw [e2] at hb ⊢
    have h1 := rp_lines (l := l) hd hn i (X.length + 1 - q) q (X.length + 1) s rfl hq2 hq1 (Nat.le_refl _) hb
    exact np7_l0_next2 hd (by omega) (by omega) (by omega) h1 (by omega) (np7_l0_out1 hd (by omega))
  | k + 1, i, q, last, s, hk, hi, hq1, hq2, hq3, hv, hb => by
    have hlt : i < l.length := by omega
    obtain ⟨v1, v2, v3, v4⟩ := vN_drop hlt hv
    rw [patN_drop X (q - 1) l i hlt] at hb ⊢
    rw [joinL_append, joinL_append] at hb ⊢
    have eq1 : l[i].fr - 1 - (q - 1) = l[i].fr - q := by omega
    rw [eq1] at hb ⊢
    simp only [List.length_append] at hb
    have hwl := joinL_len l[i].nw
    have h1 := rp_lines (l := l) hd hn i (l[i].fr - q) q l[i].fr s rfl (by omega) hq1 (by omega) (by omega)
    have h2 := rp_new (X := X) (ok := l[i].ok) hd (hn_get hlt) (by omega) l[i].fr l[i].fr l[i].nw.length 0 (s ++ joinL ((X.drop (q - 1)).take (l[i].fr - q))) (by omega) (by omega) (by simp only [List.drop_zero, List.length_append]; omega)
    rw [List.drop_zero] at h2
    have ih := rp_loop hd hn hl k (i + 1) l[i].to l[i].to ((s ++ joinL ((X.drop (q - 1)).take (l[i].fr - q))) ++ joinL l[i].nw) (by omega) (by omega) (by omega) v3 (by omega) v4 (by simp only [List.length_append]; omega)
    have e1 : ((s ++ joinL ((X.drop (q - 1)).take (l[i].fr - q))) ++ joinL l[i].nw) ++ joinL (patN X (l[i].to - 1) (l.drop (i + 1))) = s ++ (joinL ((X.drop (q - 1)).take (l[i].fr - q)) ++ joinL l[i].nw ++ joinL (patN X (l[i].to - 1) (l.drop (i + 1)))) := by simp
    rw [e1] at ih
    exact np7_l0_next1 hd (by omega) (by omega) (by omega) l[i].ok (hn_get hlt) h1 h2 (by omega) ih
theorem ep7 {d : PV} {l : List Hn} {s : Str} (hd : RowN d l) (hs : s.length < 3000000000) (hn : (lnA [] s).length < 3000000000) (hl : l.length < 3000000000) (hv : vN (lnA [] s).length 0 l) (hv2 : E 22 [.str s, d] [] (.bool true) []) (hb : (joinL (patN (lnA [] s) 0 l)).length < 4000000000) :
    E 7 [.str s, d] [] (.tuple [.str (joinL (patN (lnA [] s) 0 l)), I 0]) [] := by
  have h := rp_loop hd hn hl l.length 0 1 0 [] (by omega) (by omega) (by omega) (by omega) (by omega) hv (by simpa using hb)
  simp only [List.drop_zero, List.nil_append, Nat.sub_self] at h
  exact np7 hd hv2 (e9 s (by omega)) h
end Go.Abs.Z

namespace Go.Abs.Z
open Go.Proofs Go.RowKit
set_option linter.unusedVariables false
theorem rf_lines {d : PV} {l : List Hn} {X : List Str} {m1 f t : Nat} {v : PV} {W : List Str} {ok : RowS v W} (hd : RowN d l) (hg : l[m1]? = some ⟨f, t, v, W, ok⟩) (hn : X.length < 3000000000) : ∀ (k q : Nat) (s : Str), t - q = k → q ≤ t → 1 ≤ q → t ≤ X.length + 1 → s.length + (wrM [45, 32] ((X.drop (q - 1)).take (t - q))).length < 4000000000 →
    LE m9_1 l9_1 [(1, some d), (6, some (.slice false 1 (X.map PV.str))), (7, some (.str s)), (8, some (N m1)), (9, some (N q))] [] (.exit 2) [(1, some d), (6, some (.slice false 1 (X.map PV.str))), (7, some (.str (s ++ wrM [45, 32] ((X.drop (q - 1)).take (t - q))))), (8, some (N m1))] []
  | 0, q, s, hk, hq, h1, he, hb => by
    have hqe : q = t := by omega
    subst hqe
    rw [Nat.sub_self, List.take_zero]
    show LE m9_1 l9_1 _ _ _ [(1, some d), (6, some (.slice false 1 (X.map PV.str))), (7, some (.str (s ++ []))), (8, some (N m1))] _
    rw [List.append_nil]
    exact np9_l1_out1 hd ok hg (by omega)
  | k + 1, q, s, hk, hq, h1, he, hb => by
    obtain ⟨x, hx, hx2⟩ := take_drop1 (X := X) h1 (by omega : q < t) he
    rw [hx2] at hb ⊢
    have hj : wrM [45, 32] (x :: (X.drop (q + 1 - 1)).take (t - (q + 1))) = (([45, 32] ++ x) ++ [10]) ++ wrM [45, 32] ((X.drop (q + 1 - 1)).take (t - (q + 1))) := rfl
    rw [hj] at hb ⊢
    simp only [List.length_append, List.length_cons, List.length_nil] at hb
    have ih := rf_lines (ok := ok) hd hg hn k (q + 1) (((s ++ [45, 32]) ++ x) ++ [10]) (by omega) (by omega) (by omega) he (by simp only [List.length_append, List.length_cons, List.length_nil]; omega)
    have e1 : (((s ++ [45, 32]) ++ x) ++ [10]) ++ wrM [45, 32] ((X.drop (q + 1 - 1)).take (t - (q + 1))) = s ++ ((([45, 32] ++ x) ++ [10]) ++ wrM [45, 32] ((X.drop (q + 1 - 1)).take (t - (q + 1)))) := by simp
    rw [e1] at ih
    exact np9_l1_next1 (s := []) hd ok hg (by omega) (by simp only [maxStr, List.length_cons, List.length_nil]; omega) h1 (by omega) hx (by simp only [maxStr, List.length_append, List.length_cons, List.length_nil]; omega) (by simp only [maxStr, List.length_append, List.length_cons, List.length_nil]; omega) ih
theorem rf_new {d : PV} {l : List Hn} {X : List Str} {m1 f t : Nat} {v : PV} {W : List Str} {ok : RowS v W} (hd : RowN d l) (hg : l[m1]? = some ⟨f, t, v, W, ok⟩) (hw : W.length < 4000000000) : ∀ (k i : Nat) (s : Str), W.length - i = k → i ≤ W.length → s.length + (wrM [43, 32] (W.drop i)).length < 4000000000 →
    LE m9_2 l9_2 [(1, some d), (6, some (.slice false 1 (X.map PV.str))), (7, some (.str s)), (8, some (N m1)), (10, some (N i))] [] (.exit 4) [(1, some d), (6, some (.slice false 1 (X.map PV.str))), (7, some (.str (s ++ wrM [43, 32] (W.drop i)))), (8, some (N m1))] []
  | 0, i, s, hk, hi, hb => by
    have e : W.drop i = [] := List.drop_eq_nil_of_le (by omega)
    rw [e]
    show LE m9_2 l9_2 _ _ _ [(1, some d), (6, some (.slice false 1 (X.map PV.str))), (7, some (.str (s ++ []))), (8, some (N m1))] _
    rw [List.append_nil]
    exact np9_l2_out1 hd ok hg (by omega)
  | k + 1, i, s, hk, hi, hb => by
    have hlt : i < W.length := by omega
    rw [wrM_drop [43, 32] W i hlt] at hb ⊢
    simp only [List.length_append, List.length_cons, List.length_nil] at hb
    have ih := rf_new (X := X) (ok := ok) hd hg hw k (i + 1) (((s ++ [43, 32]) ++ W[i]) ++ [10]) (by omega) (by omega) (by simp only [List.length_append, List.length_cons, List.length_nil]; omega)
    have e1 : (((s ++ [43, 32]) ++ W[i]) ++ [10]) ++ wrM [43, 32] (W.drop (i + 1)) = s ++ ((([43, 32] ++ W[i]) ++ [10]) ++ wrM [43, 32] (W.drop (i + 1))) := by simp
    rw [e1] at ih
    exact np9_l2_next1 hd ok hg (by omega) (by simp only [maxStr, List.length_cons, List.length_nil]; omega) (List.getElem?_eq_getElem hlt) (by simp only [maxStr, List.length_append, List.length_cons, List.length_nil]; omega) (by simp only [maxStr, List.length_append, List.length_cons, List.length_nil]; omega) (by omega) ih
theorem rf_loop {d : PV} {l : List Hn} {X : List Str} (hdec : ∀ n : Nat, n < 4000000000 → ∃ σ', E 24 [N n] [] (.str (dec n)) σ') (hd : RowN d l) (hn : X.length < 3000000000) (hl : l.length < 3000000000) : ∀ (k i last : Nat) (s : Str), l.length - i = k → i ≤ l.length → vN X.length last (l.drop i) → s.length + (fmtN X (l.drop i)).length < 4000000000 →
    LE m9_0 l9_0 [(1, some d), (6, some (.slice false 1 (X.map PV.str))), (7, some (.str s)), (8, some (N i))] [] (.exit 0) [(1, some d), (7, some (.str (s ++ fmtN X (l.drop i))))] []
  | 0, i, last, s, hk, hi, hv, hb => by
    have e : l.drop i = [] := List.drop_eq_nil_of_le (by omega)
    rw [e]
    show LE m9_0 l9_0 _ _ _ [(1, some d), (7, some (.str (s ++ [])))] _
    rw [List.append_nil]
    exact np9_l0_out1 hd (by omega)
  | k + 1, i, last, s, hk, hi, hv, hb => by
    have hlt : i < l.length := by omega
    obtain ⟨v1, v2, v3, v4⟩ := vN_drop hlt hv
    rw [fmtN_drop X l i hlt] at hb ⊢
    simp only [List.length_append] at hb
    have ih := rf_loop hdec hd hn hl k (i + 1) l[i].to (s ++ fmt1 X l[i]) (by omega) (by omega) v4 (by simp only [List.length_append]; omega)
    rw [List.append_assoc] at ih
    have d1 := dec_len l[i].fr (by omega)
    have d2 := dec_len l[i].to (by omega)
    have hwl := wrM_len [43, 32] l[i].nw
    unfold fmt1 at hb ih ⊢
    have eq1 : l[i].to - 1 - (l[i].fr - 1) = l[i].to - l[i].fr := by omega
    rw [eq1] at hb ih ⊢
    simp only [List.length_append, List.length_cons, List.length_nil] at hb
    obtain ⟨σ1, h1⟩ := hdec l[i].fr (by omega)
    obtain ⟨σ2, h2⟩ := hdec l[i].to (by omega)
    have h3 := rf_lines (X := X) (ok := l[i].ok) hd (hn_get hlt) hn (l[i].to - l[i].fr) l[i].fr (((((s ++ [64, 32]) ++ dec l[i].fr) ++ [32]) ++ dec l[i].to) ++ [10]) rfl v2 (by omega) v3 (by simp only [List.length_append, List.length_cons, List.length_nil]; omega)
    have h4 := rf_new (X := X) (ok := l[i].ok) hd (hn_get hlt) (by omega) l[i].nw.length 0 ((((((s ++ [64, 32]) ++ dec l[i].fr) ++ [32]) ++ dec l[i].to) ++ [10]) ++ wrM [45, 32] ((X.drop (l[i].fr - 1)).take (l[i].to - l[i].fr))) (by omega) (by omega) (by simp only [List.drop_zero, List.length_append, List.length_cons, List.length_nil]; omega)
    rw [List.drop_zero] at h4
    refine np9_l0_next1 hd (by omega) (by simp only [maxStr, List.length_cons, List.length_nil]; omega) l[i].ok (hn_get hlt) h1 (by simp only [maxStr, List.length_append, List.length_cons, List.length_nil]; omega) (by simp only [maxStr, List.length_append, List.length_cons, List.length_nil]; omega) h2 (by simp only [maxStr, List.length_append, List.length_cons, List.length_nil]; omega)
      (by simp only [maxStr, List.length_append, List.length_cons, List.length_nil]; omega) h3 h4 (by omega) ?_
    have e1 : ((((((s ++ [64, 32]) ++ dec l[i].fr) ++ [32]) ++ dec l[i].to) ++ [10]) ++ wrM [45, 32] ((X.drop (l[i].fr - 1)).take (l[i].to - l[i].fr))) ++ wrM [43, 32] l[i].nw = s ++ (((((([64, 32] ++ dec l[i].fr) ++ [32]) ++ dec l[i].to) ++ [10]) ++ wrM [45, 32] ((X.drop (l[i].fr - 1)).take (l[i].to - l[i].fr))) ++ wrM [43, 32] l[i].nw) := by simp
    rw [e1]
    exact ih
theorem ep9 {d : PV} {l : List Hn} {s : Str} (hdec : ∀ n : Nat, n < 4000000000 → ∃ σ', E 24 [N n] [] (.str (dec n)) σ') (hd : RowN d l) (hs : s.length < 3000000000) (hn : (lnA [] s).length < 3000000000) (hl : l.length < 3000000000) (hv : vN (lnA [] s).length 0 l) (hv2 : E 22 [.str s, d] [] (.bool true) []) (hb : (fmtN (lnA [] s) l).length < 4000000000) :
    E 9 [.str s, d] [] (.tuple [.str (fmtN (lnA [] s) l), I 0]) [] := by
  have h := rf_loop hdec hd hn hl l.length 0 0 [] (by omega) (by omega) hv (by simpa using hb)
  simp only [List.drop_zero, List.nil_append] at h
  exact np9 hd hv2 (e9 s (by omega)) h
end Go.Abs.Z
