/- A part of the proof: K14 K15 K16 K17 K18 K12 K19. -/
import Derived.Test.YtakhbjefcjmelaaGreatDoorWd
import Derived.Test.YtakhbjefcjmelaaGreatDoorDb
import Derived.Test.YtakhbjefcjmelaaGreatDoorDa

set_option linter.unusedVariables false
set_option linter.unusedSimpArgs false
namespace Go.Abs.Z
open Go.Proofs Go.RowKit
set_option linter.unusedVariables false
theorem e23 (n : Nat) (h : n < 4000000000) : E 23 [N n] [] (.str (dec n)) [] := ev_of_run 0 fun k _ => by
  have e : run (k + 1) 23 [N n] [] = pItoa (run k) [N n] [] := by kernel_rfl
  rw [e]
  show (if _ then _ else _) = _
  rw [if_pos (by omega)]
theorem tmod10 (n : Nat) : Int.tmod (n : Int) 10 = ((n % 10 : Nat) : Int) := by
  rw [Int.tmod_eq_emod_of_nonneg (by omega)]; omega
theorem tdiv10 (n : Nat) : Int.tdiv (n : Int) 10 = ((n / 10 : Nat) : Int) := by
  rw [Int.tdiv_eq_ediv_of_nonneg (by omega)]; omega
theorem rem_nat (n : Nat) (h : n < 4000000000) : semP (.bin .rem 0) [N n, I 10] = some [some (.int .i64 ((n % 10 : Nat) : Int))] := by
  have e : Go.binOp .rem 0 (.int .i64 n) (.int .i64 10) = .pure (.int .i64 ((n % 10 : Nat) : Int)) := by
    show Op.intDiv .rem .i64 (n : Int) 10 = _
    unfold Op.intDiv
    rw [if_neg (by decide)]
    show Sem.pure (Value.int .i64 (Int.tmod (n : Int) 10)) = _
    rw [tmod10]
  have hb : binI .rem .i64 (n : Int) 10 = some (.int .i64 ((n % 10 : Nat) : Int)) := by simp only [binI]; rw [e]
  simp only [semP, binV]
  simp only [hb]
  rfl
theorem quo_nat (n : Nat) (h : n < 4000000000) : semP (.bin .quo 0) [N n, I 10] = some [some (.int .i64 ((n / 10 : Nat) : Int))] := by
  have e : Go.binOp .quo 0 (.int .i64 n) (.int .i64 10) = .pure (.int .i64 ((n / 10 : Nat) : Int)) := by
    show Op.intDiv .quo .i64 (n : Int) 10 = _
    unfold Op.intDiv
    rw [if_neg (by decide)]
    show Sem.pure (Value.int .i64 (IntKind.i64.wrap (Int.tdiv (n : Int) 10))) = _
    rw [tdiv10]
    congr 2
    simp [IntKind.wrap, IntKind.bits, IntKind.signed]; omega
  have hb : binI .quo .i64 (n : Int) 10 = some (.int .i64 ((n / 10 : Nat) : Int)) := by simp only [binI]; rw [e]
  simp only [semP, binV]
  simp only [hb]
  rfl
theorem digit_cut (r : Nat) (h : r < 10) : semP (.ssl true true) [.str [48, 49, 50, 51, 52, 53, 54, 55, 56, 57], .int .i64 (r : Nat), .int .i64 ((r + 1 : Nat) : Int)] = some [some (.str [UInt8.ofNat (48 + r)])] := by
  have : r = 0 ∨ r = 1 ∨ r = 2 ∨ r = 3 ∨ r = 4 ∨ r = 5 ∨ r = 6 ∨ r = 7 ∨ r = 8 ∨ r = 9 := by omega
  rcases this with rfl | rfl | rfl | rfl | rfl | rfl | rfl | rfl | rfl | rfl <;> rfl
theorem e24d (n : Nat) : n < 4000000000 → E 24 [N n] [] (.str (Lib.decDigits n)) [] := by
  induction n using Nat.strongRecOn with
  | _ n ih =>
    intro h
    have hr := rem_nat n h
    have hw : IntKind.i64.wrap (((n % 10 : Nat) : Int) + 1) = ((n % 10 + 1 : Nat) : Int) := by
      simp [IntKind.wrap, IntKind.bits, IntKind.signed]; omega
    have hc := digit_cut (n % 10) (by omega)
    unfold Lib.decDigits
    by_cases h10 : n < 10
    · rw [dif_pos h10]
      have e : n % 10 = n := by omega
      have := dc_1 hr hr hw hc (by omega)
      rw [e] at this
      exact this
    · rw [dif_neg h10]
      exact dc_2 hr hr hw hc (by omega) (quo_nat n h) (ih (n / 10) (by omega) (by omega)) (by
        have := dec_len (n / 10) (by omega)
        rw [show dec (n / 10) = Lib.decDigits (n / 10) from Lib.itoa_nonneg _] at this
        simp only [maxStr, List.length_cons, List.length_nil]; omega)
theorem e24 (n : Nat) (h : n < 4000000000) : E 24 [N n] [] (.str (dec n)) [] := by
  rw [show dec n = Lib.decDigits n from Lib.itoa_nonneg _]
  exact e24d n h
end Go.Abs.Z

namespace Go.Abs.Z
open Go.Proofs Go.RowKit
set_option linter.unusedVariables false
def okW (W : List Str) : Prop := W.length ≤ 20 ∧ ∀ (j : Nat) (s : Str), W[j]? = some s → s.length ≤ 100
theorem hu_in {d nv : PV} {l : List Hg} {W : List Str} (hd : RowG d l) (hnv : RowS nv W) (m1 : Nat) (hW : W.length ≤ 20) : ∀ (k i : Nat), W.length - i = k → i ≤ W.length →
    ((∀ (j : Nat) (s : Str), i ≤ j → W[j]? = some s → s.length ≤ 100) ∧ LE m5_1 l5_1 [(0, some d), (7, some d), (8, some (N l.length)), (9, some (N m1)), (18, some nv), (19, some (N W.length)), (20, some (N i))] [] (.exit 2) [(0, some d), (7, some d), (8, some (N l.length)), (9, some (N m1)), (18, some nv)] []) ∨
    LE m5_1 l5_1 [(0, some d), (7, some d), (8, some (N l.length)), (9, some (N m1)), (18, some nv), (19, some (N W.length)), (20, some (N i))] [] .ret [(2, some (.bool false))] []
  | 0, i, hk, hi => .inl ⟨fun j s hj hs => (by rw [List.getElem?_eq_none (by omega)] at hs; cases hs), hu_l1_out1 hd hnv (by omega)⟩
  | k + 1, i, hk, hi => by
    have hlt : i < W.length := by omega
    have hg := List.getElem?_eq_getElem hlt
    by_cases h100 : W[i].length ≤ 100
    · rcases hu_in hd hnv m1 hW k (i + 1) (by omega) (by omega) with ⟨q1, q2⟩ | q2
      · refine .inl ⟨fun j s hj hs => ?_, hu_l1_next1 hd hnv (by omega) hg (by omega) (by omega) q2⟩
        by_cases hji : j = i
        · subst hji; rw [hg] at hs; cases hs; exact h100
        · exact q1 j s (by omega) hs
      · exact .inr (hu_l1_next1 hd hnv (by omega) hg (by omega) (by omega) q2)
    · exact .inr (hu_l1_out2 hd hnv (by omega) hg (by omega))
theorem hu_loop {d : PV} {l : List Hg} (hd : RowG d l) (hl : l.length ≤ 9223372036854775807) : ∀ (k i : Nat), l.length - i = k → i ≤ l.length →
    ((∀ (j : Nat) (g : Hg), i ≤ j → l[j]? = some g → okW g.nw) ∧ LE m5_0 l5_0 [(0, some d), (7, some d), (8, some (N l.length)), (9, some (N i))] [] (.exit 0) [(0, some d), (7, some d)] []) ∨
    LE m5_0 l5_0 [(0, some d), (7, some d), (8, some (N l.length)), (9, some (N i))] [] .ret [(2, some (.bool false))] []
  | 0, i, hk, hi => .inl ⟨fun j s hj hs => (by rw [List.getElem?_eq_none (by omega)] at hs; cases hs), hu_l0_out1 hd (by omega)⟩
  | k + 1, i, hk, hi => by
    have hlt : i < l.length := by omega
    obtain ⟨f, t, v, w, ok, hg⟩ := hg_get hlt
    by_cases h20 : w.length ≤ 20
    · rcases hu_in hd ok i h20 w.length 0 (by omega) (by omega) with ⟨p1, p2⟩ | p2
      · rcases hu_loop hd hl k (i + 1) (by omega) (by omega) with ⟨q1, q2⟩ | q2
        · refine .inl ⟨fun j g hj hs => ?_, hu_l0_next1 hd (by omega) ok hg (by omega) p2 (by omega) q2⟩
          by_cases hji : j = i
          · subst hji; rw [hg] at hs; cases hs; exact ⟨h20, fun j' s hs' => p1 j' s (Nat.zero_le _) hs'⟩
          · exact q1 j g (by omega) hs
        · exact .inr (hu_l0_next1 hd (by omega) ok hg (by omega) p2 (by omega) q2)
      · exact .inr (hu_l0_out3 hd (by omega) ok hg (by omega) p2)
    · exact .inr (hu_l0_out2 hd (by omega) ok hg (by omega))
theorem e5 {d : PV} {l : List Hg} (hd : RowG d l) (hl : l.length ≤ 9223372036854775807) : E 5 [d] [] (.bool false) [] ∨ (E 5 [d] [] (.bool true) [] ∧ l.length ≤ 10 ∧ ∀ (j : Nat) (g : Hg), l[j]? = some g → okW g.nw) := by
  rcases hu_loop hd hl l.length 0 (by omega) (by omega) with ⟨q1, q2⟩ | q2
  · have h := hu_1 hd q2
    by_cases h10 : l.length ≤ 10
    · rw [decide_eq_true (by omega)] at h
      exact .inr ⟨h, h10, fun j g hg => q1 j g (Nat.zero_le _) hg⟩
    · rw [decide_eq_false (by omega)] at h
      exact .inl h
  · exact .inl (hu_2 hd q2)
end Go.Abs.Z

namespace Go.Abs.Z
open Go.Proofs Go.RowKit
theorem e10n : E 10 [.nils, .slice false 1 []] [] (.bool true) [] := ⟨3, fun n hn => by
  obtain ⟨m, rfl⟩ : ∃ m, n = m + 3 := ⟨n - 3, by omega⟩
  kernel_rfl⟩
end Go.Abs.Z

namespace Go.Abs.Z
open Go.Proofs Go.RowKit
theorem joinL_drop_le : ∀ (X : List Str) (n : Nat), (joinL (X.drop n)).length ≤ (joinL X).length
  | [], n => by simp
  | x :: X, 0 => Nat.le_refl _
  | x :: X, n + 1 => by
    have := joinL_drop_le X n
    have e : joinL (x :: X) = (x ++ [10]) ++ joinL X := rfl
    rw [List.drop_succ_cons, e, List.length_append]; omega
theorem joinL_take_le : ∀ (X : List Str) (n : Nat), (joinL (X.take n)).length ≤ (joinL X).length
  | [], n => by simp
  | x :: X, 0 => Nat.zero_le _
  | x :: X, n + 1 => by
    have := joinL_take_le X n
    have e : joinL (x :: X) = (x ++ [10]) ++ joinL X := rfl
    have e2 : joinL (x :: X.take n) = (x ++ [10]) ++ joinL (X.take n) := rfl
    rw [List.take_succ_cons, e, e2]; simp only [List.length_append]; omega
theorem patN_size (X : List Str) (B : Nat) : ∀ (l : List Hn) (at' : Nat), (∀ h ∈ l, (joinL h.nw).length ≤ B) → (joinL (patN X at' l)).length ≤ (l.length + 1) * (joinL X).length + l.length * B
  | [], at', _ => by
    have := joinL_drop_le X at'
    show (joinL (X.drop at')).length ≤ _
    simp; omega
  | h :: l, at', hb => by
    have h1 := patN_size X B l (h.to - 1) fun g hg => hb g (List.mem_cons_of_mem _ hg)
    have h2 := hb h (List.mem_cons_self ..)
    have h3 := Nat.le_trans (joinL_take_le (X.drop at') (h.fr - 1 - at')) (joinL_drop_le X at')
    show (joinL ((X.drop at').take (h.fr - 1 - at') ++ h.nw ++ patN X (h.to - 1) l)).length ≤ _
    rw [joinL_append, joinL_append, List.length_append, List.length_append, List.length_cons, Nat.add_mul (l.length + 1) 1, Nat.add_mul l.length 1 B]
    omega
end Go.Abs.Z

namespace Go.Abs.Z
open Go.Proofs Go.RowKit
theorem wrM_size (m : Str) : ∀ (l : List Str), (wrM m l).length = (joinL l).length + l.length * m.length
  | [] => by simp [wrM, joinL]
  | x :: l => by
    have ih := wrM_size m l
    have e : wrM m (x :: l) = ((m ++ x) ++ [10]) ++ wrM m l := rfl
    have e2 : joinL (x :: l) = (x ++ [10]) ++ joinL l := rfl
    rw [e, e2, List.length_cons, Nat.add_mul]
    simp only [List.length_append, ih]; omega
end Go.Abs.Z

namespace Go.Abs.Z
open Go.Proofs Go.RowKit
set_option linter.unusedVariables false
theorem lines_bad (s : Str) {dv : PV} {l : List Hg} (hd : RowG dv l) (hs : ¬ (s.length : Int) > 1500) (hn : (lnA [] s).length < 3000) (h5 : E 5 [dv] [] (.bool true) []) (h10 : l.length ≤ 10) (hv : vB (lnA [] s).length 0 l = false) : Runs a3 [.str s, dv] [] (.bool true) [] := by
  obtain ⟨v, σ, hX, h19⟩ := e19 s (by omega)
  have ht : E 10 [v, .slice false 1 ((lnA [] s).map PV.str)] [] (.bool true) [] := by
    rcases hX with ⟨rfl, e⟩ | rfl
    · rw [e]; exact e10n
    · exact e10 _ (by omega)
  have h21 := eg21 (n := (lnA [] s).length) hd (by omega) (by omega)
  have h8 := eg8 (s := s) hd (by omega) (by omega) (by omega)
  rw [hv] at h21 h8
  have := r3_2 hd evA7 hs (evA h5) (evA (g7 hd hX h19 h21)) (evA (gp7 hd h8)) (evA (g18 hd hX h19 h21)) (evA (gp9 hd h8)) hX (evA h19) (evA (e9 s (by omega))) (evA ht) rfl rfl rfl
  simpa using this
theorem lines_good (s : Str) {dv : PV} {l : List Hg} (hd : RowG dv l) (hs : ¬ (s.length : Int) > 1500) (hn : (lnA [] s).length < 3000) (h5 : E 5 [dv] [] (.bool true) []) (h10 : l.length ≤ 10) (hv : vB (lnA [] s).length 0 l = true)
    (hb1 : (joinL (patN (lnA [] s) 0 (l.map nOf))).length < 4000000000) (hb2 : (fmtN (lnA [] s) (l.map nOf)).length < 4000000000) : Runs a3 [.str s, dv] [] (.bool true) [] := by
  obtain ⟨v, σ, hX, h19⟩ := e19 s (by omega)
  have ht : E 10 [v, .slice false 1 ((lnA [] s).map PV.str)] [] (.bool true) [] := by
    rcases hX with ⟨rfl, e⟩ | rfl
    · rw [e]; exact e10n
    · exact e10 _ (by omega)
  have h21 := eg21 (n := (lnA [] s).length) hd (by omega) (by omega)
  have h8 := eg8 (s := s) hd (by omega) (by omega) (by omega)
  rw [hv] at h21 h8
  obtain ⟨q1, q2⟩ := vB_nat (last := 0) hv
  have hd2 := hd
  rw [q1] at hd2
  have hN := row_of_nat hd2
  have hlm : (l.map nOf).length = l.length := List.length_map ..
  have hit : ∀ n : Nat, n < 4000000000 → ∃ σ', E 23 [N n] [] (.str (dec n)) σ' := fun n h => ⟨_, e23 n h⟩
  have hdec : ∀ n : Nat, n < 4000000000 → ∃ σ', E 24 [N n] [] (.str (dec n)) σ' := fun n h => ⟨_, e24 n h⟩
  have := r3_2 hd evA7 hs (evA h5) (evA (en7 hN (by omega) (by omega) (by omega) q2 h21 hb1)) (evA (ep7 hN (by omega) (by omega) (by omega) q2 h8 hb1)) (evA (en18 hit hN (by omega) (by omega) (by omega) q2 h21 hb2)) (evA (ep9 hdec hN (by omega) (by omega) (by omega) q2 h8 hb2)) hX (evA h19) (evA (e9 s (by omega))) (evA ht) rfl rfl rfl
  simpa using this
end Go.Abs.Z

namespace Go.Abs.Z
open Go.Proofs Go.RowKit
set_option linter.unusedVariables false
theorem sum_le (B : Nat) : ∀ (l : List Str), (∀ (j : Nat) (s : Str), l[j]? = some s → s.length ≤ B) → (l.map List.length).sum ≤ l.length * B
  | [], _ => by simp
  | x :: l, h => by
    have h1 := sum_le B l fun j s hs => h (j + 1) s hs
    have h2 := h 0 x rfl
    simp only [List.map_cons, List.sum_cons, List.length_cons, Nat.add_mul]
    omega
theorem okW_join {W : List Str} (h : okW W) : (joinL W).length ≤ 2020 := by
  obtain ⟨h1, h2⟩ := h
  have := sum_le 100 W h2
  rw [joinL_len]
  omega
theorem lines_size (s : Str) : (joinL (lnA [] s)).length ≤ 2 * s.length := by
  have h1 := lnA_size s []
  have h2 := lnA_len0 s
  rw [joinL_len]
  simp only [List.length_nil] at h1
  omega
theorem fmt1_size (X : List Str) (h : Hn) (h1 : h.fr < 4000000000) (h2 : h.to < 4000000000) (hX : X.length ≤ 1500) (hJ : (joinL X).length ≤ 3000) (hW : okW h.nw) : (fmt1 X h).length ≤ 9000 := by
  have a1 := dec_len _ h1
  have a2 := dec_len _ h2
  have a3 := okW_join hW
  have a4 := wrM_size [45, 32] ((X.drop (h.fr - 1)).take (h.to - 1 - (h.fr - 1)))
  have a5 := wrM_size [43, 32] h.nw
  have a6 := Nat.le_trans (joinL_take_le (X.drop (h.fr - 1)) (h.to - 1 - (h.fr - 1))) (joinL_drop_le X (h.fr - 1))
  have a7 : ((X.drop (h.fr - 1)).take (h.to - 1 - (h.fr - 1))).length ≤ X.length := by simp only [List.length_take, List.length_drop]; omega
  have a8 := hW.1
  simp only [List.length_cons, List.length_nil] at a4 a5
  unfold fmt1
  simp only [List.length_append, List.length_cons, List.length_nil, a4, a5]
  omega
theorem fmtN_size (X : List Str) (hX : X.length ≤ 1500) (hJ : (joinL X).length ≤ 3000) : ∀ (l : List Hn) (last : Nat), vN X.length last l → (∀ h ∈ l, okW h.nw) → (fmtN X l).length ≤ l.length * 9000
  | [], _, _, _ => by simp [fmtN]
  | h :: l, last, hv, hw => by
    obtain ⟨v1, v2, v3, v4⟩ := hv
    have h1 := fmtN_size X hX hJ l h.to v4 fun g hg => hw g (List.mem_cons_of_mem _ hg)
    have h2 := fmt1_size X h (by omega) (by omega) hX hJ (hw h (List.mem_cons_self ..))
    have e : fmtN X (h :: l) = fmt1 X h ++ fmtN X l := rfl
    rw [e, List.length_append, List.length_cons, Nat.add_mul]
    omega
theorem lines_run (s : Str) {dv : PV} {l : List Hg} (hd : RowG dv l) (hl : l.length ≤ 9223372036854775807) : Runs a3 [.str s, dv] [] (.bool true) [] := by
  by_cases hs : (s.length : Int) > 1500
  · exact r3_1 hd evA7 hs
  · rcases e5 hd hl with h5 | ⟨h5, h10, hok⟩
    · exact r3_3 hd evA7 hs (evA h5)
    · have hn0 := lnA_len0 s
      have hJ := lines_size s
      have hX : (lnA [] s).length ≤ 1500 := by omega
      have hJ' : (joinL (lnA [] s)).length ≤ 3000 := by omega
      cases hv : vB (lnA [] s).length 0 l with
      | false => exact lines_bad s hd hs (by omega) h5 h10 hv
      | true =>
        have hW : ∀ h ∈ l.map nOf, okW h.nw := by
          intro h hh
          obtain ⟨g, hg, rfl⟩ := List.mem_map.1 hh
          obtain ⟨j, hj⟩ := List.mem_iff_getElem?.1 hg
          exact hok j g hj
        have hlm : (l.map nOf).length = l.length := List.length_map ..
        obtain ⟨q1, q2⟩ := vB_nat (last := 0) hv
        have b1 := patN_size (lnA [] s) 2020 (l.map nOf) 0 fun h hh => okW_join (hW h hh)
        have b2 := fmtN_size (lnA [] s) hX hJ' (l.map nOf) 0 q2 hW
        have b3 : ((l.map nOf).length + 1) * (joinL (lnA [] s)).length ≤ 11 * 3000 := Nat.mul_le_mul (by omega) hJ'
        exact lines_good s hd hs (by omega) h5 h10 hv (by omega) (by omega)
theorem patchLines_ok (s : Str) {dv : PV} {l : List Hg} (hd : RowG dv l) (hl : l.length ≤ maxLen) (hn : ∀ (i : Nat) (g : Hg), l[i]? = some g → g.nw.length ≤ maxLen) : CallOk Tryz.prog 3 [.str s, dv] [] (.bool true) [] :=
  law_ok ok3 (by intro p hp; simp only [List.mem_cons, List.not_mem_nil, or_false] at hp; rcases hp with rfl | rfl; · rfl
                 · exact hd.disown) (lines_run s hd (by unfold maxLen at hl; omega))
end Go.Abs.Z
