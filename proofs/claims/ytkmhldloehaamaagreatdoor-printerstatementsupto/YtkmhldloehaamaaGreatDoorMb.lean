/- A part of the proof: M5 M6 M7 M8. -/
import Derived.Test.YtkmhldloehaamaaGreatDoorMa
import Derived.Test.YtkmhldloehaamaaGreatDoorWd
import Derived.Test.YtkmhldloehaamaaGreatDoorZa
import Derived.Test.YtkmhldloehaamaaGreatDoorWe

set_option linter.unusedVariables false
set_option linter.unusedSimpArgs false
set_option linter.unusedVariables false
set_option linter.unusedSimpArgs false
namespace Go.Abs.Z
open Go.Proofs Go.RowKit
theorem bare_parts {T U : Tr} (h : bare T = bare U) : T.kind = U.kind ∧ T.text = U.text ∧ T.kids.map bare = U.kids.map bare := by
  rw [bare_eq T, bare_eq U] at h;cases T; cases U;injection h with h1 h2 _ _ _ h3
  exact ⟨h1, h2, h3⟩
theorem bare_of {T U : Tr} (h1 : T.kind = U.kind) (h2 : T.text = U.text) (h3 : T.kids.map bare = U.kids.map bare) : bare T = bare U := by
  rw [bare_eq T, bare_eq U, h1, h2, h3]
theorem same_ev : ∀ (n : Nat) (T U : Tr), T.pre.length ≤ n → T.pre.length ≤ Ax1 ∨ U.pre.length ≤ Ax1 → T.wf → U.wf → ∃ b : Bool, E 10 [T.pv, U.pv] [] (.bool b) [] ∧ (b = true ↔ bare T = bare U)
  | 0, T, U, h, _, _, _ => by obtain ⟨k, t, a, e, n, ks⟩ := T; simp [Tr.pre] at h
  | n + 1, T, U, h, hm, wT, wU => by
    by_cases h1 : T.kind = U.kind
    · by_cases h2 : T.text = U.text
      · by_cases h3 : T.kids.length = U.kids.length
        · have hkl := Ak0 T; have hkm := Ak0 U;have ih : ∀ A ∈ T.kids, ∀ B ∈ U.kids, ∃ b : Bool, E 10 [A.pv, B.pv] [] (.bool b) [] ∧ (b = true ↔ bare A = bare B) := fun A hA B hB => same_ev n A B (by have := AzX T A hA; omega) (by have := AzX T A hA; have := AzX U B hB; omega) (kid_wf T A wT hA) (kid_wf U B wU hB)
          have hl : ∀ (r j : Nat), j + r = T.kids.length → ∃ b : Bool, (b = true ↔ (T.kids.drop j).map bare = (U.kids.drop j).map bare) ∧
              (b = true → LE m18_0 l18_0 [(2, some (.vptr T.pv)), (3, some (.vptr U.pv)), (5, some (N j))] [] (.exit 0) [(2, some (.vptr T.pv)), (3, some (.vptr U.pv))] []) ∧
              (b = false → LE m18_0 l18_0 [(2, some (.vptr T.pv)), (3, some (.vptr U.pv)), (5, some (N j))] [] .ret [(4, some (.bool false))] []) := by
            intro r
            induction r with
            | zero =>
              intro j hj;refine ⟨true, ?_, fun _ => r18_l0_out1 wT (by omega), fun h => (by cases h)⟩
              rw [List.drop_of_length_le (by omega), List.drop_of_length_le (by omega)]; simp
            | succ r ihr =>
              intro j hj;obtain ⟨A, g1, e1⟩ := drop_at (l := T.kids) (j := j) (by omega)
              obtain ⟨B, g2, e2⟩ := drop_at (l := U.kids) (j := j) (by omega)
              obtain ⟨b1, q1, q2⟩ := ih A (AxZ g1) B (AxZ g2);obtain ⟨b2, p1, p2, p3⟩ := ihr (j + 1) (by omega)
              have hmr : Ax1 < 4611686018427387904 := by decide
              rw [e1, e2];cases hb1 : b1 with
              | false =>
                subst hb1;refine ⟨false, ?_, fun h => (by cases h), fun _ => r18_l0_out2 wT (by omega) g1 wU g2 q1⟩
                simp only [List.map_cons, List.cons.injEq, Bool.false_eq_true, false_iff, not_and];intro hh;exact absurd (q2.2 hh) (by decide)
              | true =>
                subst hb1;refine ⟨b2, ?_, fun hb => r18_l0_next1 wT (by omega) g1 wU g2 q1 (by omega) (p2 hb), fun hb => r18_l0_next1 wT (by omega) g1 wU g2 q1 (by omega) (p3 hb)⟩
                simp only [List.map_cons, List.cons.injEq, q2.1 rfl, true_and];exact p1
          obtain ⟨b, p1, p2, p3⟩ := hl T.kids.length 0 (by omega)
          rw [List.drop_zero, List.drop_zero] at p1;refine ⟨b, ?_, ?_⟩
          · cases hb : b with
            | true => exact r18_4 h1 h2 wT wU (by omega) (p2 hb)
            | false => exact r18_5 h1 h2 wT wU (by omega) (p3 hb)
          · rw [p1];exact ⟨fun h => bare_of h1 h2 h, fun h => (bare_parts h).2.2⟩
        · refine ⟨false, r18_3 h1 h2 wT wU (by omega), ?_⟩
          simp only [Bool.false_eq_true, false_iff];intro hb;have := congrArg List.length (bare_parts hb).2.2;simp at this; exact h3 this
      · refine ⟨false, r18_2 h1 h2, ?_⟩
        simp only [Bool.false_eq_true, false_iff];intro hb; exact h2 (bare_parts hb).2.1
    · refine ⟨false, r18_1 h1, ?_⟩
      simp only [Bool.false_eq_true, false_iff];intro hb; exact h1 (bare_parts hb).1
end Go.Abs.Z

set_option linter.unusedSimpArgs false
set_option linter.unusedVariables false
namespace Go.Abs.Z
open Go.Proofs Go.RowKit
section
variable {s : List UInt8} {ls : List Tk} {k j : Nat} {w v : Wd} {T U V : Tr} {d : Nat}
variable (s ls) in
def Rd (f : FuncId) (fo : Wd → Prop) (w : List Wd) (T : Tr) : Prop := ∀ k j v, Sp s ls k w → j = k + w.length → AtW s ls j v → fo v → ∃ U : Tr, bare U = bare T ∧ U.wf ∧ E f [.ref 0 0] (ps s ls k) U.pv (ps s ls j)
theorem Rd.weak {f : FuncId} {fo fo' : Wd → Prop} {w : List Wd} (h : Rd s ls f fo w T) (hf : ∀ v, fo' v → fo v) : Rd s ls f fo' w T := fun k j v a b c e => h k j v a b c (hf v e)
theorem e45o (kd : Int) (tx : List UInt8) : E 50 [.ref 0 0, N k, I kd, .str tx, .nils] (ps s ls k) (Tr.mk kd tx (en ls k : Nat) (en ls k : Nat) true []).pv (ps s ls k) := r45n_2 (by omega)
theorem pvs3 (U V W : Tr) : Tr.pvs [U, V, W] = [U.pv, V.pv, W.pv] := by rw [Tr.pvs, Tr.pvs, Tr.pvs, Tr.pvs]
theorem e45_3 {f : Nat} (h : AtW s ls f w) (hf : f < k) (kd : Int) (tx : List UInt8) (U V W : Tr) : ∃ a : Int, E 50 [.ref 0 0, N f, I kd, .str tx, .slice false 5 [U.pv, V.pv, W.pv]] (ps s ls k) (Tr.mk kd tx a (en ls k : Nat) false [U, V, W]).pv (ps s ls k) := by
  have := e45 (D := []) h hf kd tx [U, V, W]
  rwa [pvs3] at this
theorem none_parts (hg : Good T d) (hk : T.kind = 0) : T.text = [] ∧ T.kids = [] := by
  obtain ⟨_, _, _, htx, _⟩ := Aq7 hg.loc;rw [hk] at htx;exact ⟨by simpa [Aq5] using htx, inv0 hg.loc hk rfl⟩
theorem rt9 (hk : T.kind = 9) (hg : Good T d) : Rd s ls 132 (fun v => v.2 ≠ [91]) (tks T) T := by
  obtain ⟨_, _, _, htx, _⟩ := Aq7 hg.loc;rw [hk] at htx;have hks := inv0 hg.loc hk rfl;have hw : tks T = [(if AxA T.text then 1 else 0, T.text)] := by rw [AqH]; simp [nodeW, hk]
  rw [hw];simp [Aq5] at htx;intro k j v hs hj hv hf;have e : j = k + 1 := hj;subst e;have hs1 := hs.1;by_cases h1 : T.text = [98, 111, 111, 108]
  · obtain ⟨a, ha⟩ := e45n (D := []) (f := k) (k := k + 1) hs1 (by omega) 9 [98, 111, 111, 108]
    exact ⟨_, AqP hk h1 hks rfl, AjL, r114_1 (e68t hs1 (by decide) h1) ha⟩
  · by_cases h2 : T.text = [105, 110, 116]
    · obtain ⟨a, ha⟩ := e45n (D := []) (f := k) (k := k + 1) hs1 (by omega) 9 [105, 110, 116]
      exact ⟨_, AqP hk h2 hks rfl, AjL, r114_2 (e68f hs1 (by decide) h1) (e68t hs1 (by decide) h2) (e68f hv (by decide) hf) ha⟩
    · have hn : nameB T.text = true := by
        rcases htx with (h | h) | h
        · exact absurd h h2
        · exact absurd h h1
        · exact h
      have hkw : AxA T.text = false := by
        simp only [nameB, Bool.and_eq_true, Bool.not_eq_true'] at hn;exact hn.1.2
      obtain ⟨a, ha⟩ := e45n (D := []) (f := k) (k := k + 1) hs1 (by omega) 9 T.text
      exact ⟨_, AqP hk rfl hks rfl, AjL, r114_3 (e68f hs1 (by decide) h1) (e68f hs1 (by decide) h2) (e39 hs1) (by simp [hkw]) (e44 hs1) ha⟩
theorem rt10 (hk : T.kind = 10) (hg : Good T d) : Rd s ls 132 (fun _ => True) (tks T) T := by
  obtain ⟨_, _, _, htx, _⟩ := Aq7 hg.loc;rw [hk] at htx;have hks := inv0 hg.loc hk rfl;have hn : AxU T.text = true := by simpa [Aq5] using htx
  have hw : tks T = kwW [105, 110, 116] :: symW 91 :: (2, T.text) :: [symW 93] := by rw [AqH]; simp [tkss, nodeW, atW, hk]
  rw [hw];intro k j v hs hj hv hf;obtain ⟨h1, h2, h3, h4, _⟩ := hs;have e : j = k + 1 + 1 + 1 + 1 := hj;subst e;obtain ⟨a, ha⟩ := e45n (D := []) (f := k) (k := k + 1 + 1 + 1 + 1) h1 (by omega) 10 T.text
  exact ⟨_, AqP hk rfl hks rfl, AjL, r114_5 (e68f h1 (by decide) (by decide)) (e68t h1 (by decide) rfl) (e68t h2 (by decide) rfl) (e39 h3) rfl (e44 h3) (numb_118 hn) (e66t h4 (by decide) rfl) ha⟩
theorem ro70 (hg : Good U d) (hU : (AqI U.kind || U.kind == 0) = true) : Rd s ls 67 (fun v => v.2 ≠ [58] ∧ v.2 ≠ [91]) (AzR (U.kind, tks U)) U := by
  intro k j v hs hj hv hf;by_cases h0 : U.kind = 0
  · obtain ⟨ht, hks⟩ := none_parts hg h0;have hw : AzR (U.kind, tks U) = [] := by simp [AzR, h0]
    rw [hw] at hs hj;have e : j = k := hj;subst e;exact ⟨_, AqP h0 ht hks rfl, AjL, r70_2 (e68f hv (by decide) hf.1) (e45o 0 [])⟩
  · have hw : AzR (U.kind, tks U) = symW 58 :: tks U := by simp [AzR, h0]
    rw [hw] at hs hj;obtain ⟨h1, h2⟩ := hs;have e : j = k + 1 + (tks U).length := by simp only [List.length_cons] at hj; omega
    have hr : Rd s ls 132 (fun v => v.2 ≠ [91]) (tks U) U := by
      simp [AqI, h0] at hU;rcases hU with h | h
      · exact rt9 h hg
      · exact (rt10 h hg).weak fun _ _ => trivial
    obtain ⟨W, q1, q2, q3⟩ := hr _ _ _ h2 e hv hf.2;exact ⟨W, q1, q2, r70_1 (e68t h1 (by decide) rfl) q3⟩
theorem text_name (hg : Good T d) (h : T.kind = 3 ∨ T.kind = 4 ∨ T.kind = 5 ∨ T.kind = 7 ∨ T.kind = 8 ∨ T.kind = 12 ∨ T.kind = 16 ∨ T.kind = 19 ∨ T.kind = 20 ∨ T.kind = 22 ∨ T.kind = 27) : nameB T.text = true := by
  obtain ⟨_, _, _, htx, _⟩ := Aq7 hg.loc;rcases h with h | h | h | h | h | h | h | h | h | h | h <;> rw [h] at htx <;> simpa [Aq5] using htx
def F69 (f : Nat) (ts : List Tr) : FF := [(0, some (.ref 0 0)), (2, some (.agg [I 0, .str [], I 0, I 0, .nils])), (3, some (N f)), (4, some (.slice true 5 (Tr.pvs ts)))]
theorem kids_low {P : Int → Prop} {K : Int} (hK : ∀ (i : Nat) (k' : Int) (t' : List UInt8), kidOk K i k' t' = true → P k') : ∀ {us : List Tr} {i : Nat}, Ax2 K i us = true → ∀ U ∈ us, P U.kind
  | [], _, _, U, h => by cases h
  | V :: us, i, h, U, hU => by
    simp only [Ax2, Bool.and_eq_true] at h;rcases List.mem_cons.1 hU with rfl | hU
    · exact hK _ _ _ h.1
    · exact kids_low hK h.2 U hU
end
end Go.Abs.Z

set_option linter.unusedSimpArgs false
set_option linter.unusedVariables false
namespace Go.Abs.Z
open Go.Proofs Go.RowKit
section
variable {s : List UInt8} {ls : List Tk} {k j : Nat} {w v : Wd} {T U V X : Tr} {d : Nat}
theorem ihe (hg : Good T d) : IHE s ls T := fun U hU h20 => expr_ph _ U 0 (Nat.le_refl _) (hg.kid hU 0 (by omega)) h20
theorem lev0 {k : Int} {t : List UInt8} (h : k < 20) : lev k t = 0 := by unfold lev; rw [if_pos h]
theorem kidE (hg : Good T d) (hk : T.kind < 20) (hU : U ∈ T.kids) (h20 : 20 ≤ U.kind ∧ U.kind ≤ 29) (i : Nat) : PH s ls 1 (parW T.kind T.text i U (tks U)) U :=
  item (m := 1) h20 (ihe hg U hU h20) (by rw [lev0 hk]; rfl) (by omega)
theorem kidQ (hg : Good T d) (hk : T.kind < 20) (hU : U ∈ T.kids) (h20 : 20 ≤ U.kind ∧ U.kind ≤ 29) (i : Nat) : Qx s ls 1 (parW T.kind T.text i U (tks U)) U := q_of (kidE hg hk hU h20 i) (by omega) (by omega)
theorem parW_place {K : Int} {t : List UInt8} {i : Nat} (h : 20 ≤ U.kind ∧ U.kind ≤ 27) : parW K t i U (tks U) = tks U := by
  have h8 : parV K t i U.kind U.text = false := by
    unfold parV;have := needV_le (k := K) (i := i) (lev_rng K t);rw [lev8 h.1 h.2, decide_eq_false_iff_not];omega
  unfold parW;rw [h8]; rfl
theorem place_ok (hg : Good U d) (hk : U.kind = 20 ∨ U.kind = 21 ∨ U.kind = 22) (hs : Sp s ls k (tks U)) (hj : j = k + (tks U).length) (hv : AtW s ls j v) (h1 : v.2 ≠ [91]) (h2 : v.2 ≠ [46]) (h3 : v.2 ≠ [40]) :
    ∃ x y, AtW s ls k x ∧ x.1 = 0 ∧ nameB x.2 = true ∧ AtW s ls (k + 1) y ∧ y.2 ≠ [40] ∧ ∃ W : Tr, bare W = bare U ∧ W.wf ∧ E 74 [.ref 0 0] (ps s ls k) W.pv (ps s ls j) := by
  obtain ⟨_, _, _, htx, _⟩ := Aq7 hg.loc;rcases hk with hk | hk | hk
  · have hn := text_name hg (by omega)
    have hw : tks U = [(0, U.text)] := by rw [AqH]; simp [tkss, nodeW, atW, hk]
    rw [hw] at hs hj;have e : j = k + 1 := hj;subst e;obtain ⟨a, ha⟩ := e122 hs.1 rfl;exact ⟨_, _, hs.1, rfl, hn, hv, h3, _, AqP hk rfl (inv0 hg.loc hk rfl) rfl, AjL, r121_3 ha (e68f hv (by decide) h1) (e68f hv (by decide) h2)⟩
  · rw [hk] at htx;have ht : U.text = [] := by simpa [Aq5] using htx
    obtain ⟨A, B, hks, c0, c1⟩ := inv2 hg.loc hk rfl rfl;simp [kidOk] at c0;simp [kidOk, Ax0] at c1;have mA : A ∈ U.kids := by rw [hks]; simp
    have mB : B ∈ U.kids := by rw [hks]; simp
    obtain ⟨hn, hkA⟩ := kid_name mA hg c0;have hw : tks U = parW U.kind U.text 0 A (tks A) ++ (symW 91 :: (parW U.kind U.text 1 B (tks B) ++ [symW 93])) := by rw [AqH, hks]; simp [tkss, nodeW, atW, hk]
    rw [AjX c0] at hw;have hB := q_of (item (s := s) (ls := ls) (T := U) (i := 1) (m := 1) c1 (ihe hg B mB c1) (by rw [hk, lev8 (by decide) (by decide)]; rfl) (by omega)) (by omega) (by omega)
    rw [hw] at hs hj;obtain ⟨g1, g2, g3⟩ := hs;obtain ⟨g4, g5, _⟩ := AxD.1 g3
    have e : j = k + 1 + 1 + (parW U.kind U.text 1 B (tks B)).length + 1 := by
      simp only [List.length_append, List.length_cons, List.length_nil] at hj; omega
    obtain ⟨a, ha⟩ := e122 g1 rfl;obtain ⟨V, q1, q2, q3⟩ := hB _ _ _ g4 rfl g5 AzY;obtain ⟨c, hc⟩ := e45_2 (D := []) (f := k) (k := j) g1 (by omega) 21 [] (Tr.mk 20 A.text a (en ls (k + 1) : Nat) true []) V
    subst e;exact ⟨_, _, g1, rfl, hn, g2, by decide, _, AqP hk ht hks (by simp [q1, AqP c0 rfl hkA rfl]), wf_mk (by simp [q2, AjL]), r121_1 ha (e68t g2 (by decide) rfl) q3 (e66t g5 (by decide) rfl) hc⟩
  · obtain ⟨A, hks, c0⟩ := inv1 hg.loc hk rfl rfl;simp [kidOk] at c0;have mA : A ∈ U.kids := by rw [hks]; simp
    obtain ⟨hn, hkA⟩ := kid_name mA hg c0;have hw : tks U = parW U.kind U.text 0 A (tks A) ++ (symW 46 :: [(0, U.text)]) := by rw [AqH, hks]; simp [tkss, nodeW, atW, hk]
    rw [AjX c0] at hw;rw [hw] at hs hj;obtain ⟨g1, g2, g3, _⟩ := hs;have e : j = k + 1 + 1 + 1 := hj;subst e;obtain ⟨a, ha⟩ := e122 g1 rfl;obtain ⟨c, hc⟩ := e45_1 (D := []) (f := k) (k := k + 1 + 1 + 1) g1 (by omega) 22 U.text (Tr.mk 20 A.text a (en ls (k + 1) : Nat) true [])
    exact ⟨_, _, g1, rfl, hn, g2, by decide, _, AqP hk rfl hks (by simp [AqP c0 rfl hkA rfl]), wf_mk (by simp [AjL]), r121_2 ha (e68f g2 (by decide) (by decide)) (e68t g2 (by decide) rfl) (e65 g3 rfl) hc⟩
theorem ar_kids0 (hg : Good T d) (hk : T.kind < 20) : ∀ (us : List Tr) (i : Nat), (∀ U ∈ us, U ∈ T.kids ∧ 20 ≤ U.kind ∧ U.kind ≤ 29) → Ar s ls us (tkss us T.kind T.text i)
  | [], i, _ => by rw [tkss]; trivial
  | U :: us, i, h => by
    rw [tkss];obtain ⟨hm, he⟩ := h U (List.mem_cons_self ..);have hi := kidE (s := s) (ls := ls) hg hk hm he i;exact ⟨q_of hi (by omega) (by omega), hi.hc, ar_kids0 hg hk us (i + 1) fun V hV => h V (List.mem_cons_of_mem _ hV)⟩
theorem e120_ok {us : List Tr} {l : List (Int × List Wd)} (ha : Ar s ls us l) (hl : us.length ≤ Ax1) (hs : Sp s ls k (symW 40 :: (AxE l ++ [symW 41]))) (hj : j = k + 1 + (AxE l).length + 1) :
    ∃ vs : List Tr, vs.map bare = us.map bare ∧ (∀ u ∈ vs, u.wf) ∧ E 73 [.ref 0 0] (ps s ls k) (.slice false 5 (Tr.pvs vs)) (ps s ls j) := by
  obtain ⟨h2, h3⟩ := hs;obtain ⟨h4, h5, _⟩ := AxD.1 h3;subst hj;cases l with
  | nil =>
    cases us with
    | nil => exact ⟨[], rfl, by simp, r120_1 (e44 h2) (e40t h5 (by decide) rfl) (e66t h5 (by decide) rfl)⟩
    | cons => exact ha.elim
  | cons x l =>
    cases us with
    | nil => exact ha.elim
    | cons U vs =>
      rw [commas_tail] at h4 h5 ⊢;obtain ⟨h5', h6⟩ := AxD.1 h4
      have e2 : k + 1 + (x.2 ++ tailW l).length = k + 1 + x.2.length + (tailW l).length := by
        simp only [List.length_append]; omega
      obtain ⟨v', q1, q2⟩ := next_tail h6 e2 h5 AzY;obtain ⟨V, g1, g2, g3⟩ := ha.1 _ _ _ h5' rfl q1 q2;obtain ⟨us, p1, p2, p3⟩ := args_120 [V] ha.2.2 h6 e2 h5 (by decide) AzY (by simp at hl ⊢; omega)
      rw [pvs1] at p3
      have hh : ∃ y, AtW s ls (k + 1) y ∧ y.2 ≠ [41] := by
        have := ha.2.1;cases hx : x.2 with
        | nil => rw [hx] at this; exact this.elim
        | cons y r => rw [hx] at this h5'; exact ⟨y, h5'.1, this⟩
      obtain ⟨y, y1, y2⟩ := hh;exact ⟨[V] ++ us, by simp [g1, p1], by simpa [g2] using p2, r120_2 (e44 h2) (e40f y1 (by decide) y2) g3 p3 (e66t h5 (by decide) rfl)⟩
def prim (x : Wd) : Prop := x.1 = 0 ∨ x.1 = 2 ∨ x.2 = [116, 114, 117, 101] ∨ x.2 = [102, 97, 108, 115, 101] ∨ x.2 = [108, 101, 110] ∨ x.2 = [40] ∨ x.2 = [91]
def bg (w : List Wd) : Prop := ∃ x r, w = x :: r ∧ (prim x ∨ x.2 = [110, 111, 116] ∨ x.2 = [45])
theorem bg_app {a b : List Wd} (h : bg a) : bg (a ++ b) := by
  obtain ⟨x, r, rfl, h⟩ := h;exact ⟨x, r ++ b, rfl, h⟩
theorem bg_par {K : Int} {t : List UInt8} {i : Nat} (h : bg (tks U)) : bg (parW K t i U (tks U)) := by
  unfold parW;split
  · exact ⟨symW 40, _, rfl, .inl (by unfold prim; simp [symW])⟩
  · exact h
theorem expr_head : ∀ (n : Nat) (T : Tr) (d : Nat), T.pre.length ≤ n → Good T d → 20 ≤ T.kind ∧ T.kind ≤ 29 → bg (tks T)
  | 0, T, d, h, _, _ => by obtain ⟨k, t, a, e, n, ks⟩ := T; simp [Tr.pre] at h
  | n + 1, T, d, h, hg, h20 => by
    have ih : ∀ U ∈ T.kids, 20 ≤ U.kind ∧ U.kind ≤ 29 → bg (tks U) := fun U hU h20 => expr_head n U 0 (by have := AzX T U hU; omega) (hg.kid hU 0 (by omega)) h20
    obtain ⟨_, _, _, htx, _⟩ := Aq7 hg.loc;have : T.kind = 20 ∨ T.kind = 21 ∨ T.kind = 22 ∨ T.kind = 23 ∨ T.kind = 24 ∨ T.kind = 25 ∨ T.kind = 26 ∨ T.kind = 27 ∨ T.kind = 28 ∨ T.kind = 29 := by omega
    rcases this with hk | hk | hk | hk | hk | hk | hk | hk | hk | hk
    · have hw : tks T = [(0, T.text)] := by rw [AqH]; simp [tkss, nodeW, atW, hk]
      rw [hw]; exact ⟨_, _, rfl, .inl (.inl rfl)⟩
    · obtain ⟨U, V, hks, c0, c1⟩ := inv2 hg.loc hk rfl rfl;simp [kidOk] at c0;have hw : tks T = parW T.kind T.text 0 U (tks U) ++ (symW 91 :: (parW T.kind T.text 1 V (tks V) ++ [symW 93])) := by rw [AqH, hks]; simp [tkss, nodeW, atW, hk]
      rw [hw]; exact bg_app (bg_par (ih U (by rw [hks]; simp) (by omega)))
    · obtain ⟨U, hks, c0⟩ := inv1 hg.loc hk rfl rfl;simp [kidOk] at c0;have hw : tks T = parW T.kind T.text 0 U (tks U) ++ (symW 46 :: [(0, T.text)]) := by rw [AqH, hks]; simp [tkss, nodeW, atW, hk]
      rw [hw]; exact bg_app (bg_par (ih U (by rw [hks]; simp) (by omega)))
    · obtain ⟨U, hks, c0⟩ := inv1 hg.loc hk rfl rfl;have hw : tks T = kwW [108, 101, 110] :: symW 40 :: (parW T.kind T.text 0 U (tks U) ++ [symW 41]) := by rw [AqH, hks]; simp [tkss, nodeW, atW, hk]
      rw [hw]; exact ⟨_, _, rfl, .inl (by unfold prim; simp [kwW])⟩
    · have hw : tks T = [(2, T.text)] := by rw [AqH]; simp [tkss, nodeW, atW, hk]
      rw [hw]; exact ⟨_, _, rfl, .inl (.inr (.inl rfl))⟩
    · rw [hk] at htx;have hn : T.text = [116, 114, 117, 101] ∨ T.text = [102, 97, 108, 115, 101] := by simpa [Aq5] using htx
      have hw : tks T = [(1, T.text)] := by rw [AqH]; simp [tkss, nodeW, atW, hk]
      rw [hw];rcases hn with h | h
      · exact ⟨_, _, rfl, .inl (.inr (.inr (.inl h)))⟩
      · exact ⟨_, _, rfl, .inl (.inr (.inr (.inr (.inl h))))⟩
    · have hw : tks T = symW 91 :: (AxE (tkss T.kids T.kind T.text 0) ++ [symW 93]) := by rw [AqH]; simp [tkss, nodeW, atW, hk]
      rw [hw]; exact ⟨_, _, rfl, .inl (by unfold prim; simp [symW])⟩
    · have hw : tks T = (0, T.text) :: symW 40 :: (AxE (tkss T.kids T.kind T.text 0) ++ [symW 41]) := by rw [AqH]; simp [tkss, nodeW, atW, hk]
      rw [hw]; exact ⟨_, _, rfl, .inl (.inl rfl)⟩
    · obtain ⟨U, hks, c0⟩ := inv1 hg.loc hk rfl rfl;rw [hk] at htx;by_cases hn : T.text = [110, 111, 116]
      · have hw : tks T = kwW [110, 111, 116] :: parW T.kind T.text 0 U (tks U) := by rw [AqH, hks]; simp [tkss, nodeW, atW, hk, hn, kwW]
        rw [hw]; exact ⟨_, _, rfl, .inr (.inl rfl)⟩
      · have ht2 : T.text = [45] := by simpa [Aq5, hn] using htx
        have hw : tks T = symW 45 :: parW T.kind T.text 0 U (tks U) := by rw [AqH, hks]; simp [tkss, nodeW, atW, hk, ht2, symW]
        rw [hw]; exact ⟨_, _, rfl, .inr (.inr rfl)⟩
    · obtain ⟨U, V, hks, c0, c1⟩ := inv2 hg.loc hk rfl rfl;simp [kidOk, Ax0] at c0;have hw : tks T = (parW T.kind T.text 0 U (tks U) ++ ([opW T.text] ++ parW T.kind T.text 1 V (tks V))) := by rw [AqH, hks]; simp [tkss, nodeW, atW, hk]
      rw [hw]; exact bg_app (bg_par (ih U (by rw [hks]; simp) (by omega)))
open Classical in
theorem e147 (h : AtW s ls k w) : E 71 [.ref 0 0] (ps s ls k) (.bool (decide (prim w))) (ps s ls k) := by
  by_cases h0 : w.1 = 0
  · rw [decide_eq_true (p := prim w) (.inl h0)]; exact r147_1 (e39 h) (by omega)
  · by_cases h2 : w.1 = 2
    · rw [decide_eq_true (p := prim w) (.inr (.inl h2))]; exact r147_2 (e39 h) (by omega) (e39 h) (by omega)
    · by_cases h3 : w.2 = [116, 114, 117, 101]
      · rw [decide_eq_true (p := prim w) (by unfold prim; simp [h3])]; exact r147_3 (e39 h) (by omega) (e39 h) (by omega) (e40t h (by decide) h3)
      · by_cases h4 : w.2 = [102, 97, 108, 115, 101]
        · rw [decide_eq_true (p := prim w) (by unfold prim; simp [h4])]; exact r147_4 (e39 h) (by omega) (e39 h) (by omega) (e40f h (by decide) h3) (e40t h (by decide) h4)
        · by_cases h5 : w.2 = [108, 101, 110]
          · rw [decide_eq_true (p := prim w) (by unfold prim; simp [h5])]; exact r147_5 (e39 h) (by omega) (e39 h) (by omega) (e40f h (by decide) h3) (e40f h (by decide) h4) (e40t h (by decide) h5)
          · by_cases h6 : w.2 = [40]
            · rw [decide_eq_true (p := prim w) (by unfold prim; simp [h6])]; exact r147_6 (e39 h) (by omega) (e39 h) (by omega) (e40f h (by decide) h3) (e40f h (by decide) h4) (e40f h (by decide) h5) (e40t h (by decide) h6)
            · by_cases h7 : w.2 = [91]
              · rw [decide_eq_true (p := prim w) (by unfold prim; simp [h7])]; exact r147_7 (e39 h) (by omega) (e39 h) (by omega) (e40f h (by decide) h3) (e40f h (by decide) h4) (e40f h (by decide) h5) (e40f h (by decide) h6) (e40t h (by decide) h7)
              · rw [decide_eq_false (p := prim w) (by unfold prim; simp [h0, h2, h3, h4, h5, h6, h7])]; exact r147_7 (e39 h) (by omega) (e39 h) (by omega) (e40f h (by decide) h3) (e40f h (by decide) h4) (e40f h (by decide) h5) (e40f h (by decide) h6) (e40f h (by decide) h7)
open Classical in
theorem e147t (h : AtW s ls k w) (hp : prim w) : E 71 [.ref 0 0] (ps s ls k) (.bool true) (ps s ls k) := by
  have := e147 h
  rwa [decide_eq_true hp] at this
open Classical in
theorem e147f (h : AtW s ls k w) (hp : ¬ prim w) : E 71 [.ref 0 0] (ps s ls k) (.bool false) (ps s ls k) := by
  have := e147 h
  rwa [decide_eq_false hp] at this
def AjE (v : Wd) : Prop := v.2 ≠ [101, 108, 115, 101]
def sH (x : List UInt8) : Prop := x ≠ [] ∧ x ≠ [101, 108, 115, 101] ∧ x ≠ [125] ∧ x ≠ [112, 114, 111, 99] ∧ x ≠ [114, 101, 99, 111, 114, 100]
def sHead (w : List Wd) : Prop := ∃ x r, w = x :: r ∧ sH x.2
theorem sH_name {x : List UInt8} (h : nameB x = true) : sH x := ⟨Ax3 h rfl, Ax3 h rfl, Ax3 h rfl, Ax3 h rfl, Ax3 h rfl⟩
theorem e115f (h : AtW s ls k w) (hs : sH w.2) : E 133 [.ref 0 0] (ps s ls k) (.bool false) (ps s ls k) := by
  have h5 : w.1 ≠ 5 := fun h5 => hs.1 (h.nil h5)
  exact r115_4 (e39 h) (by omega) (e40f h (by decide) hs.2.2.1) (e40f h (by decide) hs.2.2.2.1) (e40f h (by decide) hs.2.2.2.2)
theorem e115t (h : AtW s ls k w) (hs : w.2 = [125]) : E 133 [.ref 0 0] (ps s ls k) (.bool true) (ps s ls k) := by
  have h5 : w.1 ≠ 5 := fun h5 => by rw [h.nil h5] at hs; cases hs
  exact r115_2 (e39 h) (by omega) (e40t h (by decide) hs)
variable (s ls) in
def SL : List Tr → List (Int × List Wd) → Prop
  | [], [] => True
  | U :: us, x :: l => Rd s ls 29 AjE x.2 U ∧ sHead x.2 ∧ SL us l
  | _, _ => False
def flatW (l : List (Int × List Wd)) : List Wd := (l.map (·.2)).flatten
theorem next_stm {vs : List Tr} {l : List (Int × List Wd)} (hl : SL s ls vs l) (hs : Sp s ls k (flatW l)) (hj : j = k + (flatW l).length) (hv : AtW s ls j v) (hf : v.2 = [125]) : ∃ v', AtW s ls k v' ∧ AjE v' := by
  cases l with
  | nil => exact ⟨v, by rw [hj] at hv; exact hv, by unfold AjE; rw [hf]; decide⟩
  | cons x l =>
    cases vs with
    | nil => exact hl.elim
    | cons U vs =>
      obtain ⟨y, r, hy, h1⟩ := hl.2.1;have : flatW (x :: l) = y :: (r ++ flatW l) := by simp [flatW, hy]
      rw [this] at hs;exact ⟨y, hs.1, h1.2.1⟩
theorem stms_71 {f : Nat} : ∀ {vs : List Tr} {l : List (Int × List Wd)} (ts : List Tr) {k : Nat}, SL s ls vs l → Sp s ls k (flatW l) → j = k + (flatW l).length → AtW s ls j v → v.2 = [125] → ts.length + vs.length ≤ Ax1 →
    ∃ us : List Tr, us.map bare = vs.map bare ∧ (∀ u ∈ us, u.wf) ∧ LE m71_0 l71_0 (F69 f ts) (ps s ls k) (.exit 0) (F69 f (ts ++ us)) (ps s ls j)
  | [], [], ts, k, _, _, hj, hv, he, _ => by
    have e : j = k := hj;subst e;refine ⟨[], rfl, by simp, ?_⟩
    rw [List.append_nil];exact r71_l0_out1 (e115t hv he)
  | U :: vs, x :: l, ts, k, ha, hs, hj, hv, he, hl => by
    have hw : flatW (x :: l) = x.2 ++ flatW l := by simp [flatW]
    rw [hw] at hs hj;obtain ⟨h3, h4⟩ := AxD.1 hs
    have e : j = k + x.2.length + (flatW l).length := by
      simp only [List.length_append] at hj; omega
    obtain ⟨v', q1, q2⟩ := next_stm ha.2.2 h4 e hv he;obtain ⟨V, g1, g2, g3⟩ := ha.1 _ _ _ h3 rfl q1 q2;obtain ⟨us, p1, p2, p3⟩ := stms_71 (f := f) (ts ++ [V]) ha.2.2 h4 e hv he (by simp at hl ⊢; omega)
    rw [List.append_assoc] at p3;obtain ⟨y, r, hy, h1⟩ := ha.2.1;rw [hy] at h3;exact ⟨V :: us, by simp [g1, p1], by simpa [g2] using p2, r71_l0_next1 (e115f h3.1 h1) g3 (by simp at hl; omega) p3⟩
  | [], _ :: _, _, _, h, _, _, _, _, _ => h.elim
  | _ :: _, [], _, _, h, _, _, _, _, _ => h.elim
end
end Go.Abs.Z

set_option linter.unusedSimpArgs false
set_option linter.unusedVariables false
namespace Go.Abs.Z
open Go.Proofs Go.RowKit
section
variable {s : List UInt8} {ls : List Tk} {k j : Nat} {w v : Wd} {T U V X : Tr} {d : Nat}
variable (s ls) in
structure StP (T : Tr) : Prop where
  b : T.kind = 11 → Rd s ls 70 (fun _ => True) (tks T) T ∧ ∃ r, tks T = symW 123 :: r
  i : T.kind = 14 → Rd s ls 69 AjE (tks T) T ∧ ∃ r, tks T = kwW [105, 102] :: r
  t : 12 ≤ T.kind ∧ T.kind ≤ 19 → Rd s ls 29 AjE (tks T) T ∧ sHead (tks T)
variable (s ls) in
def IHS (T : Tr) : Prop := ∀ U ∈ T.kids, StP s ls U
theorem sl_kids {K : Int} {t : List UInt8} : ∀ (us : List Tr) (i : Nat), (∀ U ∈ us, U.kind < 20 ∧ Rd s ls 29 AjE (tks U) U ∧ sHead (tks U)) → SL s ls us (tkss us K t i)
  | [], i, _ => by rw [tkss]; trivial
  | U :: us, i, h => by
    rw [tkss];obtain ⟨h1, h2, h3⟩ := h U (List.mem_cons_self ..);rw [Az3 h1];exact ⟨h2, h3, sl_kids us (i + 1) fun V hV => h V (List.mem_cons_of_mem _ hV)⟩
theorem rs11 (hk : T.kind = 11) (hg : Good T d) (ih : IHS s ls T) : Rd s ls 70 (fun _ => True) (tks T) T ∧ ∃ r, tks T = symW 123 :: r := by
  obtain ⟨_, _, _, htx, _, _, hkk⟩ := Aq7 hg.loc;rw [hk] at htx hkk;have ht : T.text = [] := by simpa [Aq5] using htx
  have h7 := kids_low (P := fun k => 12 ≤ k ∧ k ≤ 19) (fun i k' t' h => by simpa [kidOk, AjF] using h) hkk
  have ha : SL s ls T.kids (tkss T.kids T.kind T.text 0) := sl_kids T.kids 0 fun U hU => by
    have h8 := h7 U hU;have := (ih U hU).t h8;exact ⟨by omega, this.1, this.2⟩
  have hw : tks T = symW 123 :: (flatW (tkss T.kids T.kind T.text 0) ++ [symW 125]) := by rw [AqH]; simp [nodeW, hk, flatW]
  have hl := kids_max hg;rw [hw];refine ⟨?_, _, rfl⟩
  generalize tkss T.kids T.kind T.text 0 = l at ha;intro k j v hs hj hv hf;obtain ⟨h2, h3⟩ := hs;obtain ⟨h4, h5, _⟩ := AxD.1 h3
  have e : j = k + 1 + (flatW l).length + 1 := by
    simp only [List.length_append, List.length_cons, List.length_nil] at hj ⊢; omega
  obtain ⟨us, p1, p2, p3⟩ := stms_71 (f := k) [] ha h4 rfl h5 rfl (by simp; omega)
  obtain ⟨c, hc⟩ := e45 (D := []) (f := k) (k := j) h2 (by omega) 11 [] us
  subst e;exact ⟨_, AqP hk ht rfl p1, wf_mk p2, r71_1 (e66t h2 (by decide) rfl) p3 (e66t h5 (by decide) rfl) hc⟩
theorem rs12 (hk : T.kind = 12) (hg : Good T d) : Rd s ls 29 AjE (tks T) T ∧ sHead (tks T) := by
  obtain ⟨U, V, hks, c0, c1⟩ := inv2 hg.loc hk rfl rfl;simp [kidOk] at c0;simp [kidOk, Ax0] at c1;have mU : U ∈ T.kids := by rw [hks]; simp
  have mV : V ∈ T.kids := by rw [hks]; simp
  have hn := text_name hg (by omega)
  have c0' : (AqI U.kind || U.kind == 0) = true := by simpa using c0
  have rU := AjI c0';have hw : tks T = kwW [118, 97, 114] :: (0, T.text) :: (AzR (U.kind, tks U) ++ (symW 61 :: (parW T.kind T.text 1 V (tks V) ++ [symW 59]))) := by rw [AqH, hks]; simp [tkss, nodeW, atW, hk, Az3 (show U.kind < 20 by omega)]
  have hU := ro70 (s := s) (ls := ls) (hg.kid mU 0 (by omega)) c0'
  have hV := kidQ (s := s) (ls := ls) hg (by omega) mV c1 1
  rw [hw];refine ⟨?_, _, _, rfl, by unfold sH; decide⟩
  generalize AzR (U.kind, tks U) = a at hU;generalize parW T.kind T.text 1 V (tks V) = b at hV;intro k j v hs hj hv hf;obtain ⟨h1, h2, h3⟩ := hs;obtain ⟨h4, h5, h6⟩ := AxD.1 h3;obtain ⟨h7, h8, _⟩ := AxD.1 h6
  have e : j = k + 1 + 1 + a.length + 1 + b.length + 1 := by
    simp only [List.length_append, List.length_cons, List.length_nil] at hj ⊢; omega
  obtain ⟨A, p1, p2, p3⟩ := hU _ _ _ h4 rfl h5 ⟨by decide, by decide⟩
  obtain ⟨B, q1, q2, q3⟩ := hV _ _ _ h7 rfl h8 AzY;obtain ⟨c, hc⟩ := e45_2 (D := []) (f := k) (k := j) h1 (by omega) 12 T.text A B
  subst e;exact ⟨_, AqP hk rfl hks (by simp [p1, q1]), wf_mk (by simp [p2, q2]), r116_1 (e68t h1 (by decide) rfl) (e65 h2 rfl) p3 (e66t h5 (by decide) rfl) q3 (e66t h8 (by decide) rfl) hc⟩
theorem place_head (hg : Good U d) (hk : U.kind = 20 ∨ U.kind = 21 ∨ U.kind = 22) : ∃ x r, tks U = x :: r ∧ nameB x.2 = true := by
  rcases hk with hk | hk | hk
  · have hw : tks U = [(0, U.text)] := by rw [AqH]; simp [tkss, nodeW, atW, hk]
    exact ⟨_, _, hw, text_name hg (by omega)⟩
  · obtain ⟨A, B, hks, c0, c1⟩ := inv2 hg.loc hk rfl rfl;simp [kidOk] at c0;have mA : A ∈ U.kids := by rw [hks]; simp
    have hw : tks U = parW U.kind U.text 0 A (tks A) ++ (symW 91 :: (parW U.kind U.text 1 B (tks B) ++ [symW 93])) := by rw [AqH, hks]; simp [tkss, nodeW, atW, hk]
    rw [AjX c0] at hw;exact ⟨_, _, hw, (kid_name mA hg c0).1⟩
  · obtain ⟨A, hks, c0⟩ := inv1 hg.loc hk rfl rfl;simp [kidOk] at c0;have mA : A ∈ U.kids := by rw [hks]; simp
    have hw : tks U = parW U.kind U.text 0 A (tks A) ++ (symW 46 :: [(0, U.text)]) := by rw [AqH, hks]; simp [tkss, nodeW, atW, hk]
    rw [AjX c0] at hw;exact ⟨_, _, hw, (kid_name mA hg c0).1⟩
theorem rs13 (hk : T.kind = 13) (hg : Good T d) : Rd s ls 29 AjE (tks T) T ∧ sHead (tks T) := by
  obtain ⟨U, V, hks, c0, c1⟩ := inv2 hg.loc hk rfl rfl;simp [kidOk, AzC] at c0;simp [kidOk, Ax0] at c1;have mU : U ∈ T.kids := by rw [hks]; simp
  have mV : V ∈ T.kids := by rw [hks]; simp
  obtain ⟨_, _, _, htx, _⟩ := Aq7 hg.loc;rw [hk] at htx;have ht : T.text = [] := by simpa [Aq5] using htx
  have hw : tks T = parW T.kind T.text 0 U (tks U) ++ (symW 61 :: (parW T.kind T.text 1 V (tks V) ++ [symW 59])) := by rw [AqH, hks]; simp [tkss, nodeW, atW, hk]
  have hV := kidQ (s := s) (ls := ls) hg (by omega) mV c1 1
  have hgU := hg.kid mU 0 (by omega)
  rw [parW_place (by omega)] at hw
  rw [hw];refine ⟨?_, ?_⟩
  · generalize parW T.kind T.text 1 V (tks V) = b at hV;intro k j v hs hj hv hf;obtain ⟨h4, h5, h6⟩ := AxD.1 hs;obtain ⟨h7, h8, _⟩ := AxD.1 h6
    have e : j = k + (tks U).length + 1 + b.length + 1 := by
      simp only [List.length_append, List.length_cons, List.length_nil] at hj ⊢; omega
    obtain ⟨x, y, hx, x0, xn, hy, y1, A, p1, p2, p3⟩ := place_ok hgU (by omega) h4 rfl h5 (by decide) (by decide) (by decide)
    obtain ⟨B, q1, q2, q3⟩ := hV _ _ _ h7 rfl h8 AzY;obtain ⟨c, hc⟩ := e45_2 (D := []) (f := k) (k := j) hx (by omega) 13 [] A B
    subst e;exact ⟨_, AqP hk ht hks (by simp [p1, q1]), wf_mk (by simp [p2, q2]), r116_13 (e68f hx (by decide) (Ax3 xn rfl)) (e40f hx (by decide) (Ax3 xn rfl)) (e68f hx (by decide) (Ax3 xn rfl)) (e68f hx (by decide) (Ax3 xn rfl)) (e68f hx (by decide) (Ax3 xn rfl)) (e68f hx (by decide) (Ax3 xn rfl)) (e39 hx) (by omega) (e119 hx.lt hy) y1 (e39 hx) (by omega) p3 (e66t h5 (by decide) rfl) q3 (e66t h8 (by decide) rfl) hc⟩
  · obtain ⟨x, r, h1, h2⟩ := place_head hgU (by omega)
    exact ⟨x, _, by rw [h1]; rfl, sH_name h2⟩
theorem rs15 (hk : T.kind = 15) (hg : Good T d) (ih : IHS s ls T) : Rd s ls 29 AjE (tks T) T ∧ sHead (tks T) := by
  obtain ⟨U, V, hks, c0, c1⟩ := inv2 hg.loc hk rfl rfl;simp [kidOk, Ax0] at c0;simp [kidOk] at c1;have mU : U ∈ T.kids := by rw [hks]; simp
  have mV : V ∈ T.kids := by rw [hks]; simp
  obtain ⟨_, _, _, htx, _⟩ := Aq7 hg.loc;rw [hk] at htx;have ht : T.text = [] := by simpa [Aq5] using htx
  have hw : tks T = kwW [119, 104, 105, 108, 101] :: (parW T.kind T.text 0 U (tks U) ++ tks V) := by rw [AqH, hks]; simp [tkss, nodeW, atW, hk, Az3 (show V.kind < 20 by omega)]
  have hU := kidQ (s := s) (ls := ls) hg (by omega) mU c0 0
  obtain ⟨hV, r, hr⟩ := (ih V mV).b c1;rw [hw];refine ⟨?_, _, _, rfl, by unfold sH; decide⟩
  generalize parW T.kind T.text 0 U (tks U) = a at hU;intro k j v hs hj hv hf;obtain ⟨h1, h3⟩ := hs;obtain ⟨h4, h5⟩ := AxD.1 h3
  have e : j = k + 1 + a.length + (tks V).length := by
    simp only [List.length_append, List.length_cons, List.length_nil] at hj ⊢; omega
  have h6 := h5;rw [hr] at h6;obtain ⟨A, p1, p2, p3⟩ := hU _ _ _ h4 rfl h6.1 AzY;obtain ⟨B, q1, q2, q3⟩ := hV _ _ _ h5 e hv trivial;obtain ⟨c, hc⟩ := e45_2 (D := []) (f := k) (k := j) h1 (by omega) 15 [] A B
  exact ⟨_, AqP hk ht hks (by simp [p1, q1]), wf_mk (by simp [p2, q2]), r116_3 (e68f h1 (by decide) (by decide)) (e40f h1 (by decide) (by decide)) (e68t h1 (by decide) rfl) p3 q3 hc⟩
theorem rs16 (hk : T.kind = 16) (hg : Good T d) (ih : IHS s ls T) : Rd s ls 29 AjE (tks T) T ∧ sHead (tks T) := by
  obtain ⟨U, V, X, hks, c0, c1, c2⟩ := inv3 hg.loc hk rfl rfl;simp [kidOk, Ax0] at c0 c1;simp [kidOk] at c2;have mU : U ∈ T.kids := by rw [hks]; simp
  have mV : V ∈ T.kids := by rw [hks]; simp
  have mX : X ∈ T.kids := by rw [hks]; simp
  have hn := text_name hg (by omega)
  have hw : tks T = kwW [102, 111, 114] :: (0, T.text) :: symW 61 :: (parW T.kind T.text 0 U (tks U) ++ (kwW [116, 111] :: (parW T.kind T.text 1 V (tks V) ++ tks X))) := by rw [AqH, hks]; simp [tkss, nodeW, atW, hk, Az3 (show X.kind < 20 by omega)]
  have hU := kidQ (s := s) (ls := ls) hg (by omega) mU c0 0
  have hV := kidQ (s := s) (ls := ls) hg (by omega) mV c1 1
  obtain ⟨hX, r, hr⟩ := (ih X mX).b c2;rw [hw];refine ⟨?_, _, _, rfl, by unfold sH; decide⟩
  generalize parW T.kind T.text 0 U (tks U) = a at hU;generalize parW T.kind T.text 1 V (tks V) = b at hV;intro k j v hs hj hv hf;obtain ⟨h1, h2, h3, h4⟩ := hs;obtain ⟨h5, h6, h7⟩ := AxD.1 h4;obtain ⟨h8, h9⟩ := AxD.1 h7
  have e : j = k + 1 + 1 + 1 + a.length + 1 + b.length + (tks X).length := by
    simp only [List.length_append, List.length_cons, List.length_nil] at hj ⊢; omega
  have h10 := h9;rw [hr] at h10;obtain ⟨A, p1, p2, p3⟩ := hU _ _ _ h5 rfl h6 AzY;obtain ⟨B, q1, q2, q3⟩ := hV _ _ _ h8 rfl h10.1 AzY;obtain ⟨C, g1, g2, g3⟩ := hX _ _ _ h9 e hv trivial;obtain ⟨c, hc⟩ := e45_3 (f := k) (k := j) h1 (by omega) 16 T.text A B C
  exact ⟨_, AqP hk rfl hks (by simp [p1, q1, g1]), wf_mk (by simp [p2, q2, g2]), r116_4 (e68f h1 (by decide) (by decide)) (e40f h1 (by decide) (by decide)) (e68f h1 (by decide) (by decide)) (e68t h1 (by decide) rfl) (e65 h2 rfl) (e66t h3 (by decide) rfl) p3 (e66t h6 (by decide) rfl) q3 g3 hc⟩
theorem rs17 (hk : T.kind = 17) (hg : Good T d) : Rd s ls 29 AjE (tks T) T ∧ sHead (tks T) := by
  obtain ⟨U, hks, c0⟩ := inv1 hg.loc hk rfl rfl;simp [kidOk, Ax0] at c0;have mU : U ∈ T.kids := by rw [hks]; simp
  have hgU := hg.kid mU 0 (by omega)
  obtain ⟨_, _, _, htx, _⟩ := Aq7 hg.loc;rw [hk] at htx;have ht : T.text = [] := by simpa [Aq5] using htx
  by_cases h0 : U.kind = 0
  · have hw : tks T = kwW [114, 101, 116, 117, 114, 110] :: [symW 59] := by rw [AqH, hks]; simp [tkss, nodeW, atW, hk, h0]
    rw [hw];refine ⟨?_, _, _, rfl, by unfold sH; decide⟩
    intro k j v hs hj hv hf;obtain ⟨h1, h2, _⟩ := hs;have e : j = k + 1 + 1 := hj;obtain ⟨tU, kU⟩ := none_parts hgU h0;obtain ⟨c, hc⟩ := e45_1 (D := []) (f := k) (k := j) h1 (by omega) 17 [] (Tr.mk 0 [] (en ls (k + 1) : Nat) (en ls (k + 1) : Nat) true [])
    subst e;exact ⟨_, AqP hk ht hks (by simp [AqP h0 tU kU rfl]), wf_mk (by simp [AjL]), r116_9 (e68f h1 (by decide) (by decide)) (e40f h1 (by decide) (by decide)) (e68f h1 (by decide) (by decide)) (e68f h1 (by decide) (by decide)) (e68t h1 (by decide) rfl) (e45o 0 []) (e147f h2 (by unfold prim; decide)) (e40f h2 (by decide) (by decide)) (e40f h2 (by decide) (by decide)) (e66t h2 (by decide) rfl) hc⟩
  · have h20 : 20 ≤ U.kind ∧ U.kind ≤ 29 := by omega
    have hw : tks T = kwW [114, 101, 116, 117, 114, 110] :: (parW T.kind T.text 0 U (tks U) ++ [symW 59]) := by rw [AqH, hks]; simp [tkss, nodeW, atW, hk, h0]
    have hU := kidQ (s := s) (ls := ls) hg (by omega) mU h20 0
    have hb := bg_par (K := T.kind) (t := T.text) (i := 0) (expr_head _ U 0 (Nat.le_refl _) hgU h20);rw [hw];refine ⟨?_, _, _, rfl, by unfold sH; decide⟩
    generalize parW T.kind T.text 0 U (tks U) = a at hU hb;intro k j v hs hj hv hf;obtain ⟨h1, h3⟩ := hs;obtain ⟨h4, h5, _⟩ := AxD.1 h3
    have e : j = k + 1 + a.length + 1 := by
      simp only [List.length_append, List.length_cons, List.length_nil] at hj ⊢; omega
    obtain ⟨A, p1, p2, p3⟩ := hU _ _ _ h4 rfl h5 AzY;obtain ⟨c, hc⟩ := e45_1 (D := []) (f := k) (k := j) h1 (by omega) 17 [] A
    subst e;obtain ⟨x, r, hx, hp⟩ := hb;rw [hx] at h4;have hx1 := h4.1;refine ⟨Tr.mk 17 [] c (en ls (k + 1 + a.length + 1) : Nat) false [A], AqP hk ht hks (by simp [p1]), wf_mk (by simp [p2]), ?_⟩
    by_cases hpr : prim x
    · exact r116_5 (e68f h1 (by decide) (by decide)) (e40f h1 (by decide) (by decide)) (e68f h1 (by decide) (by decide)) (e68f h1 (by decide) (by decide)) (e68t h1 (by decide) rfl) (e45o 0 []) (e147t hx1 hpr) p3 (e66t h5 (by decide) rfl) hc
    · by_cases hnt : x.2 = [110, 111, 116]
      · exact r116_7 (e68f h1 (by decide) (by decide)) (e40f h1 (by decide) (by decide)) (e68f h1 (by decide) (by decide)) (e68f h1 (by decide) (by decide)) (e68t h1 (by decide) rfl) (e45o 0 []) (e147f hx1 hpr) (e40t hx1 (by decide) hnt) p3 (e66t h5 (by decide) rfl) hc
      · have hmn : x.2 = [45] := by
          rcases hp with h | h | h
          · exact absurd h hpr
          · exact absurd h hnt
          · exact h
        exact r116_8 (e68f h1 (by decide) (by decide)) (e40f h1 (by decide) (by decide)) (e68f h1 (by decide) (by decide)) (e68f h1 (by decide) (by decide)) (e68t h1 (by decide) rfl) (e45o 0 []) (e147f hx1 hpr) (e40f hx1 (by decide) hnt) (e40t hx1 (by decide) hmn) p3 (e66t h5 (by decide) rfl) hc
theorem rs18 (hk : T.kind = 18) (hg : Good T d) : Rd s ls 29 AjE (tks T) T ∧ sHead (tks T) := by
  obtain ⟨U, hks, c0⟩ := inv1 hg.loc hk rfl rfl;simp [kidOk, Ax0] at c0;have mU : U ∈ T.kids := by rw [hks]; simp
  obtain ⟨_, _, _, htx, _⟩ := Aq7 hg.loc;rw [hk] at htx;have ht : T.text = [] := by simpa [Aq5] using htx
  have hw : tks T = kwW [97, 115, 115, 101, 114, 116] :: (parW T.kind T.text 0 U (tks U) ++ [symW 59]) := by rw [AqH, hks]; simp [tkss, nodeW, atW, hk]
  have hU := kidQ (s := s) (ls := ls) hg (by omega) mU c0 0
  rw [hw];refine ⟨?_, _, _, rfl, by unfold sH; decide⟩
  generalize parW T.kind T.text 0 U (tks U) = a at hU;intro k j v hs hj hv hf;obtain ⟨h1, h3⟩ := hs;obtain ⟨h4, h5, _⟩ := AxD.1 h3
  have e : j = k + 1 + a.length + 1 := by
    simp only [List.length_append, List.length_cons, List.length_nil] at hj ⊢; omega
  obtain ⟨A, p1, p2, p3⟩ := hU _ _ _ h4 rfl h5 AzY;obtain ⟨c, hc⟩ := e45_1 (D := []) (f := k) (k := j) h1 (by omega) 18 [] A
  subst e;exact ⟨_, AqP hk ht hks (by simp [p1]), wf_mk (by simp [p2]), r116_6 (e68f h1 (by decide) (by decide)) (e40f h1 (by decide) (by decide)) (e68f h1 (by decide) (by decide)) (e68f h1 (by decide) (by decide)) (e68f h1 (by decide) (by decide)) (e68t h1 (by decide) rfl) p3 (e66t h5 (by decide) rfl) hc⟩
theorem rs19 (hk : T.kind = 19) (hg : Good T d) : Rd s ls 29 AjE (tks T) T ∧ sHead (tks T) := by
  obtain ⟨_, _, _, _, _, _, hkk⟩ := Aq7 hg.loc;rw [hk] at hkk;have hn := text_name hg (by omega)
  have h7 := kids_low (P := fun k => 20 ≤ k ∧ k ≤ 29) (fun i k' t' h => by simpa [kidOk, Ax0] using h) hkk
  have ha := ar_kids0 (s := s) (ls := ls) hg (by omega) T.kids 0 fun U hU => ⟨hU, h7 U hU⟩
  have hw : tks T = (0, T.text) :: ((symW 40 :: (AxE (tkss T.kids T.kind T.text 0) ++ [symW 41])) ++ [symW 59]) := by rw [AqH]; simp [tkss, nodeW, atW, hk]
  have hl := kids_max hg;rw [hw];refine ⟨?_, _, _, rfl, sH_name hn⟩
  generalize tkss T.kids T.kind T.text 0 = l at ha;intro k j v hs hj hv hf;obtain ⟨h1, h3⟩ := hs;obtain ⟨h4, h5, _⟩ := AxD.1 h3
  have e : j = k + 1 + (symW 40 :: (AxE l ++ [symW 41])).length + 1 := by
    simp only [List.length_append, List.length_cons, List.length_nil] at hj ⊢; omega
  obtain ⟨us, p1, p2, p3⟩ := e120_ok (j := k + 1 + (symW 40 :: (AxE l ++ [symW 41])).length) ha hl h4 (by simp only [List.length_append, List.length_cons, List.length_nil]; omega)
  obtain ⟨c, hc⟩ := e45 (D := []) (f := k) (k := j) h1 (by omega) 19 T.text us
  subst e;exact ⟨_, AqP hk rfl rfl p1, wf_mk p2, r116_10 (e68f h1 (by decide) (Ax3 hn rfl)) (e40f h1 (by decide) (Ax3 hn rfl)) (e68f h1 (by decide) (Ax3 hn rfl)) (e68f h1 (by decide) (Ax3 hn rfl)) (e68f h1 (by decide) (Ax3 hn rfl)) (e68f h1 (by decide) (Ax3 hn rfl)) (e39 h1) rfl (e119 h1.lt h4.1) rfl (e44 h1) p3 (e66t h5 (by decide) rfl) hc⟩
theorem rs14 (hk : T.kind = 14) (hg : Good T d) (ih : IHS s ls T) : Rd s ls 69 AjE (tks T) T ∧ ∃ r, tks T = kwW [105, 102] :: r := by
  obtain ⟨U, V, X, hks, c0, c1, c2⟩ := inv3 hg.loc hk rfl rfl;simp [kidOk, Ax0] at c0;simp [kidOk] at c1 c2;have mU : U ∈ T.kids := by rw [hks]; simp
  have mV : V ∈ T.kids := by rw [hks]; simp
  have mX : X ∈ T.kids := by rw [hks]; simp
  have rX : X.kind = 11 ∨ X.kind = 14 ∨ X.kind = 0 := by omega
  obtain ⟨_, _, _, htx, _⟩ := Aq7 hg.loc;rw [hk] at htx;have ht : T.text = [] := by simpa [Aq5] using htx
  have hU := kidQ (s := s) (ls := ls) hg (by omega) mU c0 0
  obtain ⟨hV, r, hr⟩ := (ih V mV).b c1;by_cases h0 : X.kind = 0
  · have hw : tks T = kwW [105, 102] :: (parW T.kind T.text 0 U (tks U) ++ tks V) := by rw [AqH, hks]; simp [tkss, nodeW, atW, hk, h0, Az3 (show V.kind < 20 by omega)]
    rw [hw];refine ⟨?_, _, rfl⟩
    generalize parW T.kind T.text 0 U (tks U) = a at hU;intro k j v hs hj hv hf;obtain ⟨h1, h3⟩ := hs;obtain ⟨h4, h5⟩ := AxD.1 h3
    have e : j = k + 1 + a.length + (tks V).length := by
      simp only [List.length_append, List.length_cons, List.length_nil] at hj ⊢; omega
    have h6 := h5;rw [hr] at h6;obtain ⟨A, p1, p2, p3⟩ := hU _ _ _ h4 rfl h6.1 AzY;obtain ⟨B, q1, q2, q3⟩ := hV _ _ _ h5 e hv trivial;obtain ⟨tX, kX⟩ := none_parts (hg.kid mX 0 (by omega)) h0
    obtain ⟨c, hc⟩ := e45_3 (f := k) (k := j) h1 (by omega) 14 [] A B (Tr.mk 0 [] (en ls j : Nat) (en ls j : Nat) true [])
    exact ⟨_, AqP hk ht hks (by simp [p1, q1, AqP h0 tX kX rfl]), wf_mk (by simp [p2, q2, AjL]), r146_1 (e44 h1) p3 q3 (e45o 0 []) (e68f hv (by decide) hf) hc⟩
  · have hw : tks T = kwW [105, 102] :: (parW T.kind T.text 0 U (tks U) ++ (tks V ++ (kwW [101, 108, 115, 101] :: tks X))) := by rw [AqH, hks]; simp [tkss, nodeW, atW, hk, h0, Az3 (show V.kind < 20 by omega), Az3 (show X.kind < 20 by omega)]
    rw [hw];refine ⟨?_, _, rfl⟩
    generalize parW T.kind T.text 0 U (tks U) = a at hU;intro k j v hs hj hv hf;obtain ⟨h1, h3⟩ := hs;obtain ⟨h4, h5⟩ := AxD.1 h3;obtain ⟨h7, h8, h9⟩ := AxD.1 h5
    have e : j = k + 1 + a.length + (tks V).length + 1 + (tks X).length := by
      simp only [List.length_append, List.length_cons, List.length_nil] at hj ⊢; omega
    have h6 := h7;rw [hr] at h6;obtain ⟨A, p1, p2, p3⟩ := hU _ _ _ h4 rfl h6.1 AzY;obtain ⟨B, q1, q2, q3⟩ := hV _ _ _ h7 rfl h8 trivial;have h10 := h9;rcases rX with h11 | h14 | h00
    · obtain ⟨hX, r', hr'⟩ := (ih X mX).b h11;rw [hr'] at h10;obtain ⟨C, g1, g2, g3⟩ := hX _ _ _ h9 e hv trivial;obtain ⟨c, hc⟩ := e45_3 (f := k) (k := j) h1 (by omega) 14 [] A B C
      exact ⟨_, AqP hk ht hks (by simp [p1, q1, g1]), wf_mk (by simp [p2, q2, g2]), r146_3 (e44 h1) p3 q3 (e45o 0 []) (e68t h8 (by decide) rfl) (e40f h10.1 (by decide) (by decide)) g3 hc⟩
    · obtain ⟨hX, r', hr'⟩ := (ih X mX).i h14;rw [hr'] at h10;obtain ⟨C, g1, g2, g3⟩ := hX _ _ _ h9 e hv hf;obtain ⟨c, hc⟩ := e45_3 (f := k) (k := j) h1 (by omega) 14 [] A B C
      exact ⟨_, AqP hk ht hks (by simp [p1, q1, g1]), wf_mk (by simp [p2, q2, g2]), r146_2 (e44 h1) p3 q3 (e45o 0 []) (e68t h8 (by decide) rfl) (e40t h10.1 (by decide) rfl) g3 hc⟩
    · exact absurd h00 h0
theorem rs14' (h : Rd s ls 69 AjE (tks T) T ∧ ∃ r, tks T = kwW [105, 102] :: r) : Rd s ls 29 AjE (tks T) T ∧ sHead (tks T) := by
  obtain ⟨h1, r, hr⟩ := h;refine ⟨?_, ⟨_, r, hr, by unfold sH; decide⟩⟩
  intro k j v hs hj hv hf;obtain ⟨A, p1, p2, p3⟩ := h1 k j v hs hj hv hf;rw [hr] at hs;exact ⟨A, p1, p2, r116_2 (e68f hs.1 (by decide) (by decide)) (e40t hs.1 (by decide) rfl) p3⟩
theorem st_ok : ∀ (n : Nat) (T : Tr) (d : Nat), T.pre.length ≤ n → Good T d → StP s ls T
  | 0, T, d, h, _ => by obtain ⟨k, t, a, e, n, ks⟩ := T; simp [Tr.pre] at h
  | n + 1, T, d, h, hg => by
    have ih : IHS s ls T := fun U hU => st_ok n U 0 (by have := AzX T U hU; omega) (hg.kid hU 0 (by omega))
    refine ⟨fun hk => rs11 hk hg ih, fun hk => rs14 hk hg ih, fun hk => ?_⟩
    have : T.kind = 12 ∨ T.kind = 13 ∨ T.kind = 14 ∨ T.kind = 15 ∨ T.kind = 16 ∨ T.kind = 17 ∨ T.kind = 18 ∨ T.kind = 19 := by omega
    rcases this with hk | hk | hk | hk | hk | hk | hk | hk
    · exact rs12 hk hg
    · exact rs13 hk hg
    · exact rs14' (rs14 hk hg ih)
    · exact rs15 hk hg ih
    · exact rs16 hk hg ih
    · exact rs17 hk hg
    · exact rs18 hk hg
    · exact rs19 hk hg
end
end Go.Abs.Z
