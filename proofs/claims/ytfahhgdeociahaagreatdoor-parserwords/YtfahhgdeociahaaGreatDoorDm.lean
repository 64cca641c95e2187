/- A part of the proof: D40. -/
import Derived.Test.YtfahhgdeociahaaGreatDoorDl
import Derived.Test.YtfahhgdeociahaaGreatDoorDg
import Derived.Test.YtfahhgdeociahaaGreatDoorWh

set_option linter.unusedVariables false
set_option linter.unusedSimpArgs false
namespace Go.Abs.Z
open Go.Proofs Go.RowKit
set_option linter.unusedVariables false
section
variable {ls ls' : List Tk}
theorem BqY {T U : Tr} (wT : T.wf) (wU : U.wf) (hl : T.kids.length = U.kids.length) (hs : T.kids.length < 1000000000) (he : ∀ (i : Nat) (x y : Tr), T.kids[i]? = some x → U.kids[i]? = some y → E 21 [x.pv, y.pv] [] (.bool true) []) : ∀ (n j : Nat), j + n = T.kids.length →
    LE m21_0 l21_0 [(2, some (.vptr T.pv)), (3, some (.vptr U.pv)), (5, some (N j))] [] (.exit 0) [(2, some (.vptr T.pv)), (3, some (.vptr U.pv))] []
  | 0, j, h => r21_l0_out1 wT (by omega)
  | n + 1, j, h => by
    have h1 : T.kids[j]? = some T.kids[j] := List.getElem?_eq_getElem (by omega)
    have h2 : U.kids[j]? = some U.kids[j] := List.getElem?_eq_getElem (by omega)
    exact r21_l0_next1 wT (by omega) h1 wU h2 (he j _ _ h1 h2) (by omega) (BqY wT wU hl hs he n (j + 1) (by omega))
theorem same_of1 {T U : Tr} (wT : T.wf) (wU : U.wf) (h1 : T.kind = U.kind) (h2 : T.text = U.text) (hl : T.kids.length = U.kids.length) (hs : T.kids.length < 1000000000) (he : ∀ (i : Nat) (x y : Tr), T.kids[i]? = some x → U.kids[i]? = some y → E 21 [x.pv, y.pv] [] (.bool true) []) : E 21 [T.pv, U.pv] [] (.bool true) [] :=
  r21_2 h1 h2 wT wU (by omega) (BqY wT wU hl hs he T.kids.length 0 (by omega))
mutual
theorem same_tr1 : ∀ x : AT, x.ok → E 21 [(trP ls x).pv, (trP ls' x).pv] [] (.bool true) []
  | .mk kd tx f k b ks, ho => by
    refine same_of1 (trP_wf _) (trP_wf _) rfl rfl ?_ ?_ fun i x y hx hy => AwO ks f k ho.2.2 i x y hx hy
    · show (trPs ls ks).length = (trPs ls' ks).length;rw [Az5, Az5]
    · show (trPs ls ks).length < _;rw [Az5]; exact ho.2.1
theorem AwO : ∀ xs : List AT, ∀ lo hi, oks lo hi xs → ∀ (i : Nat) (x y : Tr), (trPs ls xs)[i]? = some x → (trPs ls' xs)[i]? = some y → E 21 [x.pv, y.pv] [] (.bool true) []
  | [], _, _, _, i, x, y, hx, _ => by simp [trPs] at hx
  | z :: xs, lo, hi, ho, 0, x, y, hx, hy => by
    cases hx; cases hy;exact same_tr1 z ho.2.1
  | z :: xs, lo, hi, ho, i + 1, x, y, hx, hy => AwO xs _ _ ho.2.2 i x y (by simpa [trPs] using hx) (by simpa [trPs] using hy)
end
end
theorem fits_loop {s : List UInt8} {tl : List Tk} (hw : ∀ t ∈ tl, t.f ≤ t.a ∧ t.a ≤ t.e ∧ t.e ≤ s.length) (hl : tl.length < 1000000000) : ∀ (n j : Nat), j + n = tl.length →
    LE m42_0 l42_0 [(0, some (.str s)), (1, some (.slice false 4 (tl.map Tk.pv))), (5, some (N j))] [] (.exit 0) [(1, some (.slice false 4 (tl.map Tk.pv)))] []
  | 0, j, h => r42_l0_out1 (by omega)
  | n + 1, j, h => by
    have g : tl[j]? = some tl[j] := List.getElem?_eq_getElem (by omega)
    obtain ⟨a, b, c⟩ := hw _ (List.getElem_mem (l := tl) (n := j) (by omega))
    exact r42_l0_next1 (by omega) g (by omega) g g (by omega) g g (by omega) g (by omega) (by omega) (fits_loop hw hl n (j + 1) (by omega))
theorem BqS {s : List UInt8} {tl : List Tk} (hw : ∀ t ∈ tl, t.f ≤ t.a ∧ t.a ≤ t.e ∧ t.e ≤ s.length) (hl : tl.length < 1000000000) : ∀ (n j : Nat), j + n = tl.length →
    LE m19_0 l19_0 [(0, some (.str s)), (1, some (.slice false 4 (tl.map Tk.pv))), (5, some (.slice true 1 (((tl.take j).map (wd s)).map PV.str))), (6, some (N j))] [] (.exit 0) [(0, some (.str s)), (1, some (.slice false 4 (tl.map Tk.pv))), (5, some (.slice true 1 ((tl.map (wd s)).map PV.str)))] []
  | 0, j, h => by
    have e : tl.take j = tl := List.take_of_length_le (by omega)
    rw [e];exact r19_l0_out1 (by omega)
  | n + 1, j, h => by
    have hj : j < tl.length := by omega
    have g : tl[j]? = some tl[j] := List.getElem?_eq_getElem hj
    obtain ⟨a, b, c⟩ := hw _ (List.getElem_mem hj);have ih := BqS hw hl n (j + 1) (by omega)
    have e : (tl.take (j + 1)).map (wd s) = (tl.take j).map (wd s) ++ [wd s tl[j]] := by
      rw [List.take_succ_eq_append_getElem hj, List.map_append]; rfl
    rw [e] at ih;have hm : 1000000000 ≤ AqE := by decide
    exact r19_l0_next1 (by omega) g g (p_ssl s _ _ b c) (by rw [List.length_map, List.length_take]; omega) (by omega) ih
theorem BqW : ∀ l : List (List UInt8), strsOf (l.map PV.str) = some l
  | [] => rfl
  | x :: l => by
    rw [List.map_cons, strsOf, BqW l]; rfl
theorem e20 {ws : List (List UInt8)} {sep : List UInt8} (h1 : ws.length ≤ 140737488355328) (h2 : (Lib.join ws sep).length ≤ 140737488355328) : E 20 [.slice false 1 (ws.map PV.str), .str sep] [] (.str (Lib.join ws sep)) [] :=
  ev_of_run 0 fun n _ => by
    show (if 1 = 1 then match strsOf (ws.map PV.str) with
      | some l => if l.length ≤ 140737488355328 ∧ (Lib.join l sep).length ≤ 140737488355328 then some (PV.str (Lib.join l sep), ([] : Sto)) else none
      | none => none
    else none) = _
    rw [if_pos rfl, BqW];show (if _ then _ else _) = _
    rw [if_pos ⟨h1, h2⟩]
theorem dg_loop6 {R1 R2 : List Dg} (hl : R1.length = R2.length) (hs : R1.length < 1000000000) (h : ∀ (i : Nat) (x y : Dg), R1[i]? = some x → R2[i]? = some y → x.c = y.c ∧ x.t = y.t) : ∀ (n j : Nat), j + n = R1.length →
    LR m6_0 l6_0 [(7, some (.slice false 5 (R1.map Dg.pv))), (10, some (.slice false 5 (R2.map Dg.pv))), (58, some (N R1.length)), (59, some (N j))] [] (.exit 0) [(7, some (.slice false 5 (R1.map Dg.pv))), (10, some (.slice false 5 (R2.map Dg.pv)))] []
  | 0, j, e => r6_l0_out1 (by omega)
  | n + 1, j, e => by
    have g1 : R1[j]? = some R1[j] := List.getElem?_eq_getElem (by omega)
    have g2 : R2[j]? = some R2[j] := List.getElem?_eq_getElem (by omega)
    obtain ⟨a, b⟩ := h j _ _ g1 g2;exact r6_l0_next1 (s := []) (by omega) g1 g2 (by rw [a]) g1 g2 b (by omega) (dg_loop6 hl hs h n (j + 1) (by omega))
theorem words_true (s : List UInt8) : Runs a6 [.str s] [] (.bool true) [] := by
  by_cases hs : s.length ≤ 500
  · have hT := t2_txW s;have hlt : (txW s).length ≤ 1000 := by have := txW_len s; omega
    have H := Av6 s (by omega)
    obtain ⟨v, k, D, h⟩ := runs s (by omega) (.pg []) trivial (by simp)
    obtain ⟨o2, o3, o4⟩ := runs_ok s (by omega) h
    obtain ⟨b1, b2⟩ := o4 (by simp)
    have bk := b2 0 (Nat.le_refl _);have hg : T2 s (txW s) (toksT s) (toksT (txW s)) := hT.good;have hw : wAt s (toksT s) = wAt (txW s) (toksT (txW s)) := funext hg.w;have h' : runN (wAt (txW s) (toksT (txW s))) 100000 (.pg []) 0 [] = some (v, k, D) := by rw [← hw]; exact h
    obtain ⟨R1, S1, E1⟩ := e8 (s := s) (by omega) (n := 100000) (by decide) h
    obtain ⟨R2, S2, E2⟩ := e8 (s := txW s) (by omega) (n := 100000) (by decide) h'
    have hlen := (AwM (s := s) (by omega)).1
    have hsc : (scanT s).length ≤ s.length + 1 := AzT (s.length + 1) s 0
    have hwf : ∀ t ∈ scanT s, t.f ≤ t.a ∧ t.a ≤ t.e ∧ t.e ≤ s.length := fun t ht => by
      have := ((Aj2 s (s.length + 1) 0 (by omega) (by omega)).wf t ht).1.ord
      omega
    have hpos : 0 < (toksT s).length := by have := H.len; omega
    have hD : ∀ d ∈ finD (wAt s (toksT s)) k D, d.i < (toksT s).length := fun d hd => by
      have := finD_mem o3 d hd; omega
    rw [← hw] at S2;obtain ⟨r1, r2⟩ := words_dgs hT hD S1 S2
    have a42 : E 42 [.str s, .slice false 4 ((scanT s).map Tk.pv)] [] (.bool true) [] := by
      have := r42_1 (fits_loop hwf (by omega) (scanT s).length 0 (by omega))
      rwa [decide_eq_true (by omega)] at this
    have a19 : E 19 [.str s, .slice false 4 ((scanT s).map Tk.pv)] [] (.slice false 1 (((scanT s).map (wd s)).map PV.str)) [] := r19 a42 (BqS hwf (by omega) (scanT s).length 0 (by omega))
    have a20 := e20 (ws := (scanT s).map (wd s)) (sep := [10]) (by rw [List.length_map]; omega) (by rw [join_txW]; omega)
    rw [join_txW] at a20
    have a21 : E 21 [(prT s (toksT s) v.2).pv, (prT (txW s) (toksT (txW s)) v.2).pv] [] (.bool true) [] := by
      refine same_of1 ⟨fun h => Aj7 _ h, Bz2 _⟩ ⟨fun h => Aj7 _ h, Bz2 _⟩ rfl rfl ?_ ?_ fun i x y hx hy => AwO v.2 0 k bk i x y hx hy
      · show (trPs _ v.2).length = (trPs _ v.2).length;rw [Az5, Az5]
      · show (trPs _ v.2).length < _;rw [Az5]; exact b1
    have hR := sd_small (by omega) o2 o3 S1
    by_cases hz : R1 = []
    · have hz2 : R2 = [] := List.length_eq_zero_iff.1 (by rw [← r1, hz]; rfl)
      subst hz hz2;exact r6n_2 (by omega) (evA (f18 s (by omega))) (evA a19) (evA E1) (evA a20) (evA E2) rfl rfl (evA a21) (r6n_l0_out1 (m1 := 0) (by omega)) evA7
    · have hz2 : R2 ≠ [] := fun e => hz (List.length_eq_zero_iff.1 (by rw [r1, e]; rfl))
      have e1 : accD 5 (R1.map Dg.pv) = .slice false 5 (R1.map Dg.pv) := by cases R1 <;> first | exact absurd rfl hz | rfl
      have e2 : accD 5 (R2.map Dg.pv) = .slice false 5 (R2.map Dg.pv) := by cases R2 <;> first | exact absurd rfl hz2 | rfl
      rw [e1] at E1;rw [e2] at E2;exact r6_2 (by omega) (evA (f18 s (by omega))) (evA a19) (evA E1) (evA a20) (evA E2) rfl rfl (evA a21) (by omega) (dg_loop6 r1 hR r2 R1.length 0 (by omega)) evA7
  · exact r6_1 (by omega) evA7
theorem str_own6 (s : List UInt8) : ∀ p ∈ [PV.str s], p.Aq0 = p := fun p hp => by rw [List.mem_singleton] at hp; subst hp; rfl
theorem words_ok (s : List UInt8) : Aw4 Tryz.prog 6 [.str s] [] (.bool true) [] := law_ok ok6 (str_own6 s) (words_true s)
end Go.Abs.Z
