/- A part of the proof: Y1 Y2 Y3. -/
import Derived.Test.YtkmhldloehaamaaGreatDoorXa
import Derived.Test.YtkmhldloehaamaaGreatDoorWa

set_option linter.unusedVariables false
set_option linter.unusedSimpArgs false
namespace Go.Abs.Z
open Go.Proofs Go.RowKit
def par (k : Int) (t : List UInt8) (i : Nat) (U : Tr) (s : List UInt8) : List UInt8 := if parV k t i U.kind U.text then [40] ++ s ++ [41] else s
def ind (d : Nat) : List UInt8 := Lib.repeatL [32, 32] d
def AxK (x : Int × List UInt8) : List UInt8 := if x.1 = 0 then [] else [58, 32] ++ x.2
def AxX (d : Nat) (l : List (Int × List UInt8)) : List UInt8 := (l.map fun x => ind d ++ (x.2 ++ [10])).flatten
def AqM (l : List (Int × List UInt8)) : List UInt8 := Lib.join (l.map (·.2)) [44, 32]
def at2 (l : List (Int × List UInt8)) (i : Nat) : Int × List UInt8 := (l[i]?).getD (0, [])
def nodeT (d : Nat) (k : Int) (t : List UInt8) (l : List (Int × List UInt8)) : List UInt8 :=
  if k = 2 then (l.map fun x => x.2 ++ [10]).flatten
  else if k = 3 then [114, 101, 99, 111, 114, 100, 32] ++ (t ++ ([32, 123, 32] ++ (AqM l ++ [32, 125])))
  else if k = 4 ∨ k = 7 then t ++ AxK (at2 l 0)
  else if k = 5 then [112, 114, 111, 99, 32] ++ (t ++ ([40] ++ ((at2 l 0).2 ++ ([41] ++ (AxK (at2 l 1) ++ ([32] ++ (at2 l 2).2))))))
  else if k = 6 then AqM l
  else if k = 8 then [118, 97, 114, 32] ++ (t ++ AxK (at2 l 0))
  else if k = 10 then [105, 110, 116, 91] ++ (t ++ [93])
  else if k = 11 then [123, 10] ++ (AxX (d + 1) l ++ (ind d ++ [125]))
  else if k = 12 then [118, 97, 114, 32] ++ (t ++ (AxK (at2 l 0) ++ ([32, 61, 32] ++ ((at2 l 1).2 ++ [59]))))
  else if k = 13 then (at2 l 0).2 ++ ([32, 61, 32] ++ ((at2 l 1).2 ++ [59]))
  else if k = 14 then [105, 102, 32] ++ ((at2 l 0).2 ++ ([32] ++ ((at2 l 1).2 ++ (if (at2 l 2).1 = 0 then [] else [32, 101, 108, 115, 101, 32] ++ (at2 l 2).2))))
  else if k = 15 then [119, 104, 105, 108, 101, 32] ++ ((at2 l 0).2 ++ ([32] ++ (at2 l 1).2))
  else if k = 16 then [102, 111, 114, 32] ++ (t ++ ([32, 61, 32] ++ ((at2 l 0).2 ++ ([32, 116, 111, 32] ++ ((at2 l 1).2 ++ ([32] ++ (at2 l 2).2))))))
  else if k = 17 then (if (at2 l 0).1 = 0 then [114, 101, 116, 117, 114, 110, 59] else [114, 101, 116, 117, 114, 110, 32] ++ ((at2 l 0).2 ++ [59]))
  else if k = 18 then [97, 115, 115, 101, 114, 116, 32] ++ ((at2 l 0).2 ++ [59])
  else if k = 19 then t ++ ([40] ++ (AqM l ++ [41, 59]))
  else if k = 21 then (at2 l 0).2 ++ ([91] ++ ((at2 l 1).2 ++ [93]))
  else if k = 22 then (at2 l 0).2 ++ ([46] ++ t)
  else if k = 23 then [108, 101, 110, 40] ++ ((at2 l 0).2 ++ [41])
  else if k = 26 then [91] ++ (AqM l ++ [93])
  else if k = 27 then t ++ ([40] ++ (AqM l ++ [41]))
  else if k = 28 then (if t = [110, 111, 116] then [110, 111, 116, 32] else t) ++ (at2 l 0).2
  else if k = 29 then (at2 l 0).2 ++ ([32] ++ (t ++ ([32] ++ (at2 l 1).2)))
  else t
mutual
def prt : Tr → Nat → List UInt8
  | .mk k t _ _ _ ks, d => nodeT d k t (prts ks k t 0 (if k = 11 then d + 1 else d))
def prts : List Tr → Int → List UInt8 → Nat → Nat → List (Int × List UInt8)
  | [], _, _, _, _ => []
  | U :: us, k, t, i, d => (U.kind, par k t i U (prt U d)) :: prts us k t (i + 1) d
end
theorem Aq9 (T : Tr) (d : Nat) : prt T d = nodeT d T.kind T.text (prts T.kids T.kind T.text 0 (if T.kind = 11 then d + 1 else d)) := by
  obtain ⟨k, t, a, e, n, ks⟩ := T;rw [prt]; rfl
theorem AjA : ∀ (ks : List Tr) (k : Int) (t : List UInt8) (i d : Nat), (prts ks k t i d).length = ks.length
  | [], _, _, _, _ => by rw [prts]; rfl
  | U :: us, k, t, i, d => by rw [prts]; simp [AjA us]
theorem ind_len (d : Nat) : (ind d).length = 2 * d := by rw [ind, Lib.repeatL_length]; simp; omega
def wsum (c : Nat) : List (Int × List UInt8) → Nat
  | [] => 0
  | x :: l => x.2.length + c + wsum c l
theorem commas_len (c : Nat) (hc : 2 ≤ c) : ∀ l : List (Int × List UInt8), (AqM l).length ≤ wsum c l
  | [] => by simp [AqM, Lib.join_nil, wsum]
  | x :: l => by
    unfold AqM;rw [List.map_cons, Lib.join_cons]
    have h : ∀ l : List (Int × List UInt8), (Lib.joinTail [44, 32] (l.map (·.2))).length ≤ wsum c l := by
      intro l
      induction l with
      | nil => simp [Lib.joinTail, wsum]
      | cons y l ih => 
        simp only [Lib.joinTail, List.map_cons, List.flatten_cons, List.length_append] at ih ⊢;simp only [wsum, List.length_cons, List.length_nil]; omega
    have := h l;simp only [List.length_append, wsum]; omega
theorem lines_len (d c : Nat) (hc : 2 * d + 1 ≤ c) : ∀ l : List (Int × List UInt8), (AxX d l).length ≤ wsum c l
  | [] => by simp [AxX, wsum]
  | x :: l => by
    have := lines_len d c hc l;have hi := ind_len d;unfold AxX at this ⊢;simp only [List.map_cons, List.flatten_cons, List.length_append, List.length_cons, List.length_nil, wsum]; omega
theorem prog_len (c : Nat) (hc : 1 ≤ c) : ∀ l : List (Int × List UInt8), (l.map fun x => x.2 ++ [10]).flatten.length ≤ wsum c l
  | [] => by simp
  | x :: l => by
    have := prog_len c hc l;simp only [List.map_cons, List.flatten_cons, List.length_append, List.length_cons, List.length_nil, wsum]; omega
theorem at3_len (c : Nat) (l : List (Int × List UInt8)) : (at2 l 0).2.length + (at2 l 1).2.length + (at2 l 2).2.length ≤ wsum c l := by
  rcases l with _ | ⟨a, _ | ⟨b, _ | ⟨e, l⟩⟩⟩ <;> simp [at2, wsum] <;> omega
theorem Az8 (x : Int × List UInt8) : (AxK x).length ≤ 2 + x.2.length := by
  unfold AxK;split
  · simp
  · simp; omega
theorem ite_len {p : Prop} [Decidable p] {a b : List UInt8} {B : Nat} (ha : a.length ≤ B) (hb : b.length ≤ B) : (if p then a else b).length ≤ B := by
  split <;> assumption
theorem node_len (d : Nat) (k : Int) (t : List UInt8) (l : List (Int × List UInt8)) (ht : t.length ≤ 60) (c : Nat) (hc : 2 * (d + 1) + 1 ≤ c) : (nodeT d k t l).length ≤ 100 + 2 * d + wsum c l := by
  have h1 := commas_len c (by omega) l
  have h2 := lines_len (d + 1) c hc l;have h3 := prog_len c (by omega) l
  have h4 := at3_len c l;have h5 := Az8 (at2 l 0);have h6 := Az8 (at2 l 1);have h7 := ind_len d;have h8 : (if (at2 l 2).1 = 0 then [] else [32, 101, 108, 115, 101, 32] ++ (at2 l 2).2 : List UInt8).length ≤ 6 + (at2 l 2).2.length := ite_len (by simp) (by simp; omega)
  have h9 : (if t = [110, 111, 116] then [110, 111, 116, 32] else t : List UInt8).length ≤ 60 := ite_len (by simp) ht
  unfold nodeT
  repeat' refine ite_len ?_ ?_
  all_goals first | omega | exact Nat.le_trans h3 (by omega) | (simp only [List.length_append, List.length_cons, List.length_nil]; omega)
structure Good (T : Tr) (d : Nat) : Prop where
  wf : T.wf
  shape : AjM T = true
  text : ∀ U ∈ T.pre, U.text.length ≤ 60
  size : d + T.pre.length ≤ 400
theorem AqB (T : Tr) : T ∈ T.pre := by
  obtain ⟨k, t, a, e, n, ks⟩ := T;rw [Tr.pre]; exact List.mem_cons_self ..
theorem kid_pre {T U V : Tr} (h : U ∈ T.kids) (hV : V ∈ U.pre) : V ∈ T.pre := by
  obtain ⟨k, t, a, e, n, ks⟩ := T;rw [Tr.pre];refine List.mem_cons_of_mem _ ?_
  have : ∀ ks : List Tr, U ∈ ks → V ∈ Tr.pres ks := by
    intro ks
    induction ks with
    | nil => intro h; cases h
    | cons x xs ih =>
      intro h;rw [Tr.pres];rcases List.mem_cons.1 h with rfl | h
      · exact List.mem_append_left _ hV
      · exact List.mem_append_right _ (ih h)
  exact this ks h
theorem Good.loc {T : Tr} {d : Nat} (h : Good T d) : locOk T = true := by
  have := h.shape;rw [shapeB_eq, Bool.and_eq_true] at this;exact this.1
theorem Good.kid {T U : Tr} {d : Nat} (h : Good T d) (hU : U ∈ T.kids) (d' : Nat) (hd : d' ≤ d + 1) : Good U d' := by
  have hs := h.shape;rw [shapeB_eq, Bool.and_eq_true] at hs;have := AzX T U hU;have := h.size;exact ⟨kid_wf T U h.wf hU, List.all_eq_true.1 hs.2 U hU, fun V hV => h.text V (kid_pre hU hV), by omega⟩
theorem par_len (k : Int) (t : List UInt8) (i : Nat) (U : Tr) (s : List UInt8) : (par k t i U s).length ≤ s.length + 2 := by
  unfold par;split
  · simp
  · omega
def tot : List Tr → Nat
  | [] => 0
  | U :: us => U.pre.length + tot us
theorem tot_pres : ∀ ks : List Tr, tot ks = (Tr.pres ks).length
  | [] => by simp [tot, Tr.pres]
  | U :: us => by simp [tot, Tr.pres, tot_pres us]
theorem prts_sum (k : Int) (t : List UInt8) (d : Nat) : ∀ (ks : List Tr) (i : Nat), (∀ U ∈ ks, (prt U d).length + 1000 ≤ 3000 * U.pre.length) → wsum 900 (prts ks k t i d) ≤ 3000 * tot ks
  | [], _, _ => by rw [prts]; simp [wsum]
  | U :: us, i, h => by
    have h1 := h U (List.mem_cons_self ..);have h2 := prts_sum k t d us (i + 1) fun V hV => h V (List.mem_cons_of_mem _ hV)
    have h3 := par_len k t i U (prt U d);rw [prts];simp only [wsum, tot]; omega
theorem prt_len : ∀ (n : Nat) (T : Tr) (d : Nat), T.pre.length ≤ n → Good T d → (prt T d).length + 1000 ≤ 3000 * T.pre.length
  | 0, T, d, h, _ => by obtain ⟨k, t, a, e, n, ks⟩ := T; simp [Tr.pre] at h
  | n + 1, T, d, h, hg => by
    rw [Aq9];have hsz := hg.size;have ht := hg.text T (AqB T)
    have hp : T.pre.length = 1 + tot T.kids := by
      obtain ⟨k, t, a, e, n, ks⟩ := T;rw [Tr.pre, tot_pres]; simp [Tr.kids]; omega
    have hs : ∀ d', d' ≤ d + 1 → wsum 900 (prts T.kids T.kind T.text 0 d') ≤ 3000 * tot T.kids := fun d' hd => prts_sum T.kind T.text d' T.kids 0 fun U hU => by
      have := AzX T U hU;exact prt_len n U d' (by omega) (hg.kid hU d' hd)
    have h1 := node_len d T.kind T.text (prts T.kids T.kind T.text 0 (if T.kind = 11 then d + 1 else d)) ht 900 (by omega)
    have h2 := hs (if T.kind = 11 then d + 1 else d) (by split <;> omega)
    omega
theorem Good.len {T : Tr} {d : Nat} (h : Good T d) : (prt T d).length ≤ 1200000 := by
  have := prt_len _ T d (Nat.le_refl _) h;have := h.size;omega
end Go.Abs.Z

namespace Go.Abs.Z
open Go.Proofs Go.RowKit
abbrev W (d : Nat) : PV := .agg [.int .i64 ((d : Nat) : Int)]
theorem Aq7 {T : Tr} (h : locOk T = true) : 0 ≤ T.kind ∧ T.kind ≤ 29 ∧ T.kind ≠ 1 ∧ Aq5 T.kind T.text = true ∧ leastOf T.kind ≤ T.kids.length ∧ T.kids.length ≤ AqD T.kind ∧ Ax2 T.kind 0 T.kids = true := by
  unfold locOk at h;simp only [Bool.and_eq_true, decide_eq_true_eq] at h;obtain ⟨⟨⟨⟨⟨⟨h1, h2⟩, h3⟩, h4⟩, h5⟩, h6⟩, h7⟩ := h;exact ⟨h1, h2, h3, h4, h5, h6, h7⟩
theorem inv1 {T : Tr} {k : Int} (h : locOk T = true) (hk : T.kind = k) (hl : leastOf k = 1) (hm : AqD k = 1) : ∃ U, T.kids = [U] ∧ kidOk k 0 U.kind U.text = true := by
  obtain ⟨_, _, _, _, h5, h6, h7⟩ := Aq7 h;rw [hk] at h5 h6 h7; rw [hl] at h5; rw [hm] at h6
  match hT : T.kids, h5, h6, h7 with
  | [U], _, _, h7 => simp only [Ax2, Bool.and_eq_true] at h7; exact ⟨U, rfl, h7.1⟩
  | _ :: _ :: _, _, h, _ => simp at h
theorem inv2 {T : Tr} {k : Int} (h : locOk T = true) (hk : T.kind = k) (hl : leastOf k = 2) (hm : AqD k = 2) : ∃ U V, T.kids = [U, V] ∧ kidOk k 0 U.kind U.text = true ∧ kidOk k 1 V.kind V.text = true := by
  obtain ⟨_, _, _, _, h5, h6, h7⟩ := Aq7 h;rw [hk] at h5 h6 h7; rw [hl] at h5; rw [hm] at h6
  match hT : T.kids, h5, h6, h7 with
  | [U, V], _, _, h7 => simp only [Ax2, Bool.and_eq_true] at h7; exact ⟨U, V, rfl, h7.1, h7.2.1⟩
  | [_], h, _, _ => simp at h
  | _ :: _ :: _ :: _, _, h, _ => simp at h
theorem inv3 {T : Tr} {k : Int} (h : locOk T = true) (hk : T.kind = k) (hl : leastOf k = 3) (hm : AqD k = 3) : ∃ U V X, T.kids = [U, V, X] ∧ kidOk k 0 U.kind U.text = true ∧ kidOk k 1 V.kind V.text = true ∧ kidOk k 2 X.kind X.text = true := by
  obtain ⟨_, _, _, _, h5, h6, h7⟩ := Aq7 h;rw [hk] at h5 h6 h7; rw [hl] at h5; rw [hm] at h6
  match hT : T.kids, h5, h6, h7 with
  | [U, V, X], _, _, h7 => simp only [Ax2, Bool.and_eq_true] at h7; exact ⟨U, V, X, rfl, h7.1, h7.2.1, h7.2.2.1⟩
  | [_], h, _, _ => simp at h
  | [_, _], h, _, _ => simp at h
  | _ :: _ :: _ :: _ :: _, _, h, _ => simp at h
theorem kidsOk_mem {k : Int} : ∀ (us : List Tr) (i : Nat), Ax2 k i us = true → ∀ U ∈ us, ∃ j, kidOk k j U.kind U.text = true
  | U :: us, i, h, V, hV => by
    simp only [Ax2, Bool.and_eq_true] at h;rcases List.mem_cons.1 hV with rfl | hV
    · exact ⟨i, h.1⟩
    · exact kidsOk_mem us (i + 1) h.2 V hV
theorem invL {T : Tr} {k : Int} (h : locOk T = true) (hk : T.kind = k) : ∀ U ∈ T.kids, ∃ j, kidOk k j U.kind U.text = true := by
  obtain ⟨_, _, _, _, _, _, h7⟩ := Aq7 h;rw [hk] at h7;exact kidsOk_mem T.kids 0 h7
theorem Ax4 {k : Int} (h : Ax0 k = true) : 20 ≤ k ∧ k ≤ 29 := by simpa [Ax0] using h
theorem stm_rng {k : Int} (h : AjF k = true) : 12 ≤ k ∧ k ≤ 19 := by simpa [AjF] using h
theorem AjI {k : Int} (h : (AqI k || k == 0) = true) : k = 9 ∨ k = 10 ∨ k = 0 := by simp [AqI] at h; omega
theorem Ax7 {k : Int} {t : List UInt8} {i : Nat} {U : Tr} {s : List UInt8} (h : U.kind < 20) : par k t i U s = s := by
  unfold par;have : parV k t i U.kind U.text = false := by simp [parV]; omega
  rw [this]; simp
theorem Good.AqT {T U : Tr} {d i d' : Nat} (hg : Good T d) (hU : U ∈ T.kids) (hd : d' ≤ d + 1) : (par T.kind T.text i U (prt U d')).length ≤ 1200002 ∧ (prt U d').length ≤ 1200000 := by
  have h1 := (hg.kid hU d' hd).len;have h2 := par_len T.kind T.text i U (prt U d');exact ⟨by omega, h1⟩
theorem kidP {T U : Tr} {d i : Nat} (hg : Good T d) (hU : T.kids[i]? = some U) (h : E 27 [W d, U.pv] [] (.str (prt U d)) []) : E 169 [W d, T.pv, .int .i64 ((i : Nat) : Int)] [] (.str (par T.kind T.text i U (prt U d))) [] := by
  have h2 := e12 T U ((i : Nat) : Int);have hl := (hg.AqT (i := i) (AxZ hU) (Nat.le_succ d)).2;unfold par;cases hb : parV T.kind T.text i U.kind U.text with
  | true =>
    rw [hb] at h2;exact r140_1 hg.wf hU h hU h2 (by simp [Aq4]; omega) (by simp [Aq4]; omega)
  | false => rw [hb] at h2; exact r140_2 hg.wf hU h hU h2
theorem e138 (d : Nat) (h : d ≤ 1000) : E 168 [W d] [] (.str (ind d)) [] := r138 (e162 d (by omega))
def IHP (T : Tr) (d : Nat) : Prop := ∀ U ∈ T.kids, U.kind ≠ 0 → U.kind ≠ 6 → ∀ d', d' ≤ d + 1 → E 27 [W d', U.pv] [] (.str (prt U d')) []
theorem writtenP {T U : Tr} {d : Nat} (hg : Good T d) (ih : IHP T d) (hU : U ∈ T.kids) (hk : U.kind ≠ 6) : E 167 [W d, U.pv] [] (.str (AxK (U.kind, prt U d))) [] := by
  unfold AxK;have hl := (hg.AqT (i := 0) hU (Nat.le_succ d)).2;by_cases h : U.kind = 0
  · dsimp only; rw [if_pos h]; exact r136_1 h
  · dsimp only; rw [if_neg h];have := r136_2 h (ih U hU h hk d (by omega)) (by simp; omega)
    simpa using this
theorem prts_drop (k : Int) (t : List UInt8) (d : Nat) : ∀ (ks : List Tr) (i j : Nat) (U : Tr), ks[j]? = some U → (prts ks k t i d).take (j + 1) = (prts ks k t i d).take j ++ [(U.kind, par k t (i + j) U (prt U d))]
  | [], _, _, _, h => by simp at h
  | V :: us, i, 0, U, h => by cases h; rw [prts]; simp
  | V :: us, i, j + 1, U, h => by
    have := prts_drop k t d us (i + 1) j U (by simpa using h)
    rw [prts, List.take_succ_cons, List.take_succ_cons, this];have e : i + 1 + j = i + (j + 1) := by omega
    rw [e]; rfl
def strs (l : List (Int × List UInt8)) : List PV := l.map fun x => .str x.2
theorem strs_take_succ {k : Int} {t : List UInt8} {d : Nat} {ks : List Tr} {j : Nat} {U : Tr} (h : ks[j]? = some U) : strs ((prts ks k t 0 d).take (j + 1)) = strs ((prts ks k t 0 d).take j) ++ [.str (par k t j U (prt U d))] := by
  have := prts_drop k t d ks 0 j U h;rw [this, strs, List.map_append, Nat.zero_add]; rfl
theorem all_loop {T : Tr} {d : Nat} (hg : Good T d) (hk : ∀ (i : Nat) (U : Tr), T.kids[i]? = some U → E 169 [W d, T.pv, .int .i64 ((i : Nat) : Int)] [] (.str (par T.kind T.text i U (prt U d))) []) : ∀ (r j : Nat), j + r = T.kids.length →
    Az7 pur run m135_0 l135_0 [(2, some (.vptr (W d))), (3, some (.vptr T.pv)), (5, some (accP 1 (strs ((prts T.kids T.kind T.text 0 d).take j)))), (9, some (.int .i64 ((T.kids.length : Nat) : Int))), (10, some (.int .i64 ((j : Nat) : Int)))] [] (.exit 0) [(3, some (.vptr T.pv)), (5, some (accP 1 (strs (prts T.kids T.kind T.text 0 d))))] [] := by
  have hkl := Ak0 T;have hsz := hg.size;intro r
  induction r with
  | zero =>
    intro j hj;rw [List.take_of_length_le (by rw [AjA]; omega)]
    exact r135_l0_out1 (by omega)
  | succ r ih =>
    intro j hj;obtain ⟨U, hU, _⟩ := drop_at (l := T.kids) (j := j) (by omega)
    have h1 := ih (j + 1) (by omega)
    rw [strs_take_succ hU] at h1;refine r135_l0_next1 (by omega) (hk j U hU) ?_ (by omega) h1
    simp [strs, Ax1]; omega
theorem AjG {T : Tr} {d : Nat} (hg : Good T d) : (AqM (prts T.kids T.kind T.text 0 d)).length ≤ 1200000 := by
  have h1 := commas_len 900 (by omega) (prts T.kids T.kind T.text 0 d)
  have h2 := prts_sum T.kind T.text d T.kids 0 fun U hU => prt_len _ U d (Nat.le_refl _) (hg.kid hU d (by omega))
  have hp : T.pre.length = 1 + tot T.kids := by
    obtain ⟨k, t, a, e, n, ks⟩ := T;rw [Tr.pre, tot_pres]; simp [Tr.kids]; omega
  have := hg.size;omega
theorem allP {T : Tr} {d : Nat} (hg : Good T d) (ih : IHP T d) (hne : ∀ U ∈ T.kids, U.kind ≠ 0 ∧ U.kind ≠ 6) : E 166 [W d, T.pv] [] (.str (AqM (prts T.kids T.kind T.text 0 d))) [] := by
  have hkl := Ak0 T;have hsz := hg.size;have hl := all_loop hg (fun i U hU => kidP hg hU (ih U (AxZ hU) (hne U (AxZ hU)).1 (hne U (AxZ hU)).2 d (by omega))) T.kids.length 0 (by omega)
  rw [List.take_zero] at hl;refine r135 hg.wf hl ?_
  have hc := AjG hg;unfold AqM at hc ⊢;have hn := AjA T.kids T.kind T.text 0 d;cases hp : prts T.kids T.kind T.text 0 d with
  | nil => exact e160n _
  | cons x l =>
    rw [hp] at hc hn;have := e160 ((x :: l).map (·.2)) [44, 32] (by simp at hn ⊢; omega) (by omega)
    rw [List.map_map] at this;exact this
theorem lineJ (d : Nat) {k : Int} {t : List UInt8} {d' : Nat} {ks : List Tr} {j : Nat} {U : Tr} (h : ks[j]? = some U) (hU : U.kind < 20) : AxX d ((prts ks k t 0 d').take (j + 1)) = AxX d ((prts ks k t 0 d').take j) ++ (List.flatten [ind d, prt U d', [10]]) := by
  have := prts_drop k t d' ks 0 j U h;rw [this, AxX, AxX, List.map_append, List.flatten_append];simp [Ax7 hU]
theorem lines_le {T : Tr} {d : Nat} (hg : Good T d) (j : Nat) : (AxX (d + 1) ((prts T.kids T.kind T.text 0 (d + 1)).take j)).length ≤ 1200000 := by
  have hsz := hg.size
  have hp : T.pre.length = 1 + tot T.kids := by
    obtain ⟨k, t, a, e, n, ks⟩ := T;rw [Tr.pre, tot_pres]; simp [Tr.kids]; omega
  have h2 := prts_sum T.kind T.text (d + 1) T.kids 0 fun U hU => prt_len _ U (d + 1) (Nat.le_refl _) (hg.kid hU (d + 1) (by omega))
  have h1 := lines_len (d + 1) 900 (by omega) ((prts T.kids T.kind T.text 0 (d + 1)).take j)
  have h3 : ∀ (l : List (Int × List UInt8)) (j : Nat), wsum 900 (l.take j) ≤ wsum 900 l := by
    intro l
    induction l with
    | nil => intro j; simp
    | cons x l ih =>
      intro j;cases j with
      | zero => simp [wsum]
      | succ j => have := ih j; simp only [List.take_succ_cons, wsum]; omega
  have := h3 (prts T.kids T.kind T.text 0 (d + 1)) j;omega
theorem wrap1 (d : Nat) (h : d ≤ 1000) : IntKind.i64.wrap (((d : Nat) : Int) + 1) = ((d + 1 : Nat) : Int) := by
  simp [IntKind.wrap, IntKind.bits, IntKind.signed]; omega
theorem block_loop {T : Tr} {d : Nat} (hg : Good T d) (ih : IHP T d) (hne : ∀ U ∈ T.kids, U.kind ≠ 0 ∧ U.kind ≠ 6 ∧ U.kind < 20) : ∀ (r j : Nat), j + r = T.kids.length →
    Az7 pur run m91_0 l91_0 [(2, some (.vptr (W d))), (5, some (.vptr (W (d + 1)))), (6, some (.ref 0 0)), (15, some T.kp), (16, some (.int .i64 ((T.kids.length : Nat) : Int))), (17, some (.int .i64 ((j : Nat) : Int)))] [[(.bld 63 5 ([123, 10] ++ AxX (d + 1) ((prts T.kids T.kind T.text 0 (d + 1)).take j)))]] (.exit 0)
      [(2, some (.vptr (W d))), (5, some (.vptr (W (d + 1)))), (6, some (.ref 0 0)), (15, some T.kp)] [[(.bld 63 5 ([123, 10] ++ AxX (d + 1) (prts T.kids T.kind T.text 0 (d + 1))))]] := by
  have hkl := Ak0 T;have hsz := hg.size;intro r
  induction r with
  | zero =>
    intro j hj;rw [List.take_of_length_le (by rw [AjA]; omega)]
    exact r91_l0_out1 (by omega)
  | succ r ihr =>
    intro j hj;obtain ⟨U, hU, _⟩ := drop_at (l := T.kids) (j := j) (by omega)
    obtain ⟨n0, n6, n20⟩ := hne U (AxZ hU);have h1 := ihr (j + 1) (by omega)
    rw [lineJ (d + 1) hU n20, ← List.append_assoc] at h1;have hll := lines_le hg j;have hul := (hg.kid (AxZ hU) (d + 1) (by omega)).len
    have hil := ind_len (d + 1);refine r91_l0_next1 (by omega) hg.wf hU (e138 (d + 1) (by omega)) (ih U (AxZ hU) n0 n6 (d + 1) (by omega)) ?_ ?_ (by omega) h1
    · simp; omega
    · simp; omega
theorem prog_loop {T : Tr} {d : Nat} (hg : Good T d) (ih : IHP T d) (hne : ∀ U ∈ T.kids, U.kind ≠ 0 ∧ U.kind ≠ 6 ∧ U.kind < 20) : ∀ (r j : Nat), j + r = T.kids.length →
    Az7 pur run m84_0 l84_0 [(2, some (.vptr (W d))), (5, some (.str (((prts T.kids T.kind T.text 0 d).take j).map fun x => x.2 ++ [10]).flatten)), (9, some T.kp), (10, some (.int .i64 ((T.kids.length : Nat) : Int))), (11, some (.int .i64 ((j : Nat) : Int)))] [] (.exit 0) [(5, some (.str ((prts T.kids T.kind T.text 0 d).map fun x => x.2 ++ [10]).flatten)), (9, some T.kp)] [] := by
  have hkl := Ak0 T;have hsz := hg.size;intro r
  induction r with
  | zero =>
    intro j hj;rw [List.take_of_length_le (by rw [AjA]; omega)]
    exact r84_l0_out1 (by omega)
  | succ r ihr =>
    intro j hj;obtain ⟨U, hU, _⟩ := drop_at (l := T.kids) (j := j) (by omega)
    obtain ⟨n0, n6, n20⟩ := hne U (AxZ hU);have h1 := ihr (j + 1) (by omega)
    have hul := (hg.kid (AxZ hU) d (by omega)).len
    have hpl : ((((prts T.kids T.kind T.text 0 d).take j).map fun x => x.2 ++ [10]).flatten).length ≤ 1200000 := by
      have h1 := prog_len 900 (by omega) ((prts T.kids T.kind T.text 0 d).take j)
      have h2 := prts_sum T.kind T.text d T.kids 0 fun U hU => prt_len _ U d (Nat.le_refl _) (hg.kid hU d (by omega))
      have hp : T.pre.length = 1 + tot T.kids := by
        obtain ⟨k, t, a, e, n, ks⟩ := T;rw [Tr.pre, tot_pres]; simp [Tr.kids]; omega
      have h3 : ∀ (l : List (Int × List UInt8)) (j : Nat), wsum 900 (l.take j) ≤ wsum 900 l := by
        intro l
        induction l with
        | nil => intro j; simp
        | cons x l ih =>
          intro j;cases j with
          | zero => simp [wsum]
          | succ j => have := ih j; simp only [List.take_succ_cons, wsum]; omega
      have := h3 (prts T.kids T.kind T.text 0 d) j;omega
    have e1 : (((prts T.kids T.kind T.text 0 d).take (j + 1)).map fun x => x.2 ++ [10]).flatten = (((prts T.kids T.kind T.text 0 d).take j).map fun x => x.2 ++ [10]).flatten ++ (List.flatten [prt U d, [10]]) := by
      have := prts_drop T.kind T.text d T.kids 0 j U hU;rw [this, List.map_append, List.flatten_append];simp [Ax7 n20]
    rw [e1] at h1;refine r84_l0_next1 (by omega) hg.wf hU (ih U (AxZ hU) n0 n6 d (by omega)) ?_ ?_ (by omega) h1
    · simp; omega
    · simp only [List.flatten_cons, List.flatten_nil, List.length_append, List.length_cons, List.length_nil, Aq4]; omega
theorem AxY {k : Int} {g : FuncId} (h : semP (.look .nilf true true) [writersMap, .int .i64 k] = some [some (.tuple [.func g [] [], .bool true])]) {T : Tr} (hk : T.kind = k) : semP (.look .nilf true true) [writersMap, .int .i64 T.kind] = some [some (.tuple [.func g [] [], .bool true])] := by rw [hk]; exact h
theorem wr29 {T : Tr} {d : Nat} (hk : T.kind = 29) (hg : Good T d) (ih : IHP T d) : E 27 [W d, T.pv] [] (.str (prt T d)) [] := by
  refine r36 (σg := []) (AxY (g := 129) rfl hk) rfl ?_
  have ht := hg.text T (AqB T);have hsz := hg.size;obtain ⟨U, V, hks, c0, c1⟩ := inv2 hg.loc hk rfl rfl;simp [kidOk] at c0 c1;have mU : U ∈ T.kids := by rw [hks]; simp
  have gU : T.kids[0]? = some U := by rw [hks]; rfl
  have lU := hg.AqT (i := 0) (d' := d) mU (by omega)
  have mV : V ∈ T.kids := by rw [hks]; simp
  have gV : T.kids[1]? = some V := by rw [hks]; rfl
  have lV := hg.AqT (i := 1) (d' := d) mV (by omega)
  have rU := Ax4 c0;have rV := Ax4 c1;have he : prt T d = List.flatten [par T.kind T.text 0 U (prt U d), [32], T.text, [32], par T.kind T.text 1 V (prt V d)] := by rw [Aq9, hks]; simp [prts, nodeT, at2, hk]
  rw [he];exact r106 (kidP hg gU (ih U mU (by omega) (by omega) d (by omega))) (kidP hg gV (ih V mV (by omega) (by omega) d (by omega))) (by simp; omega)
theorem wr28 {T : Tr} {d : Nat} (hk : T.kind = 28) (hg : Good T d) (ih : IHP T d) : E 27 [W d, T.pv] [] (.str (prt T d)) [] := by
  refine r36 (σg := []) (AxY (g := 128) rfl hk) rfl ?_
  have ht := hg.text T (AqB T);have hsz := hg.size;obtain ⟨U, hks, c0⟩ := inv1 hg.loc hk rfl rfl;simp [kidOk] at c0;have mU : U ∈ T.kids := by rw [hks]; simp
  have gU : T.kids[0]? = some U := by rw [hks]; rfl
  have lU := hg.AqT (i := 0) (d' := d) mU (by omega)
  have rU := Ax4 c0;by_cases hn : T.text = [110, 111, 116]
  · have he : prt T d = List.flatten [[110, 111, 116, 32], par T.kind T.text 0 U (prt U d)] := by rw [Aq9, hks]; simp [prts, nodeT, at2, hk, hn]
    rw [he]; exact r105_1 hn (kidP hg gU (ih U mU (by omega) (by omega) d (by omega))) (by simp; omega)
  · have he : prt T d = List.flatten [T.text, par T.kind T.text 0 U (prt U d)] := by rw [Aq9, hks]; simp [prts, nodeT, at2, hk, hn]
    rw [he]; exact r105_2 hn (kidP hg gU (ih U mU (by omega) (by omega) d (by omega))) (by simp; omega)
theorem wr21 {T : Tr} {d : Nat} (hk : T.kind = 21) (hg : Good T d) (ih : IHP T d) : E 27 [W d, T.pv] [] (.str (prt T d)) [] := by
  refine r36 (σg := []) (AxY (g := 123) rfl hk) rfl ?_
  have ht := hg.text T (AqB T);have hsz := hg.size;obtain ⟨U, V, hks, c0, c1⟩ := inv2 hg.loc hk rfl rfl;simp [kidOk] at c0 c1;have mU : U ∈ T.kids := by rw [hks]; simp
  have gU : T.kids[0]? = some U := by rw [hks]; rfl
  have lU := hg.AqT (i := 0) (d' := d) mU (by omega)
  have mV : V ∈ T.kids := by rw [hks]; simp
  have gV : T.kids[1]? = some V := by rw [hks]; rfl
  have lV := hg.AqT (i := 1) (d' := d) mV (by omega)
  have rV := Ax4 c1;have he : prt T d = List.flatten [par T.kind T.text 0 U (prt U d), [91], par T.kind T.text 1 V (prt V d), [93]] := by rw [Aq9, hks]; simp [prts, nodeT, at2, hk]
  rw [he];exact r100 (kidP hg gU (ih U mU (by omega) (by omega) d (by omega))) (kidP hg gV (ih V mV (by omega) (by omega) d (by omega))) (by simp; omega)
theorem wr22 {T : Tr} {d : Nat} (hk : T.kind = 22) (hg : Good T d) (ih : IHP T d) : E 27 [W d, T.pv] [] (.str (prt T d)) [] := by
  refine r36 (σg := []) (AxY (g := 124) rfl hk) rfl ?_
  have ht := hg.text T (AqB T);have hsz := hg.size;obtain ⟨U, hks, c0⟩ := inv1 hg.loc hk rfl rfl;simp [kidOk] at c0;have mU : U ∈ T.kids := by rw [hks]; simp
  have gU : T.kids[0]? = some U := by rw [hks]; rfl
  have lU := hg.AqT (i := 0) (d' := d) mU (by omega)
  have he : prt T d = List.flatten [par T.kind T.text 0 U (prt U d), [46], T.text] := by rw [Aq9, hks]; simp [prts, nodeT, at2, hk]
  rw [he];exact r101 (kidP hg gU (ih U mU (by omega) (by omega) d (by omega))) (by simp; omega)
theorem wr23 {T : Tr} {d : Nat} (hk : T.kind = 23) (hg : Good T d) (ih : IHP T d) : E 27 [W d, T.pv] [] (.str (prt T d)) [] := by
  refine r36 (σg := []) (AxY (g := 125) rfl hk) rfl ?_
  have ht := hg.text T (AqB T);have hsz := hg.size;obtain ⟨U, hks, c0⟩ := inv1 hg.loc hk rfl rfl;simp [kidOk] at c0;have mU : U ∈ T.kids := by rw [hks]; simp
  have gU : T.kids[0]? = some U := by rw [hks]; rfl
  have lU := hg.AqT (i := 0) (d' := d) mU (by omega)
  have he : prt T d = List.flatten [[108, 101, 110, 40], par T.kind T.text 0 U (prt U d), [41]] := by rw [Aq9, hks]; simp [prts, nodeT, at2, hk]
  rw [he];exact r102 (kidP hg gU (ih U mU (by omega) (by omega) d (by omega))) (by simp; omega)
theorem wr26 {T : Tr} {d : Nat} (hk : T.kind = 26) (hg : Good T d) (ih : IHP T d) : E 27 [W d, T.pv] [] (.str (prt T d)) [] := by
  refine r36 (σg := []) (AxY (g := 126) rfl hk) rfl ?_
  have ht := hg.text T (AqB T);have hsz := hg.size
  have hne : ∀ U ∈ T.kids, U.kind ≠ 0 ∧ U.kind ≠ 6 := fun U hU => by
    obtain ⟨j, c⟩ := invL hg.loc hk U hU;simp [kidOk] at c;have := Ax4 c; omega
  have hcl := AjG hg;have he : prt T d = List.flatten [[91], AqM (prts T.kids T.kind T.text 0 d), [93]] := by rw [Aq9]; simp [nodeT, hk]
  rw [he];exact r103 (allP hg ih hne) (by simp; omega)
theorem wr27 {T : Tr} {d : Nat} (hk : T.kind = 27) (hg : Good T d) (ih : IHP T d) : E 27 [W d, T.pv] [] (.str (prt T d)) [] := by
  refine r36 (σg := []) (AxY (g := 127) rfl hk) rfl ?_
  have ht := hg.text T (AqB T);have hsz := hg.size
  have hne : ∀ U ∈ T.kids, U.kind ≠ 0 ∧ U.kind ≠ 6 := fun U hU => by
    obtain ⟨j, c⟩ := invL hg.loc hk U hU;simp [kidOk] at c;have := Ax4 c; omega
  have hcl := AjG hg;have he : prt T d = List.flatten [T.text, [40], AqM (prts T.kids T.kind T.text 0 d), [41]] := by rw [Aq9]; simp [nodeT, hk]
  rw [he];exact r104 (allP hg ih hne) (by simp; omega)
theorem wr19 {T : Tr} {d : Nat} (hk : T.kind = 19) (hg : Good T d) (ih : IHP T d) : E 27 [W d, T.pv] [] (.str (prt T d)) [] := by
  refine r36 (σg := []) (AxY (g := 122) rfl hk) rfl ?_
  have ht := hg.text T (AqB T);have hsz := hg.size
  have hne : ∀ U ∈ T.kids, U.kind ≠ 0 ∧ U.kind ≠ 6 := fun U hU => by
    obtain ⟨j, c⟩ := invL hg.loc hk U hU;simp [kidOk] at c;have := Ax4 c; omega
  have hcl := AjG hg;have he : prt T d = List.flatten [List.flatten [T.text, [40], AqM (prts T.kids T.kind T.text 0 d), [41]], [59]] := by rw [Aq9]; simp [nodeT, hk]
  rw [he];exact r99 (r104 (allP hg ih hne) (by simp; omega)) (by simp; omega)
theorem wr3 {T : Tr} {d : Nat} (hk : T.kind = 3) (hg : Good T d) (ih : IHP T d) : E 27 [W d, T.pv] [] (.str (prt T d)) [] := by
  refine r36 (σg := []) (AxY (g := 108) rfl hk) rfl ?_
  have ht := hg.text T (AqB T);have hsz := hg.size
  have hne : ∀ U ∈ T.kids, U.kind ≠ 0 ∧ U.kind ≠ 6 := fun U hU => by
    obtain ⟨j, c⟩ := invL hg.loc hk U hU;simp [kidOk] at c;omega
  have hcl := AjG hg;have he : prt T d = List.flatten [[114, 101, 99, 111, 114, 100, 32], T.text, [32, 123, 32], AqM (prts T.kids T.kind T.text 0 d), [32, 125]] := by rw [Aq9]; simp [nodeT, hk]
  rw [he];exact r85 (allP hg ih hne) (by simp; omega)
theorem wr9 {T : Tr} {d : Nat} (hk : T.kind = 9) (hg : Good T d) (ih : IHP T d) : E 27 [W d, T.pv] [] (.str (prt T d)) [] := by
  refine r36 (σg := []) (AxY (g := 112) rfl hk) rfl ?_
  have ht := hg.text T (AqB T);have hsz := hg.size;have he : prt T d = T.text := by rw [Aq9]; simp [nodeT, hk]
  rw [he]; exact r89
theorem wr20 {T : Tr} {d : Nat} (hk : T.kind = 20) (hg : Good T d) (ih : IHP T d) : E 27 [W d, T.pv] [] (.str (prt T d)) [] := by
  refine r36 (σg := []) (AxY (g := 112) rfl hk) rfl ?_
  have ht := hg.text T (AqB T);have hsz := hg.size;have he : prt T d = T.text := by rw [Aq9]; simp [nodeT, hk]
  rw [he]; exact r89
theorem wr24 {T : Tr} {d : Nat} (hk : T.kind = 24) (hg : Good T d) (ih : IHP T d) : E 27 [W d, T.pv] [] (.str (prt T d)) [] := by
  refine r36 (σg := []) (AxY (g := 112) rfl hk) rfl ?_
  have ht := hg.text T (AqB T);have hsz := hg.size;have he : prt T d = T.text := by rw [Aq9]; simp [nodeT, hk]
  rw [he]; exact r89
theorem wr25 {T : Tr} {d : Nat} (hk : T.kind = 25) (hg : Good T d) (ih : IHP T d) : E 27 [W d, T.pv] [] (.str (prt T d)) [] := by
  refine r36 (σg := []) (AxY (g := 112) rfl hk) rfl ?_
  have ht := hg.text T (AqB T);have hsz := hg.size;have he : prt T d = T.text := by rw [Aq9]; simp [nodeT, hk]
  rw [he]; exact r89
theorem wr10 {T : Tr} {d : Nat} (hk : T.kind = 10) (hg : Good T d) (ih : IHP T d) : E 27 [W d, T.pv] [] (.str (prt T d)) [] := by
  refine r36 (σg := []) (AxY (g := 113) rfl hk) rfl ?_
  have ht := hg.text T (AqB T);have hsz := hg.size;have he : prt T d = List.flatten [[105, 110, 116, 91], T.text, [93]] := by rw [Aq9]; simp [nodeT, hk]
  rw [he];exact r90 (by simp; omega)
theorem wr4 {T : Tr} {d : Nat} (hk : T.kind = 4) (hg : Good T d) (ih : IHP T d) : E 27 [W d, T.pv] [] (.str (prt T d)) [] := by
  refine r36 (σg := []) (AxY (g := 109) rfl hk) rfl ?_
  have ht := hg.text T (AqB T);have hsz := hg.size;obtain ⟨U, hks, c0⟩ := inv1 hg.loc hk rfl rfl;simp [kidOk] at c0;have mU : U ∈ T.kids := by rw [hks]; simp
  have gU : T.kids[0]? = some U := by rw [hks]; rfl
  have lU := hg.AqT (i := 0) (d' := d) mU (by omega)
  have tU := Az8 (U.kind, prt U d);dsimp only at tU;have he : prt T d = List.flatten [T.text, (AxK (U.kind, prt U d))] := by rw [Aq9, hks]; simp [prts, nodeT, at2, hk, Ax7 (show U.kind < 20 by omega)]
  rw [he];exact r86 hg.wf gU (writtenP hg ih mU (by omega)) (by simp; omega)
theorem wr7 {T : Tr} {d : Nat} (hk : T.kind = 7) (hg : Good T d) (ih : IHP T d) : E 27 [W d, T.pv] [] (.str (prt T d)) [] := by
  refine r36 (σg := []) (AxY (g := 109) rfl hk) rfl ?_
  have ht := hg.text T (AqB T);have hsz := hg.size;obtain ⟨U, hks, c0⟩ := inv1 hg.loc hk rfl rfl;simp [kidOk] at c0;have mU : U ∈ T.kids := by rw [hks]; simp
  have gU : T.kids[0]? = some U := by rw [hks]; rfl
  have lU := hg.AqT (i := 0) (d' := d) mU (by omega)
  have rU := AjI (by simpa using c0)
  have tU := Az8 (U.kind, prt U d);dsimp only at tU;have he : prt T d = List.flatten [T.text, (AxK (U.kind, prt U d))] := by rw [Aq9, hks]; simp [prts, nodeT, at2, hk, Ax7 (show U.kind < 20 by omega)]
  rw [he];exact r86 hg.wf gU (writtenP hg ih mU (by omega)) (by simp; omega)
theorem wr8 {T : Tr} {d : Nat} (hk : T.kind = 8) (hg : Good T d) (ih : IHP T d) : E 27 [W d, T.pv] [] (.str (prt T d)) [] := by
  refine r36 (σg := []) (AxY (g := 111) rfl hk) rfl ?_
  have ht := hg.text T (AqB T);have hsz := hg.size;obtain ⟨U, hks, c0⟩ := inv1 hg.loc hk rfl rfl;simp [kidOk] at c0;have mU : U ∈ T.kids := by rw [hks]; simp
  have gU : T.kids[0]? = some U := by rw [hks]; rfl
  have lU := hg.AqT (i := 0) (d' := d) mU (by omega)
  have rU := AjI (by simpa using c0)
  have tU := Az8 (U.kind, prt U d);dsimp only at tU;have he : prt T d = List.flatten [[118, 97, 114, 32], List.flatten [T.text, (AxK (U.kind, prt U d))]] := by rw [Aq9, hks]; simp [prts, nodeT, at2, hk, Ax7 (show U.kind < 20 by omega)]
  rw [he];exact r88 (r86 hg.wf gU (writtenP hg ih mU (by omega)) (by simp; omega)) (by simp; omega)
theorem wr12 {T : Tr} {d : Nat} (hk : T.kind = 12) (hg : Good T d) (ih : IHP T d) : E 27 [W d, T.pv] [] (.str (prt T d)) [] := by
  refine r36 (σg := []) (AxY (g := 115) rfl hk) rfl ?_
  have ht := hg.text T (AqB T);have hsz := hg.size;obtain ⟨U, V, hks, c0, c1⟩ := inv2 hg.loc hk rfl rfl;simp [kidOk] at c0 c1;have mU : U ∈ T.kids := by rw [hks]; simp
  have gU : T.kids[0]? = some U := by rw [hks]; rfl
  have lU := hg.AqT (i := 0) (d' := d) mU (by omega)
  have mV : V ∈ T.kids := by rw [hks]; simp
  have gV : T.kids[1]? = some V := by rw [hks]; rfl
  have lV := hg.AqT (i := 1) (d' := d) mV (by omega)
  have rU := AjI (by simpa using c0)
  have rV := Ax4 c1;have tU := Az8 (U.kind, prt U d);dsimp only at tU;have he : prt T d = List.flatten [[118, 97, 114, 32], T.text, (AxK (U.kind, prt U d)), [32, 61, 32], par T.kind T.text 1 V (prt V d), [59]] := by rw [Aq9, hks]; simp [prts, nodeT, at2, hk, Ax7 (show U.kind < 20 by omega)]
  rw [he];exact r92 hg.wf gU (writtenP hg ih mU (by omega)) (kidP hg gV (ih V mV (by omega) (by omega) d (by omega))) (by simp; omega)
theorem wr13 {T : Tr} {d : Nat} (hk : T.kind = 13) (hg : Good T d) (ih : IHP T d) : E 27 [W d, T.pv] [] (.str (prt T d)) [] := by
  refine r36 (σg := []) (AxY (g := 116) rfl hk) rfl ?_
  have ht := hg.text T (AqB T);have hsz := hg.size;obtain ⟨U, V, hks, c0, c1⟩ := inv2 hg.loc hk rfl rfl;simp [kidOk] at c0 c1;have mU : U ∈ T.kids := by rw [hks]; simp
  have gU : T.kids[0]? = some U := by rw [hks]; rfl
  have lU := hg.AqT (i := 0) (d' := d) mU (by omega)
  have mV : V ∈ T.kids := by rw [hks]; simp
  have gV : T.kids[1]? = some V := by rw [hks]; rfl
  have lV := hg.AqT (i := 1) (d' := d) mV (by omega)
  have rU : 20 ≤ U.kind ∧ U.kind ≤ 22 := by simp [AzC] at c0; omega
  have rV := Ax4 c1;have he : prt T d = List.flatten [par T.kind T.text 0 U (prt U d), [32, 61, 32], par T.kind T.text 1 V (prt V d), [59]] := by rw [Aq9, hks]; simp [prts, nodeT, at2, hk]
  rw [he];exact r93 (kidP hg gU (ih U mU (by omega) (by omega) d (by omega))) (kidP hg gV (ih V mV (by omega) (by omega) d (by omega))) (by simp; omega)
theorem wr18 {T : Tr} {d : Nat} (hk : T.kind = 18) (hg : Good T d) (ih : IHP T d) : E 27 [W d, T.pv] [] (.str (prt T d)) [] := by
  refine r36 (σg := []) (AxY (g := 121) rfl hk) rfl ?_
  have ht := hg.text T (AqB T);have hsz := hg.size;obtain ⟨U, hks, c0⟩ := inv1 hg.loc hk rfl rfl;simp [kidOk] at c0;have mU : U ∈ T.kids := by rw [hks]; simp
  have gU : T.kids[0]? = some U := by rw [hks]; rfl
  have lU := hg.AqT (i := 0) (d' := d) mU (by omega)
  have rU := Ax4 c0;have he : prt T d = List.flatten [[97, 115, 115, 101, 114, 116, 32], par T.kind T.text 0 U (prt U d), [59]] := by rw [Aq9, hks]; simp [prts, nodeT, at2, hk]
  rw [he];exact r98 (kidP hg gU (ih U mU (by omega) (by omega) d (by omega))) (by simp; omega)
theorem wr17 {T : Tr} {d : Nat} (hk : T.kind = 17) (hg : Good T d) (ih : IHP T d) : E 27 [W d, T.pv] [] (.str (prt T d)) [] := by
  refine r36 (σg := []) (AxY (g := 120) rfl hk) rfl ?_
  have ht := hg.text T (AqB T);have hsz := hg.size;obtain ⟨U, hks, c0⟩ := inv1 hg.loc hk rfl rfl;simp [kidOk] at c0;have mU : U ∈ T.kids := by rw [hks]; simp
  have gU : T.kids[0]? = some U := by rw [hks]; rfl
  have lU := hg.AqT (i := 0) (d' := d) mU (by omega)
  by_cases h0 : U.kind = 0
  · have he : prt T d = [114, 101, 116, 117, 114, 110, 59] := by rw [Aq9, hks]; simp [prts, nodeT, at2, hk, h0]
    rw [he]; exact r97_1 hg.wf gU h0
  · have rU : 20 ≤ U.kind ∧ U.kind ≤ 29 := by simp [Ax0] at c0; omega
    have he : prt T d = List.flatten [[114, 101, 116, 117, 114, 110, 32], par T.kind T.text 0 U (prt U d), [59]] := by rw [Aq9, hks]; simp [prts, nodeT, at2, hk, h0]
    rw [he]; exact r97_2 hg.wf gU h0 (kidP hg gU (ih U mU (by omega) (by omega) d (by omega))) (by simp; omega)
theorem wr15 {T : Tr} {d : Nat} (hk : T.kind = 15) (hg : Good T d) (ih : IHP T d) : E 27 [W d, T.pv] [] (.str (prt T d)) [] := by
  refine r36 (σg := []) (AxY (g := 118) rfl hk) rfl ?_
  have ht := hg.text T (AqB T);have hsz := hg.size;obtain ⟨U, V, hks, c0, c1⟩ := inv2 hg.loc hk rfl rfl;simp [kidOk] at c0 c1;have mU : U ∈ T.kids := by rw [hks]; simp
  have gU : T.kids[0]? = some U := by rw [hks]; rfl
  have lU := hg.AqT (i := 0) (d' := d) mU (by omega)
  have mV : V ∈ T.kids := by rw [hks]; simp
  have gV : T.kids[1]? = some V := by rw [hks]; rfl
  have lV := hg.AqT (i := 1) (d' := d) mV (by omega)
  have rU := Ax4 c0;have he : prt T d = List.flatten [[119, 104, 105, 108, 101, 32], par T.kind T.text 0 U (prt U d), [32], prt V d] := by rw [Aq9, hks]; simp [prts, nodeT, at2, hk, Ax7 (show V.kind < 20 by omega)]
  rw [he];exact r95 (kidP hg gU (ih U mU (by omega) (by omega) d (by omega))) hg.wf gV (ih V mV (by omega) (by omega) d (by omega)) (by simp; omega)
theorem wr16 {T : Tr} {d : Nat} (hk : T.kind = 16) (hg : Good T d) (ih : IHP T d) : E 27 [W d, T.pv] [] (.str (prt T d)) [] := by
  refine r36 (σg := []) (AxY (g := 119) rfl hk) rfl ?_
  have ht := hg.text T (AqB T);have hsz := hg.size;obtain ⟨U, V, X, hks, c0, c1, c2⟩ := inv3 hg.loc hk rfl rfl;simp [kidOk] at c0 c1 c2;have mU : U ∈ T.kids := by rw [hks]; simp
  have gU : T.kids[0]? = some U := by rw [hks]; rfl
  have lU := hg.AqT (i := 0) (d' := d) mU (by omega)
  have mV : V ∈ T.kids := by rw [hks]; simp
  have gV : T.kids[1]? = some V := by rw [hks]; rfl
  have lV := hg.AqT (i := 1) (d' := d) mV (by omega)
  have mX : X ∈ T.kids := by rw [hks]; simp
  have gX : T.kids[2]? = some X := by rw [hks]; rfl
  have lX := hg.AqT (i := 2) (d' := d) mX (by omega)
  have rU := Ax4 c0;have rV := Ax4 c1;have he : prt T d = List.flatten [[102, 111, 114, 32], T.text, [32, 61, 32], par T.kind T.text 0 U (prt U d), [32, 116, 111, 32], par T.kind T.text 1 V (prt V d), [32], prt X d] := by rw [Aq9, hks]; simp [prts, nodeT, at2, hk, Ax7 (show X.kind < 20 by omega)]
  rw [he];exact r96 (kidP hg gU (ih U mU (by omega) (by omega) d (by omega))) (kidP hg gV (ih V mV (by omega) (by omega) d (by omega))) hg.wf gX (ih X mX (by omega) (by omega) d (by omega)) (by simp; omega)
theorem wr14 {T : Tr} {d : Nat} (hk : T.kind = 14) (hg : Good T d) (ih : IHP T d) : E 27 [W d, T.pv] [] (.str (prt T d)) [] := by
  refine r36 (σg := []) (AxY (g := 117) rfl hk) rfl ?_
  have ht := hg.text T (AqB T);have hsz := hg.size;obtain ⟨U, V, X, hks, c0, c1, c2⟩ := inv3 hg.loc hk rfl rfl;simp [kidOk] at c0 c1 c2;have mU : U ∈ T.kids := by rw [hks]; simp
  have gU : T.kids[0]? = some U := by rw [hks]; rfl
  have lU := hg.AqT (i := 0) (d' := d) mU (by omega)
  have mV : V ∈ T.kids := by rw [hks]; simp
  have gV : T.kids[1]? = some V := by rw [hks]; rfl
  have lV := hg.AqT (i := 1) (d' := d) mV (by omega)
  have mX : X ∈ T.kids := by rw [hks]; simp
  have gX : T.kids[2]? = some X := by rw [hks]; rfl
  have lX := hg.AqT (i := 2) (d' := d) mX (by omega)
  have rU := Ax4 c0;have rX : X.kind = 11 ∨ X.kind = 14 ∨ X.kind = 0 := by omega
  by_cases h0 : X.kind = 0
  · have he : prt T d = List.flatten [[105, 102, 32], par T.kind T.text 0 U (prt U d), [32], prt V d] := by rw [Aq9, hks]; simp [prts, nodeT, at2, hk, h0, Ax7 (show V.kind < 20 by omega)]
    rw [he]; exact r94_1 (kidP hg gU (ih U mU (by omega) (by omega) d (by omega))) hg.wf gV (ih V mV (by omega) (by omega) d (by omega)) (by simp; omega) gX h0
  · have he : prt T d = List.flatten [List.flatten [[105, 102, 32], par T.kind T.text 0 U (prt U d), [32], prt V d], [32, 101, 108, 115, 101, 32], prt X d] := by rw [Aq9, hks]; simp [prts, nodeT, at2, hk, h0, Ax7 (show V.kind < 20 by omega), Ax7 (show X.kind < 20 by omega)]
    rw [he]; exact r94_2 (kidP hg gU (ih U mU (by omega) (by omega) d (by omega))) hg.wf gV (ih V mV (by omega) (by omega) d (by omega)) (by simp; omega) gX h0 gX (ih X mX (by omega) (by omega) d (by omega)) (by simp; omega)
theorem wr11 {T : Tr} {d : Nat} (hk : T.kind = 11) (hg : Good T d) (ih : IHP T d) : E 27 [W d, T.pv] [] (.str (prt T d)) [] := by
  refine r36 (σg := [[.dead]]) (AxY (g := 114) rfl hk) rfl ?_
  have ht := hg.text T (AqB T);have hsz := hg.size
  have hne : ∀ U ∈ T.kids, U.kind ≠ 0 ∧ U.kind ≠ 6 ∧ U.kind < 20 := fun U hU => by
    obtain ⟨j, c⟩ := invL hg.loc hk U hU;simp [kidOk] at c;have := stm_rng c; omega
  have he : prt T d = ([123, 10] ++ AxX (d + 1) (prts T.kids T.kind T.text 0 (d + 1))) ++ List.flatten [ind d, [125]] := by rw [Aq9]; simp [nodeT, hk]
  rw [he];have hl := block_loop hg ih hne T.kids.length 0 (by omega)
  rw [List.take_zero] at hl;have hll := lines_le hg T.kids.length;rw [List.take_of_length_le (by rw [AjA]; omega)] at hll
  have hil := ind_len d;exact r91 (wrap1 d (by omega)) (by decide) hg.wf hl (e138 d (by omega)) (by simp; omega) (by simp; omega) (by simp)
theorem wr2 {T : Tr} {d : Nat} (hk : T.kind = 2) (hg : Good T d) (ih : IHP T d) : E 27 [W d, T.pv] [] (.str (prt T d)) [] := by
  refine r36 (σg := []) (AxY (g := 107) rfl hk) rfl ?_
  have ht := hg.text T (AqB T);have hsz := hg.size
  have hne : ∀ U ∈ T.kids, U.kind ≠ 0 ∧ U.kind ≠ 6 ∧ U.kind < 20 := fun U hU => by
    obtain ⟨j, c⟩ := invL hg.loc hk U hU;simp [kidOk] at c;omega
  have he : prt T d = ((prts T.kids T.kind T.text 0 d).map fun x => x.2 ++ [10]).flatten := by rw [Aq9]; simp [nodeT, hk]
  rw [he];have hl := prog_loop hg ih hne T.kids.length 0 (by omega)
  rw [List.take_zero] at hl;exact r84 hg.wf hl
theorem wr5 {T : Tr} {d : Nat} (hk : T.kind = 5) (hg : Good T d) (ih : IHP T d) (ih2 : ∀ U ∈ T.kids, IHP U d) : E 27 [W d, T.pv] [] (.str (prt T d)) [] := by
  refine r36 (σg := []) (AxY (g := 110) rfl hk) rfl ?_
  have ht := hg.text T (AqB T);have hsz := hg.size;obtain ⟨U, V, X, hks, c0, c1, c2⟩ := inv3 hg.loc hk rfl rfl;simp [kidOk] at c0 c1 c2;have mU : U ∈ T.kids := by rw [hks]; simp
  have gU : T.kids[0]? = some U := by rw [hks]; rfl
  have lU := hg.AqT (i := 0) (d' := d) mU (by omega)
  have mV : V ∈ T.kids := by rw [hks]; simp
  have gV : T.kids[1]? = some V := by rw [hks]; rfl
  have lV := hg.AqT (i := 1) (d' := d) mV (by omega)
  have mX : X ∈ T.kids := by rw [hks]; simp
  have gX : T.kids[2]? = some X := by rw [hks]; rfl
  have lX := hg.AqT (i := 2) (d' := d) mX (by omega)
  have rV := AjI (by simpa using c1)
  have hgU := hg.kid mU d (by omega)
  have hpU : prt U d = AqM (prts U.kids U.kind U.text 0 d) := by rw [Aq9]; simp [nodeT, c0]
  have hA := allP hgU (ih2 U mU) fun Y hY => by
    obtain ⟨j, c⟩ := invL hgU.loc c0 Y hY;simp [kidOk] at c;omega
  rw [← hpU] at hA;have tV := Az8 (V.kind, prt V d);dsimp only at tV;have he : prt T d = List.flatten [[112, 114, 111, 99, 32], T.text, [40], prt U d, [41], (AxK (V.kind, prt V d)), [32], prt X d] := by rw [Aq9, hks]; simp [prts, nodeT, at2, hk, Ax7 (show U.kind < 20 by omega), Ax7 (show V.kind < 20 by omega), Ax7 (show X.kind < 20 by omega)]
  rw [he];exact r87 hg.wf gU hA gV (writtenP hg ih mV (by omega)) gX (ih X mX (by omega) (by omega) d (by omega)) (by simp; omega)
theorem e36 : ∀ (n : Nat) (T : Tr) (d : Nat), T.pre.length ≤ n → Good T d → T.kind ≠ 0 → T.kind ≠ 6 → E 27 [W d, T.pv] [] (.str (prt T d)) []
  | 0, T, d, h, _, _, _ => by obtain ⟨k, t, a, e, n, ks⟩ := T; simp [Tr.pre] at h
  | n + 1, T, d, h, hg, n0, n6 => by
    have ih : IHP T d := fun U hU h0 h6 d' hd => e36 n U d' (by have := AzX T U hU; omega) (hg.kid hU d' hd) h0 h6
    have ih2 : ∀ U ∈ T.kids, IHP U d := fun U hU V hV h0 h6 d' hd => e36 n V d' (by have := AzX T U hU; have := AzX U V hV; omega) ((hg.kid hU d (by omega)).kid hV d' hd) h0 h6
    obtain ⟨h0, h29, h1, _⟩ := Aq7 hg.loc;rcases kinds30 h0 h29 with hk | hk | hk | hk | hk | hk | hk | hk | hk | hk | hk | hk | hk | hk | hk | hk | hk | hk | hk | hk | hk | hk | hk | hk | hk | hk | hk | hk | hk | hk
    · exact absurd hk n0
    · exact absurd hk h1
    · exact wr2 hk hg ih
    · exact wr3 hk hg ih
    · exact wr4 hk hg ih
    · exact wr5 hk hg ih ih2
    · exact absurd hk n6
    · exact wr7 hk hg ih
    · exact wr8 hk hg ih
    · exact wr9 hk hg ih
    · exact wr10 hk hg ih
    · exact wr11 hk hg ih
    · exact wr12 hk hg ih
    · exact wr13 hk hg ih
    · exact wr14 hk hg ih
    · exact wr15 hk hg ih
    · exact wr16 hk hg ih
    · exact wr17 hk hg ih
    · exact wr18 hk hg ih
    · exact wr19 hk hg ih
    · exact wr20 hk hg ih
    · exact wr21 hk hg ih
    · exact wr22 hk hg ih
    · exact wr23 hk hg ih
    · exact wr24 hk hg ih
    · exact wr25 hk hg ih
    · exact wr26 hk hg ih
    · exact wr27 hk hg ih
    · exact wr28 hk hg ih
    · exact wr29 hk hg ih
end Go.Abs.Z

namespace Go.Abs.Z
open Go.Proofs Go.RowKit
theorem kidR {T U : Tr} {d i : Nat} (hg : Good T d) (hU : T.kids[i]? = some U) (h : E 101 [U.pv] [] (.str (prt U d)) []) : E 58 [T.pv, .int .i64 ((i : Nat) : Int)] [] (.str (par T.kind T.text i U (prt U d))) [] := by
  have h2 := e13 T U ((i : Nat) : Int);have hl := (hg.AqT (i := i) (AxZ hU) (Nat.le_succ d)).2;unfold par;cases hb : parV T.kind T.text i U.kind U.text with
  | true =>
    rw [hb] at h2;exact r77_1 hg.wf hU h hU h2 (by simp [Aq4]; omega) (by simp [Aq4]; omega)
  | false => rw [hb] at h2; exact r77_2 hg.wf hU h hU h2
def textK (k : Int) : Prop := k = 4 ∨ k = 7 ∨ k = 8 ∨ k = 9 ∨ k = 10 ∨ (20 ≤ k ∧ k ≤ 29)
def IHT (T : Tr) (d : Nat) : Prop := ∀ U ∈ T.kids, textK U.kind → E 101 [U.pv] [] (.str (prt U d)) []
theorem typedR {T U : Tr} {d : Nat} (hg : Good T d) (ih : IHT T d) (hU : U ∈ T.kids) (hk : U.kind = 9 ∨ U.kind = 10 ∨ U.kind = 0) : E 57 [U.pv] [] (.str (AxK (U.kind, prt U d))) [] := by
  unfold AxK;have hl := (hg.AqT (i := 0) hU (Nat.le_succ d)).2;by_cases h : U.kind = 0
  · dsimp only; rw [if_pos h]; exact r56_1 h
  · dsimp only; rw [if_neg h];exact r56_2 h (ih U hU (by unfold textK; omega)) (by simp [Aq4]; omega)
theorem commas_snoc (l : List (Int × List UInt8)) (x : Int × List UInt8) (h : l ≠ []) : AqM (l ++ [x]) = (AqM l ++ [44, 32]) ++ x.2 := by
  cases l with
  | nil => exact absurd rfl h
  | cons y l =>
    unfold AqM;rw [List.cons_append, List.map_cons, List.map_cons, Lib.join_cons, Lib.join_cons];simp [Lib.joinTail]
theorem commas_one (x : Int × List UInt8) : AqM [x] = x.2 := by simp [AqM, Lib.join_one]
theorem commas_nil : AqM [] = [] := rfl
theorem commas_take {T : Tr} {d : Nat} (hg : Good T d) (j : Nat) : (AqM ((prts T.kids T.kind T.text 0 d).take j)).length ≤ 1200000 := by
  have h1 := commas_len 900 (by omega) ((prts T.kids T.kind T.text 0 d).take j)
  have h2 := prts_sum T.kind T.text d T.kids 0 fun U hU => prt_len _ U d (Nat.le_refl _) (hg.kid hU d (by omega))
  have hp : T.pre.length = 1 + tot T.kids := by
    obtain ⟨k, t, a, e, n, ks⟩ := T;rw [Tr.pre, tot_pres]; simp [Tr.kids]; omega
  have h3 : ∀ (l : List (Int × List UInt8)) (j : Nat), wsum 900 (l.take j) ≤ wsum 900 l := by
    intro l
    induction l with
    | nil => intro j; simp
    | cons x l ih =>
      intro j;cases j with
      | zero => simp [wsum]
      | succ j => have := ih j; simp only [List.take_succ_cons, wsum]; omega
  have := h3 (prts T.kids T.kind T.text 0 d) j;have := hg.size;omega
theorem list_loop {T : Tr} {d : Nat} (hg : Good T d) (hk : ∀ (i : Nat) (U : Tr), T.kids[i]? = some U → E 58 [T.pv, .int .i64 ((i : Nat) : Int)] [] (.str (par T.kind T.text i U (prt U d))) []) : ∀ (r j : Nat), j + r = T.kids.length →
    Az7 pur run m55_0 l55_0 [(1, some (.vptr T.pv)), (3, some (.str (AqM ((prts T.kids T.kind T.text 0 d).take j)))), (4, some (.int .i64 ((j : Nat) : Int)))] [] (.exit 0) [(3, some (.str (AqM (prts T.kids T.kind T.text 0 d))))] [] := by
  have hkl := Ak0 T;have hsz := hg.size;intro r
  induction r with
  | zero =>
    intro j hj;rw [List.take_of_length_le (by rw [AjA]; omega)]
    exact r55_l0_out1 hg.wf (by omega)
  | succ r ih =>
    intro j hj;obtain ⟨U, hU, _⟩ := drop_at (l := T.kids) (j := j) (by omega)
    have h1 := ih (j + 1) (by omega)
    rw [prts_drop T.kind T.text d T.kids 0 j U hU, Nat.zero_add] at h1;have hpl := hg.AqT (i := j) (AxZ hU) (Nat.le_succ d);have hct := commas_take hg j;cases j with
    | zero =>
      rw [List.take_zero, List.nil_append, commas_one] at h1;rw [List.take_zero, commas_nil];exact r55_l0_next2 hg.wf (by omega) (by omega) (hk 0 U hU) (by simp [Aq4]; omega) (by omega) h1
    | succ j =>
      rw [commas_snoc _ _ (by
        intro h;have := congrArg List.length h;rw [List.length_take, AjA] at this;have hkl2 := Ak0 T;simp only [List.length_nil] at this; omega)] at h1
      exact r55_l0_next1 hg.wf (by omega) (by omega) (by simp only [List.length_append, List.length_cons, List.length_nil, Aq4]; omega) (hk (j + 1) U hU) (by simp only [List.length_append, List.length_cons, List.length_nil, Aq4]; omega) (by omega) h1
theorem listR {T : Tr} {d : Nat} (hg : Good T d) (ih : IHT T d) (hne : ∀ U ∈ T.kids, textK U.kind) : E 59 [T.pv] [] (.str (AqM (prts T.kids T.kind T.text 0 d))) [] := by
  have hl := list_loop hg (fun i U hU => kidR hg hU (ih U (AxZ hU) (hne U (AxZ hU)))) T.kids.length 0 (by omega)
  rw [List.take_zero] at hl;exact r55 hl
theorem ind_succ (j : Nat) : ind (j + 1) = ind j ++ [32, 32] := by
  show Lib.repeatL [32, 32] (j + 1) = Lib.repeatL [32, 32] j ++ [32, 32];rw [Lib.repeatL_add]; rfl
theorem ind_loop (d : Nat) (hd : d ≤ 1000) : ∀ (r j : Nat), j + r = d → Az7 pur run m80_0 l80_0 [(0, some (.int .i64 ((d : Nat) : Int))), (3, some (.str (ind j))), (4, some (.int .i64 ((j : Nat) : Int)))] [] (.exit 0) [(3, some (.str (ind d)))] [] := by
  intro r
  induction r with
  | zero => intro j hj; obtain rfl : j = d := by omega
            exact r80_l0_out1 (by omega)
  | succ r ih =>
    intro j hj;have h1 := ih (j + 1) (by omega)
    rw [ind_succ] at h1;have := ind_len j;exact r80_l0_next1 (by omega) (by simp [Aq4]; omega) (by omega) h1
theorem e80 (d : Nat) (hd : d ≤ 1000) : E 103 [.int .i64 ((d : Nat) : Int)] [] (.str (ind d)) [] := r80 (ind_loop d hd d 0 (by omega))
theorem tx29 {T : Tr} {d : Nat} (hk : T.kind = 29) (hg : Good T d) (ih : IHT T d) : E 101 [T.pv] [] (.str (prt T d)) [] := by
  have ht := hg.text T (AqB T);have hsz := hg.size;obtain ⟨U, V, hks, c0, c1⟩ := inv2 hg.loc hk rfl rfl;simp [kidOk] at c0 c1;have mU : U ∈ T.kids := by rw [hks]; simp
  have gU : T.kids[0]? = some U := by rw [hks]; rfl
  have lU := hg.AqT (i := 0) (d' := d) mU (by omega)
  have mV : V ∈ T.kids := by rw [hks]; simp
  have gV : T.kids[1]? = some V := by rw [hks]; rfl
  have lV := hg.AqT (i := 1) (d' := d) mV (by omega)
  have rU := Ax4 c0;have rV := Ax4 c1;have he : prt T d = ((((par T.kind T.text 0 U (prt U d) ++ [32]) ++ T.text) ++ [32]) ++ par T.kind T.text 1 V (prt V d)) := by rw [Aq9, hks]; simp [prts, nodeT, at2, hk]
  rw [he];exact r51_1 hk (kidR hg gU (ih U mU (by unfold textK; omega))) (by simp only [List.length_append, List.length_cons, List.length_nil, Aq4]; omega) (by simp only [List.length_append, List.length_cons, List.length_nil, Aq4]; omega) (by simp only [List.length_append, List.length_cons, List.length_nil, Aq4]; omega) (kidR hg gV (ih V mV (by unfold textK; omega))) (by simp only [List.length_append, List.length_cons, List.length_nil, Aq4]; omega)
theorem tx28 {T : Tr} {d : Nat} (hk : T.kind = 28) (hg : Good T d) (ih : IHT T d) : E 101 [T.pv] [] (.str (prt T d)) [] := by
  have ht := hg.text T (AqB T);have hsz := hg.size;obtain ⟨U, hks, c0⟩ := inv1 hg.loc hk rfl rfl;simp [kidOk] at c0;have mU : U ∈ T.kids := by rw [hks]; simp
  have gU : T.kids[0]? = some U := by rw [hks]; rfl
  have lU := hg.AqT (i := 0) (d' := d) mU (by omega)
  have rU := Ax4 c0;obtain ⟨_, _, _, htx, _⟩ := Aq7 hg.loc;rw [hk] at htx;by_cases hn : T.text = [110, 111, 116]
  · have he : prt T d = ([110, 111, 116, 32] ++ par T.kind T.text 0 U (prt U d)) := by rw [Aq9, hks]; simp [prts, nodeT, at2, hk, hn]
    rw [he]; exact r51_2 (by omega) hk hn (kidR hg gU (ih U mU (by unfold textK; omega))) (by simp only [List.length_append, List.length_cons, List.length_nil, Aq4]; omega)
  · have ht2 : T.text = [45] := by simpa [Aq5, hn] using htx
    have he : prt T d = ([45] ++ par T.kind T.text 0 U (prt U d)) := by rw [Aq9, hks]; simp [prts, nodeT, at2, hk, hn, ht2]
    rw [he]; exact r51_3 (by omega) hk hn (kidR hg gU (ih U mU (by unfold textK; omega))) (by simp only [List.length_append, List.length_cons, List.length_nil, Aq4]; omega)
theorem tx21 {T : Tr} {d : Nat} (hk : T.kind = 21) (hg : Good T d) (ih : IHT T d) : E 101 [T.pv] [] (.str (prt T d)) [] := by
  have ht := hg.text T (AqB T);have hsz := hg.size;obtain ⟨U, V, hks, c0, c1⟩ := inv2 hg.loc hk rfl rfl;simp [kidOk] at c0 c1;have mU : U ∈ T.kids := by rw [hks]; simp
  have gU : T.kids[0]? = some U := by rw [hks]; rfl
  have lU := hg.AqT (i := 0) (d' := d) mU (by omega)
  have mV : V ∈ T.kids := by rw [hks]; simp
  have gV : T.kids[1]? = some V := by rw [hks]; rfl
  have lV := hg.AqT (i := 1) (d' := d) mV (by omega)
  have rU : U.kind = 20 := c0;have rV := Ax4 c1;have he : prt T d = (((par T.kind T.text 0 U (prt U d) ++ [91]) ++ par T.kind T.text 1 V (prt V d)) ++ [93]) := by rw [Aq9, hks]; simp [prts, nodeT, at2, hk]
  rw [he];exact r51_4 (by omega) (by omega) hk (kidR hg gU (ih U mU (by unfold textK; omega))) (by simp only [List.length_append, List.length_cons, List.length_nil, Aq4]; omega) (kidR hg gV (ih V mV (by unfold textK; omega))) (by simp only [List.length_append, List.length_cons, List.length_nil, Aq4]; omega) (by simp only [List.length_append, List.length_cons, List.length_nil, Aq4]; omega)
theorem tx22 {T : Tr} {d : Nat} (hk : T.kind = 22) (hg : Good T d) (ih : IHT T d) : E 101 [T.pv] [] (.str (prt T d)) [] := by
  have ht := hg.text T (AqB T);have hsz := hg.size;obtain ⟨U, hks, c0⟩ := inv1 hg.loc hk rfl rfl;simp [kidOk] at c0;have mU : U ∈ T.kids := by rw [hks]; simp
  have gU : T.kids[0]? = some U := by rw [hks]; rfl
  have lU := hg.AqT (i := 0) (d' := d) mU (by omega)
  have he : prt T d = ((par T.kind T.text 0 U (prt U d) ++ [46]) ++ T.text) := by rw [Aq9, hks]; simp [prts, nodeT, at2, hk]
  rw [he];exact r51_5 (by omega) (by omega) (by omega) hk (kidR hg gU (ih U mU (by unfold textK; omega))) (by simp only [List.length_append, List.length_cons, List.length_nil, Aq4]; omega) (by simp only [List.length_append, List.length_cons, List.length_nil, Aq4]; omega)
theorem tx23 {T : Tr} {d : Nat} (hk : T.kind = 23) (hg : Good T d) (ih : IHT T d) : E 101 [T.pv] [] (.str (prt T d)) [] := by
  have ht := hg.text T (AqB T);have hsz := hg.size;obtain ⟨U, hks, c0⟩ := inv1 hg.loc hk rfl rfl;simp [kidOk] at c0;have mU : U ∈ T.kids := by rw [hks]; simp
  have gU : T.kids[0]? = some U := by rw [hks]; rfl
  have lU := hg.AqT (i := 0) (d' := d) mU (by omega)
  have he : prt T d = (([108, 101, 110, 40] ++ par T.kind T.text 0 U (prt U d)) ++ [41]) := by rw [Aq9, hks]; simp [prts, nodeT, at2, hk]
  rw [he];exact r51_6 (by omega) (by omega) (by omega) (by omega) hk (kidR hg gU (ih U mU (by unfold textK; omega))) (by simp only [List.length_append, List.length_cons, List.length_nil, Aq4]; omega) (by simp only [List.length_append, List.length_cons, List.length_nil, Aq4]; omega)
theorem tx26 {T : Tr} {d : Nat} (hk : T.kind = 26) (hg : Good T d) (ih : IHT T d) : E 101 [T.pv] [] (.str (prt T d)) [] := by
  have ht := hg.text T (AqB T);have hsz := hg.size
  have hne : ∀ U ∈ T.kids, textK U.kind := fun U hU => by
    obtain ⟨j, c⟩ := invL hg.loc hk U hU;simp [kidOk] at c;unfold textK;have := Ax4 c; omega
  have hcl := AjG hg;have he : prt T d = (([91] ++ AqM (prts T.kids T.kind T.text 0 d)) ++ [93]) := by rw [Aq9]; simp [prts, nodeT, at2, hk]
  rw [he];exact r51_7 (by omega) (by omega) (by omega) (by omega) (by omega) hk (listR hg ih hne) (by simp only [List.length_append, List.length_cons, List.length_nil, Aq4]; omega) (by simp only [List.length_append, List.length_cons, List.length_nil, Aq4]; omega)
theorem tx27 {T : Tr} {d : Nat} (hk : T.kind = 27) (hg : Good T d) (ih : IHT T d) : E 101 [T.pv] [] (.str (prt T d)) [] := by
  have ht := hg.text T (AqB T);have hsz := hg.size
  have hne : ∀ U ∈ T.kids, textK U.kind := fun U hU => by
    obtain ⟨j, c⟩ := invL hg.loc hk U hU;simp [kidOk] at c;unfold textK;have := Ax4 c; omega
  have hcl := AjG hg;have he : prt T d = (((T.text ++ [40]) ++ AqM (prts T.kids T.kind T.text 0 d)) ++ [41]) := by rw [Aq9]; simp [prts, nodeT, at2, hk]
  rw [he];exact r51_8 (by omega) (by omega) (by omega) (by omega) (by omega) (by omega) hk (by simp only [List.length_append, List.length_cons, List.length_nil, Aq4]; omega) (listR hg ih hne) (by simp only [List.length_append, List.length_cons, List.length_nil, Aq4]; omega) (by simp only [List.length_append, List.length_cons, List.length_nil, Aq4]; omega)
theorem tx10 {T : Tr} {d : Nat} (hk : T.kind = 10) (hg : Good T d) (ih : IHT T d) : E 101 [T.pv] [] (.str (prt T d)) [] := by
  have ht := hg.text T (AqB T);have hsz := hg.size;have he : prt T d = (([105, 110, 116, 91] ++ T.text) ++ [93]) := by rw [Aq9]; simp [prts, nodeT, at2, hk]
  rw [he];exact r51_9 (by omega) (by omega) (by omega) (by omega) (by omega) (by omega) (by omega) hk (by simp only [List.length_append, List.length_cons, List.length_nil, Aq4]; omega) (by simp only [List.length_append, List.length_cons, List.length_nil, Aq4]; omega)
theorem tx4 {T : Tr} {d : Nat} (hk : T.kind = 4) (hg : Good T d) (ih : IHT T d) : E 101 [T.pv] [] (.str (prt T d)) [] := by
  have ht := hg.text T (AqB T);have hsz := hg.size;obtain ⟨U, hks, c0⟩ := inv1 hg.loc hk rfl rfl;simp [kidOk] at c0;have mU : U ∈ T.kids := by rw [hks]; simp
  have gU : T.kids[0]? = some U := by rw [hks]; rfl
  have lU := hg.AqT (i := 0) (d' := d) mU (by omega)
  have tU := Az8 (U.kind, prt U d);dsimp only at tU;have he : prt T d = (T.text ++ AxK (U.kind, prt U d)) := by rw [Aq9, hks]; simp [prts, nodeT, at2, hk, Ax7 (show U.kind < 20 by omega)]
  rw [he];exact r51_10 (by omega) (by omega) (by omega) (by omega) (by omega) (by omega) (by omega) (by omega) hk hg.wf gU (typedR hg ih mU (by omega)) (by simp only [List.length_append, List.length_cons, List.length_nil, Aq4]; omega)
theorem tx7 {T : Tr} {d : Nat} (hk : T.kind = 7) (hg : Good T d) (ih : IHT T d) : E 101 [T.pv] [] (.str (prt T d)) [] := by
  have ht := hg.text T (AqB T);have hsz := hg.size;obtain ⟨U, hks, c0⟩ := inv1 hg.loc hk rfl rfl;simp [kidOk] at c0;have mU : U ∈ T.kids := by rw [hks]; simp
  have gU : T.kids[0]? = some U := by rw [hks]; rfl
  have lU := hg.AqT (i := 0) (d' := d) mU (by omega)
  have rU := AjI (by simpa using c0)
  have tU := Az8 (U.kind, prt U d);dsimp only at tU;have he : prt T d = (T.text ++ AxK (U.kind, prt U d)) := by rw [Aq9, hks]; simp [prts, nodeT, at2, hk, Ax7 (show U.kind < 20 by omega)]
  rw [he];exact r51_11 (by omega) (by omega) (by omega) (by omega) (by omega) (by omega) (by omega) (by omega) (by omega) hk hg.wf gU (typedR hg ih mU (by omega)) (by simp only [List.length_append, List.length_cons, List.length_nil, Aq4]; omega)
theorem tx8 {T : Tr} {d : Nat} (hk : T.kind = 8) (hg : Good T d) (ih : IHT T d) : E 101 [T.pv] [] (.str (prt T d)) [] := by
  have ht := hg.text T (AqB T);have hsz := hg.size;obtain ⟨U, hks, c0⟩ := inv1 hg.loc hk rfl rfl;simp [kidOk] at c0;have mU : U ∈ T.kids := by rw [hks]; simp
  have gU : T.kids[0]? = some U := by rw [hks]; rfl
  have lU := hg.AqT (i := 0) (d' := d) mU (by omega)
  have rU := AjI (by simpa using c0)
  have tU := Az8 (U.kind, prt U d);dsimp only at tU;have he : prt T d = (([118, 97, 114, 32] ++ T.text) ++ AxK (U.kind, prt U d)) := by rw [Aq9, hks]; simp [prts, nodeT, at2, hk, Ax7 (show U.kind < 20 by omega)]
  rw [he];exact r51_12 (by omega) (by omega) (by omega) (by omega) (by omega) (by omega) (by omega) (by omega) (by omega) (by omega) hk (by simp only [List.length_append, List.length_cons, List.length_nil, Aq4]; omega) hg.wf gU (typedR hg ih mU (by omega)) (by simp only [List.length_append, List.length_cons, List.length_nil, Aq4]; omega)
theorem tx9 {T : Tr} {d : Nat} (hk : T.kind = 9) (hg : Good T d) (ih : IHT T d) : E 101 [T.pv] [] (.str (prt T d)) [] := by
  have ht := hg.text T (AqB T);have hsz := hg.size;have he : prt T d = T.text := by rw [Aq9]; simp [prts, nodeT, at2, hk]
  rw [he];exact r51_13 (by omega) (by omega) (by omega) (by omega) (by omega) (by omega) (by omega) (by omega) (by omega) (by omega) (by omega)
theorem tx20 {T : Tr} {d : Nat} (hk : T.kind = 20) (hg : Good T d) (ih : IHT T d) : E 101 [T.pv] [] (.str (prt T d)) [] := by
  have ht := hg.text T (AqB T);have hsz := hg.size;have he : prt T d = T.text := by rw [Aq9]; simp [prts, nodeT, at2, hk]
  rw [he];exact r51_13 (by omega) (by omega) (by omega) (by omega) (by omega) (by omega) (by omega) (by omega) (by omega) (by omega) (by omega)
theorem tx24 {T : Tr} {d : Nat} (hk : T.kind = 24) (hg : Good T d) (ih : IHT T d) : E 101 [T.pv] [] (.str (prt T d)) [] := by
  have ht := hg.text T (AqB T);have hsz := hg.size;have he : prt T d = T.text := by rw [Aq9]; simp [prts, nodeT, at2, hk]
  rw [he];exact r51_13 (by omega) (by omega) (by omega) (by omega) (by omega) (by omega) (by omega) (by omega) (by omega) (by omega) (by omega)
theorem tx25 {T : Tr} {d : Nat} (hk : T.kind = 25) (hg : Good T d) (ih : IHT T d) : E 101 [T.pv] [] (.str (prt T d)) [] := by
  have ht := hg.text T (AqB T);have hsz := hg.size;have he : prt T d = T.text := by rw [Aq9]; simp [prts, nodeT, at2, hk]
  rw [he];exact r51_13 (by omega) (by omega) (by omega) (by omega) (by omega) (by omega) (by omega) (by omega) (by omega) (by omega) (by omega)
theorem e51 : ∀ (n : Nat) (T : Tr) (d : Nat), T.pre.length ≤ n → Good T d → textK T.kind → E 101 [T.pv] [] (.str (prt T d)) []
  | 0, T, d, h, _, _ => by obtain ⟨k, t, a, e, n, ks⟩ := T; simp [Tr.pre] at h
  | n + 1, T, d, h, hg, hk => by
    have ih : IHT T d := fun U hU hk' => e51 n U d (by have := AzX T U hU; omega) (hg.kid hU d (by omega)) hk'
    have h30 : T.kind = 4 ∨ T.kind = 7 ∨ T.kind = 8 ∨ T.kind = 9 ∨ T.kind = 10 ∨ T.kind = 20 ∨ T.kind = 21 ∨ T.kind = 22 ∨ T.kind = 23 ∨ T.kind = 24 ∨ T.kind = 25 ∨ T.kind = 26 ∨ T.kind = 27 ∨ T.kind = 28 ∨ T.kind = 29 := by unfold textK at hk; omega
    rcases h30 with hk | hk | hk | hk | hk | hk | hk | hk | hk | hk | hk | hk | hk | hk | hk
    · exact tx4 hk hg ih
    · exact tx7 hk hg ih
    · exact tx8 hk hg ih
    · exact tx9 hk hg ih
    · exact tx10 hk hg ih
    · exact tx20 hk hg ih
    · exact tx21 hk hg ih
    · exact tx22 hk hg ih
    · exact tx23 hk hg ih
    · exact tx24 hk hg ih
    · exact tx25 hk hg ih
    · exact tx26 hk hg ih
    · exact tx27 hk hg ih
    · exact tx28 hk hg ih
    · exact tx29 hk hg ih
theorem iht {T : Tr} {d : Nat} (hg : Good T d) : IHT T d := fun U hU hk => e51 _ U d (Nat.le_refl _) (hg.kid hU d (by omega)) hk
def IHB (T : Tr) (d : Nat) : Prop := ∀ U ∈ T.kids, ∀ d', d' ≤ d + 1 → (U.kind = 11 → E 60 [U.pv, .int .i64 ((d' : Nat) : Int)] [] (.str (prt U d')) []) ∧ (12 ≤ U.kind → U.kind ≤ 19 → E 24 [U.pv, .int .i64 ((d' : Nat) : Int)] [] (.str (prt U d')) [])
theorem block_loopR {T : Tr} {d : Nat} (hg : Good T d) (ih : IHB T d) (hne : ∀ U ∈ T.kids, 12 ≤ U.kind ∧ U.kind ≤ 19) : ∀ (r j : Nat), j + r = T.kids.length →
    Az7 pur run m57_0 l57_0 [(1, some (.int .i64 ((d : Nat) : Int))), (2, some (.vptr T.pv)), (5, some (.str ([123, 10] ++ AxX (d + 1) ((prts T.kids T.kind T.text 0 (d + 1)).take j)))), (6, some (.int .i64 ((j : Nat) : Int)))] [] (.exit 0) [(1, some (.int .i64 ((d : Nat) : Int))), (5, some (.str ([123, 10] ++ AxX (d + 1) (prts T.kids T.kind T.text 0 (d + 1)))))] [] := by
  have hkl := Ak0 T;have hsz := hg.size;intro r
  induction r with
  | zero =>
    intro j hj;rw [List.take_of_length_le (by rw [AjA]; omega)]
    exact r57_l0_out1 hg.wf (by omega)
  | succ r ihr =>
    intro j hj;obtain ⟨U, hU, _⟩ := drop_at (l := T.kids) (j := j) (by omega)
    obtain ⟨n12, n19⟩ := hne U (AxZ hU);have h1 := ihr (j + 1) (by omega)
    rw [lineJ (d + 1) hU (by omega)] at h1
    have e1 : [123, 10] ++ (AxX (d + 1) ((prts T.kids T.kind T.text 0 (d + 1)).take j) ++ List.flatten [ind (d + 1), prt U (d + 1), [10]]) = ((([123, 10] ++ AxX (d + 1) ((prts T.kids T.kind T.text 0 (d + 1)).take j)) ++ ind (d + 1)) ++ prt U (d + 1)) ++ [10] := by simp
    rw [e1] at h1;have hll := lines_le hg j;have hul := (hg.kid (AxZ hU) (d + 1) (by omega)).len
    have hil := ind_len (d + 1);exact r57_l0_next1 hg.wf (by omega) (wrap1 d (by omega)) (e80 (d + 1) (by omega)) (by simp only [List.length_append, List.length_cons, List.length_nil, Aq4]; omega) hU (wrap1 d (by omega)) ((ih U (AxZ hU) (d + 1) (by omega)).2 n12 n19) (by simp only [List.length_append, List.length_cons, List.length_nil, Aq4]; omega) (by simp only [List.length_append, List.length_cons, List.length_nil, Aq4]; omega) (by omega) h1
theorem blockR {T : Tr} {d : Nat} (hk : T.kind = 11) (hg : Good T d) (ih : IHB T d) : E 60 [T.pv, .int .i64 ((d : Nat) : Int)] [] (.str (prt T d)) [] := by
  have hne : ∀ U ∈ T.kids, 12 ≤ U.kind ∧ U.kind ≤ 19 := fun U hU => by
    obtain ⟨j, c⟩ := invL hg.loc hk U hU;simp [kidOk] at c;exact stm_rng c
  have hsz := hg.size;have hl := block_loopR hg ih hne T.kids.length 0 (by omega)
  rw [List.take_zero] at hl;have hll := lines_le hg T.kids.length;rw [List.take_of_length_le (by rw [AjA]; omega)] at hll
  have hil := ind_len d;have he : prt T d = (([123, 10] ++ AxX (d + 1) (prts T.kids T.kind T.text 0 (d + 1))) ++ ind d) ++ [125] := by rw [Aq9]; simp [nodeT, hk]
  rw [he];exact r57 hl (e80 d (by omega)) (by simp only [List.length_append, List.length_cons, List.length_nil, Aq4]; omega) (by simp only [List.length_append, List.length_cons, List.length_nil, Aq4]; omega)
theorem st12 {T : Tr} {d : Nat} (hk : T.kind = 12) (hg : Good T d) (ih : IHT T d) (ihb : IHB T d) : E 24 [T.pv, .int .i64 ((d : Nat) : Int)] [] (.str (prt T d)) [] := by
  have ht := hg.text T (AqB T);have hsz := hg.size;obtain ⟨U, V, hks, c0, c1⟩ := inv2 hg.loc hk rfl rfl;simp [kidOk] at c0 c1;have mU : U ∈ T.kids := by rw [hks]; simp
  have gU : T.kids[0]? = some U := by rw [hks]; rfl
  have lU := hg.AqT (i := 0) (d' := d) mU (by omega)
  have mV : V ∈ T.kids := by rw [hks]; simp
  have gV : T.kids[1]? = some V := by rw [hks]; rfl
  have lV := hg.AqT (i := 1) (d' := d) mV (by omega)
  have rU := AjI (by simpa using c0)
  have rV := Ax4 c1;have tU := Az8 (U.kind, prt U d);dsimp only at tU;have he : prt T d = ((((([118, 97, 114, 32] ++ T.text) ++ AxK (U.kind, prt U d)) ++ [32, 61, 32]) ++ par T.kind T.text 1 V (prt V d)) ++ [59]) := by rw [Aq9, hks]; simp [prts, nodeT, at2, hk, Ax7 (show U.kind < 20 by omega)]
  rw [he];exact r54_1 hk (by simp only [List.length_append, List.length_cons, List.length_nil, Aq4]; omega) hg.wf gU (typedR hg ih mU (by omega)) (by simp only [List.length_append, List.length_cons, List.length_nil, Aq4]; omega) (by simp only [List.length_append, List.length_cons, List.length_nil, Aq4]; omega) (kidR hg gV (ih V mV (by unfold textK; omega))) (by simp only [List.length_append, List.length_cons, List.length_nil, Aq4]; omega) (by simp only [List.length_append, List.length_cons, List.length_nil, Aq4]; omega)
theorem st13 {T : Tr} {d : Nat} (hk : T.kind = 13) (hg : Good T d) (ih : IHT T d) (ihb : IHB T d) : E 24 [T.pv, .int .i64 ((d : Nat) : Int)] [] (.str (prt T d)) [] := by
  have ht := hg.text T (AqB T);have hsz := hg.size;obtain ⟨U, V, hks, c0, c1⟩ := inv2 hg.loc hk rfl rfl;simp [kidOk] at c0 c1;have mU : U ∈ T.kids := by rw [hks]; simp
  have gU : T.kids[0]? = some U := by rw [hks]; rfl
  have lU := hg.AqT (i := 0) (d' := d) mU (by omega)
  have mV : V ∈ T.kids := by rw [hks]; simp
  have gV : T.kids[1]? = some V := by rw [hks]; rfl
  have lV := hg.AqT (i := 1) (d' := d) mV (by omega)
  have rU : 20 ≤ U.kind ∧ U.kind ≤ 22 := by simp [AzC] at c0; omega
  have rV := Ax4 c1;have he : prt T d = (((par T.kind T.text 0 U (prt U d) ++ [32, 61, 32]) ++ par T.kind T.text 1 V (prt V d)) ++ [59]) := by rw [Aq9, hks]; simp [prts, nodeT, at2, hk]
  rw [he];exact r54_2 (by omega) hk (kidR hg gU (ih U mU (by unfold textK; omega))) (by simp only [List.length_append, List.length_cons, List.length_nil, Aq4]; omega) (kidR hg gV (ih V mV (by unfold textK; omega))) (by simp only [List.length_append, List.length_cons, List.length_nil, Aq4]; omega) (by simp only [List.length_append, List.length_cons, List.length_nil, Aq4]; omega)
theorem st18 {T : Tr} {d : Nat} (hk : T.kind = 18) (hg : Good T d) (ih : IHT T d) (ihb : IHB T d) : E 24 [T.pv, .int .i64 ((d : Nat) : Int)] [] (.str (prt T d)) [] := by
  have ht := hg.text T (AqB T);have hsz := hg.size;obtain ⟨U, hks, c0⟩ := inv1 hg.loc hk rfl rfl;simp [kidOk] at c0;have mU : U ∈ T.kids := by rw [hks]; simp
  have gU : T.kids[0]? = some U := by rw [hks]; rfl
  have lU := hg.AqT (i := 0) (d' := d) mU (by omega)
  have rU := Ax4 c0;have he : prt T d = (([97, 115, 115, 101, 114, 116, 32] ++ par T.kind T.text 0 U (prt U d)) ++ [59]) := by rw [Aq9, hks]; simp [prts, nodeT, at2, hk]
  rw [he];exact r54_3 (by omega) (by omega) hk (kidR hg gU (ih U mU (by unfold textK; omega))) (by simp only [List.length_append, List.length_cons, List.length_nil, Aq4]; omega) (by simp only [List.length_append, List.length_cons, List.length_nil, Aq4]; omega)
theorem st17 {T : Tr} {d : Nat} (hk : T.kind = 17) (hg : Good T d) (ih : IHT T d) (ihb : IHB T d) : E 24 [T.pv, .int .i64 ((d : Nat) : Int)] [] (.str (prt T d)) [] := by
  have ht := hg.text T (AqB T);have hsz := hg.size;obtain ⟨U, hks, c0⟩ := inv1 hg.loc hk rfl rfl;simp [kidOk] at c0;have mU : U ∈ T.kids := by rw [hks]; simp
  have gU : T.kids[0]? = some U := by rw [hks]; rfl
  have lU := hg.AqT (i := 0) (d' := d) mU (by omega)
  by_cases h0 : U.kind = 0
  · have he : prt T d = [114, 101, 116, 117, 114, 110, 59] := by rw [Aq9, hks]; simp [prts, nodeT, at2, hk, h0]
    rw [he]; exact r54_4 (by omega) (by omega) (by omega) hk hg.wf gU h0
  · have rU : 20 ≤ U.kind ∧ U.kind ≤ 29 := by simp [Ax0] at c0; omega
    have he : prt T d = (([114, 101, 116, 117, 114, 110, 32] ++ par T.kind T.text 0 U (prt U d)) ++ [59]) := by rw [Aq9, hks]; simp [prts, nodeT, at2, hk, h0]
    rw [he]; exact r54_5 (by omega) (by omega) (by omega) hk hg.wf gU h0 (kidR hg gU (ih U mU (by unfold textK; omega))) (by simp only [List.length_append, List.length_cons, List.length_nil, Aq4]; omega) (by simp only [List.length_append, List.length_cons, List.length_nil, Aq4]; omega)
theorem st19 {T : Tr} {d : Nat} (hk : T.kind = 19) (hg : Good T d) (ih : IHT T d) (ihb : IHB T d) : E 24 [T.pv, .int .i64 ((d : Nat) : Int)] [] (.str (prt T d)) [] := by
  have ht := hg.text T (AqB T);have hsz := hg.size
  have hne : ∀ U ∈ T.kids, textK U.kind := fun U hU => by
    obtain ⟨j, c⟩ := invL hg.loc hk U hU;simp [kidOk] at c;unfold textK;have := Ax4 c; omega
  have hcl := AjG hg;have he : prt T d = (((T.text ++ [40]) ++ AqM (prts T.kids T.kind T.text 0 d)) ++ [41, 59]) := by rw [Aq9]; simp [prts, nodeT, at2, hk]
  rw [he];exact r54_6 (by omega) (by omega) (by omega) (by omega) hk (by simp only [List.length_append, List.length_cons, List.length_nil, Aq4]; omega) (listR hg ih hne) (by simp only [List.length_append, List.length_cons, List.length_nil, Aq4]; omega) (by simp only [List.length_append, List.length_cons, List.length_nil, Aq4]; omega)
theorem st15 {T : Tr} {d : Nat} (hk : T.kind = 15) (hg : Good T d) (ih : IHT T d) (ihb : IHB T d) : E 24 [T.pv, .int .i64 ((d : Nat) : Int)] [] (.str (prt T d)) [] := by
  have ht := hg.text T (AqB T);have hsz := hg.size;obtain ⟨U, V, hks, c0, c1⟩ := inv2 hg.loc hk rfl rfl;simp [kidOk] at c0 c1;have mU : U ∈ T.kids := by rw [hks]; simp
  have gU : T.kids[0]? = some U := by rw [hks]; rfl
  have lU := hg.AqT (i := 0) (d' := d) mU (by omega)
  have mV : V ∈ T.kids := by rw [hks]; simp
  have gV : T.kids[1]? = some V := by rw [hks]; rfl
  have lV := hg.AqT (i := 1) (d' := d) mV (by omega)
  have rU := Ax4 c0;have he : prt T d = ((([119, 104, 105, 108, 101, 32] ++ par T.kind T.text 0 U (prt U d)) ++ [32]) ++ prt V d) := by rw [Aq9, hks]; simp [prts, nodeT, at2, hk, Ax7 (show V.kind < 20 by omega)]
  rw [he];exact r54_7 (by omega) (by omega) (by omega) (by omega) (by omega) hk (kidR hg gU (ih U mU (by unfold textK; omega))) (by simp only [List.length_append, List.length_cons, List.length_nil, Aq4]; omega) (by simp only [List.length_append, List.length_cons, List.length_nil, Aq4]; omega) hg.wf gV ((ihb V mV d (by omega)).1 (by omega)) (by simp only [List.length_append, List.length_cons, List.length_nil, Aq4]; omega)
theorem st16 {T : Tr} {d : Nat} (hk : T.kind = 16) (hg : Good T d) (ih : IHT T d) (ihb : IHB T d) : E 24 [T.pv, .int .i64 ((d : Nat) : Int)] [] (.str (prt T d)) [] := by
  have ht := hg.text T (AqB T);have hsz := hg.size;obtain ⟨U, V, X, hks, c0, c1, c2⟩ := inv3 hg.loc hk rfl rfl;simp [kidOk] at c0 c1 c2;have mU : U ∈ T.kids := by rw [hks]; simp
  have gU : T.kids[0]? = some U := by rw [hks]; rfl
  have lU := hg.AqT (i := 0) (d' := d) mU (by omega)
  have mV : V ∈ T.kids := by rw [hks]; simp
  have gV : T.kids[1]? = some V := by rw [hks]; rfl
  have lV := hg.AqT (i := 1) (d' := d) mV (by omega)
  have mX : X ∈ T.kids := by rw [hks]; simp
  have gX : T.kids[2]? = some X := by rw [hks]; rfl
  have lX := hg.AqT (i := 2) (d' := d) mX (by omega)
  have rU := Ax4 c0;have rV := Ax4 c1;have he : prt T d = ((((((([102, 111, 114, 32] ++ T.text) ++ [32, 61, 32]) ++ par T.kind T.text 0 U (prt U d)) ++ [32, 116, 111, 32]) ++ par T.kind T.text 1 V (prt V d)) ++ [32]) ++ prt X d) := by rw [Aq9, hks]; simp [prts, nodeT, at2, hk, Ax7 (show X.kind < 20 by omega)]
  rw [he];exact r54_8 (by omega) (by omega) (by omega) (by omega) (by omega) (by omega) hk (by simp only [List.length_append, List.length_cons, List.length_nil, Aq4]; omega) (by simp only [List.length_append, List.length_cons, List.length_nil, Aq4]; omega) (kidR hg gU (ih U mU (by unfold textK; omega))) (by simp only [List.length_append, List.length_cons, List.length_nil, Aq4]; omega) (by simp only [List.length_append, List.length_cons, List.length_nil, Aq4]; omega) (kidR hg gV (ih V mV (by unfold textK; omega))) (by simp only [List.length_append, List.length_cons, List.length_nil, Aq4]; omega) (by simp only [List.length_append, List.length_cons, List.length_nil, Aq4]; omega) hg.wf gX ((ihb X mX d (by omega)).1 (by omega)) (by simp only [List.length_append, List.length_cons, List.length_nil, Aq4]; omega)
theorem st14 {T : Tr} {d : Nat} (hk : T.kind = 14) (hg : Good T d) (ih : IHT T d) (ihb : IHB T d) : E 24 [T.pv, .int .i64 ((d : Nat) : Int)] [] (.str (prt T d)) [] := by
  have ht := hg.text T (AqB T);have hsz := hg.size;obtain ⟨U, V, X, hks, c0, c1, c2⟩ := inv3 hg.loc hk rfl rfl;simp [kidOk] at c0 c1 c2;have mU : U ∈ T.kids := by rw [hks]; simp
  have gU : T.kids[0]? = some U := by rw [hks]; rfl
  have lU := hg.AqT (i := 0) (d' := d) mU (by omega)
  have mV : V ∈ T.kids := by rw [hks]; simp
  have gV : T.kids[1]? = some V := by rw [hks]; rfl
  have lV := hg.AqT (i := 1) (d' := d) mV (by omega)
  have mX : X ∈ T.kids := by rw [hks]; simp
  have gX : T.kids[2]? = some X := by rw [hks]; rfl
  have lX := hg.AqT (i := 2) (d' := d) mX (by omega)
  have rU := Ax4 c0;have rX : X.kind = 11 ∨ X.kind = 14 ∨ X.kind = 0 := by omega
  by_cases h14 : X.kind = 14
  · have he : prt T d = ((((([105, 102, 32] ++ par T.kind T.text 0 U (prt U d)) ++ [32]) ++ prt V d) ++ [32, 101, 108, 115, 101, 32]) ++ prt X d) := by rw [Aq9, hks]; simp [prts, nodeT, at2, hk, h14, Ax7 (show V.kind < 20 by omega), Ax7 (show X.kind < 20 by omega)]
    rw [he]; exact r54_9 (by omega) (by omega) (by omega) (by omega) (by omega) (by omega) (by omega) (kidR hg gU (ih U mU (by unfold textK; omega))) (by simp only [List.length_append, List.length_cons, List.length_nil, Aq4]; omega) (by simp only [List.length_append, List.length_cons, List.length_nil, Aq4]; omega) hg.wf gV ((ihb V mV d (by omega)).1 (by omega)) (by simp only [List.length_append, List.length_cons, List.length_nil, Aq4]; omega) gX h14 (by simp only [List.length_append, List.length_cons, List.length_nil, Aq4]; omega) gX ((ihb X mX d (by omega)).2 (by omega) (by omega)) (by simp only [List.length_append, List.length_cons, List.length_nil, Aq4]; omega)
  · by_cases h11 : X.kind = 11
    · have he : prt T d = ((((([105, 102, 32] ++ par T.kind T.text 0 U (prt U d)) ++ [32]) ++ prt V d) ++ [32, 101, 108, 115, 101, 32]) ++ prt X d) := by rw [Aq9, hks]; simp [prts, nodeT, at2, hk, h11, Ax7 (show V.kind < 20 by omega), Ax7 (show X.kind < 20 by omega)]
      rw [he]; exact r54_10 (by omega) (by omega) (by omega) (by omega) (by omega) (by omega) (by omega) (kidR hg gU (ih U mU (by unfold textK; omega))) (by simp only [List.length_append, List.length_cons, List.length_nil, Aq4]; omega) (by simp only [List.length_append, List.length_cons, List.length_nil, Aq4]; omega) hg.wf gV ((ihb V mV d (by omega)).1 (by omega)) (by simp only [List.length_append, List.length_cons, List.length_nil, Aq4]; omega) gX h14 h11 (by simp only [List.length_append, List.length_cons, List.length_nil, Aq4]; omega) gX ((ihb X mX d (by omega)).1 (by omega)) (by simp only [List.length_append, List.length_cons, List.length_nil, Aq4]; omega)
    · have h0 : X.kind = 0 := by omega
      have he : prt T d = ((([105, 102, 32] ++ par T.kind T.text 0 U (prt U d)) ++ [32]) ++ prt V d) := by rw [Aq9, hks]; simp [prts, nodeT, at2, hk, h0, Ax7 (show V.kind < 20 by omega)]
      rw [he]; exact r54_11 (by omega) (by omega) (by omega) (by omega) (by omega) (by omega) (by omega) (kidR hg gU (ih U mU (by unfold textK; omega))) (by simp only [List.length_append, List.length_cons, List.length_nil, Aq4]; omega) (by simp only [List.length_append, List.length_cons, List.length_nil, Aq4]; omega) hg.wf gV ((ihb V mV d (by omega)).1 (by omega)) (by simp only [List.length_append, List.length_cons, List.length_nil, Aq4]; omega) gX h14 h11
theorem e5457 : ∀ (n : Nat) (T : Tr) (d : Nat), T.pre.length ≤ n → Good T d → (T.kind = 11 → E 60 [T.pv, .int .i64 ((d : Nat) : Int)] [] (.str (prt T d)) []) ∧ (12 ≤ T.kind → T.kind ≤ 19 → E 24 [T.pv, .int .i64 ((d : Nat) : Int)] [] (.str (prt T d)) [])
  | 0, T, d, h, _ => by obtain ⟨k, t, a, e, n, ks⟩ := T; simp [Tr.pre] at h
  | n + 1, T, d, h, hg => by
    have ih := iht hg;have ihb : IHB T d := fun U hU d' hd => e5457 n U d' (by have := AzX T U hU; omega) (hg.kid hU d' hd)
    refine ⟨fun hk => blockR hk hg ihb, fun h12 h19 => ?_⟩
    have h8 : T.kind = 12 ∨ T.kind = 13 ∨ T.kind = 14 ∨ T.kind = 15 ∨ T.kind = 16 ∨ T.kind = 17 ∨ T.kind = 18 ∨ T.kind = 19 := by omega
    rcases h8 with hk | hk | hk | hk | hk | hk | hk | hk
    · exact st12 hk hg ih ihb
    · exact st13 hk hg ih ihb
    · exact st14 hk hg ih ihb
    · exact st15 hk hg ih ihb
    · exact st16 hk hg ih ihb
    · exact st17 hk hg ih ihb
    · exact st18 hk hg ih ihb
    · exact st19 hk hg ih ihb
end Go.Abs.Z
