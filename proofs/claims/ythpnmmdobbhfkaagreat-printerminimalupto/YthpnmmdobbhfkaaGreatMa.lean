/- A part of the proof: M1 M2 M3 M4 M5 M10. -/
import Derived.Test.YthpnmmdobbhfkaaGreatLa
import Derived.Test.YthpnmmdobbhfkaaGreatWc
import Derived.Test.YthpnmmdobbhfkaaGreatWd
import Derived.Test.YthpnmmdobbhfkaaGreatZa

set_option linter.unusedVariables false
set_option linter.unusedSimpArgs false
namespace Go.Abs.Z
open Go.Proofs Go.RowKit
theorem e143 (c : UInt8) : E 143 [.int .u8 c.toNat] [] (.bool (blankB c)) [] := ev_at 1 fun m _ => run143 m c
theorem e112 (s : List UInt8) (i : Nat) (hi : i < s.length) (hs : s.length < 2305843009213693952) : E 112 [.str s, N i] [] (.tuple [.int .i64 (tokenB s i).1, .int .i64 (tokenB s i).2]) [] :=
  ⟨101 + s.length + 4, fun n hn => by
    obtain ⟨m, rfl⟩ : ∃ m, n = m + 4 := ⟨n - 4, by omega⟩
    exact run112 m (by omega) s i hi hs (by omega)⟩
theorem e72 (s : List UInt8) : E 72 [.str s] [] (.tuple [.int .i64 (if numOk s then numV s else 0), .bool (numOk s)]) [] := ev_at 2 fun m hm => run72 m hm s
theorem blank_not35 {c : UInt8} (h : blankB c = true) : ((c.toNat : Nat) : Int) ≠ 35 := by
  simp only [blankB, Bool.or_eq_true, beq_iff_eq] at h
  omega
theorem drop_cons_get {s r : List UInt8} {i : Nat} {c : UInt8} (h : s.drop i = c :: r) : s[i]? = some c ∧ s.drop (i + 1) = r ∧ i < s.length := by
  have hl : i < s.length := by
    rcases Nat.lt_or_ge i s.length with h' | h'
    · exact h'
    · rw [List.drop_of_length_le h'] at h; cases h
  rw [List.drop_eq_getElem_cons hl] at h
  cases h
  exact ⟨by simp [hl], rfl, hl⟩
theorem skip_loop (s : List UInt8) (hs : s.length ≤ 4096) (i0 : Nat) (r : List UInt8) (hr : r = [] ∨ startB r = true) : ∀ (b : List UInt8) (j : Nat), s.drop j = b ++ r → j ≤ s.length → b.all blankB = true →
    LE m111_0 l111_0 [(0, some (.str s)), (1, some (N j))] [] (.exit 0) [(1, some (N (j + b.length)))] []
  | c :: b, j, h, hj, hb => by
    simp only [List.all_cons, Bool.and_eq_true] at hb
    obtain ⟨h1, h2, h3⟩ := drop_cons_get h
    have := skip_loop s hs i0 r hr b (j + 1) h2 (by omega) hb.2
    have e := e143 c
    rw [hb.1] at e
    have e2 : j + (c :: b).length = j + 1 + b.length := by simp; omega
    rw [e2]
    exact r111_l0_next2 (by omega) h1 e h1 (blank_not35 hb.1) (by omega) this
  | [], j, h, hj, _ => by
    rcases hr with rfl | hr
    · have : s.length ≤ j := by simpa using h
      exact r111_l0_out1 (by omega)
    · cases r with
      | nil => cases hr
      | cons c r =>
        obtain ⟨h1, h2, h3⟩ := drop_cons_get h
        simp only [startB, Bool.and_eq_true, Bool.not_eq_true', bne_iff_ne, ne_eq] at hr
        have e := e143 c
        rw [hr.1] at e
        refine r111_l0_out2 (by omega) h1 e h1 ?_
        intro h35
        exact hr.2 (UInt8.toNat_inj.1 (by rw [show (35 : UInt8).toNat = 35 from rfl]; omega))
theorem skip_ev (s : List UInt8) (hs : s.length ≤ 4096) (b r : List UInt8) (i : Nat) (h : s.drop i = b ++ r) (hi : i ≤ s.length) (hb : b.all blankB = true) (hr : r = [] ∨ startB r = true) : E 111 [.str s, N i] [] (N (i + b.length)) [] :=
  r111 (skip_loop s hs i r hr b i h hi hb)
structure AtT (s : List UInt8) (t : Tk) (w : Wd) : Prop where
  k : t.k = w.1
  le : t.a ≤ t.e
  len : t.e ≤ s.length
  word : (s.drop t.a).take (t.e - t.a) = w.2
def Spelt (s : List UInt8) : List Wd → List Tk → Prop
  | [], [t] => AtT s t (5, [])
  | w :: ws, t :: ts => AtT s t w ∧ Spelt s ws ts
  | _, _ => False
theorem scan_loop (s : List UInt8) (hs : s.length ≤ 4096) : ∀ {r : List UInt8} {ws : List Wd}, Lx r ws → ∀ (i : Nat) (tl : List Tk), s.drop i = r → i ≤ s.length → tl.length + ws.length + 1 ≤ maxRow →
    ∃ ts, LE m63_0 l63_0 [(0, some (.str s)), (4, some (.slice true 4 (tl.map Tk.pv))), (5, some (N i))] [] .ret [(2, some (.slice true 4 ((tl ++ ts).map Tk.pv))), (3, some (I 0))] [] ∧ Spelt s ws ts := by
  intro r ws h
  induction h with
  | @nil b hb =>
    intro i tl hd hi hl
    have h1 := skip_ev s hs b [] i (by simpa using hd) hi hb (.inl rfl)
    have hlen : i + b.length = s.length := by
      have := congrArg List.length hd
      rw [List.length_drop] at this; omega
    refine ⟨[⟨5, i, i + b.length, i + b.length⟩], r63_l0_out1 h1 (by omega) (by simp at hl ⊢; omega), ⟨rfl, Nat.le_refl _, ?_, by simp⟩⟩
    show i + b.length ≤ s.length
    omega
  | @cons b x rest ws kd hb hx hst ho h ih =>
    intro i tl hd hi hl
    have hx0 : x ≠ [] := by rintro rfl; cases hst
    have hlen : i + (b.length + (x.length + rest.length)) = s.length := by
      have := congrArg List.length hd
      rw [List.length_drop] at this
      simp only [List.length_append] at this; omega
    have hxl : 0 < x.length := List.length_pos_iff.2 hx0
    have hst' : startB (x ++ rest) = true := by
      cases x with
      | nil => exact absurd rfl hx0
      | cons => exact hst
    have h1 := skip_ev s hs b (x ++ rest) i hd hi hb (.inr hst')
    have hd2 : s.drop (i + b.length) = x ++ rest := by
      rw [← List.drop_drop, hd]; simp
    have hd3 : s.drop (i + b.length + x.length) = rest := by
      rw [← List.drop_drop, hd2]; simp
    have ht := e112 s (i + b.length) (by omega) (by omega)
    have htok : tokenB s (i + b.length) = ((kd : Int), i + b.length + x.length) := by
      have := hx (s.take (i + b.length))
      rw [← hd2, List.take_append_drop] at this
      have e : (s.take (i + b.length)).length = i + b.length := by rw [List.length_take]; omega
      rw [e] at this; exact this
    rw [htok] at ht
    obtain ⟨ts, h2, h3⟩ := ih (i + b.length + x.length) (tl ++ [⟨kd, i, i + b.length, i + b.length + x.length⟩]) hd3 (by omega) (by simp at hl ⊢; omega)
    refine ⟨⟨kd, i, i + b.length, i + b.length + x.length⟩ :: ts, ?_, ⟨rfl, ?_, ?_, ?_⟩, h3⟩
    · have := r63_l0_next1 h1 (by omega) ht (by simp at hl ⊢; omega) h2
      rw [List.append_assoc] at this
      exact this
    · show i + b.length ≤ i + b.length + x.length; omega
    · show i + b.length + x.length ≤ s.length; omega
    · show (s.drop (i + b.length)).take (i + b.length + x.length - (i + b.length)) = x
      rw [hd2]
      have e : i + b.length + x.length - (i + b.length) = x.length := by omega
      rw [e]; simp
theorem lx_count : ∀ {r : List UInt8} {ws : List Wd}, Lx r ws → ws.length ≤ r.length
  | _, _, .nil _ => by simp
  | _, _, .cons _ _ hs _ h => by
    have := lx_count h
    rename_i b x rest ws kd _ _ _
    have : 0 < x.length := by
      cases x with
      | nil => cases hs
      | cons => simp
    simp only [List.length_append, List.length_cons]; omega
theorem lx_ok : ∀ {r : List UInt8} {ws : List Wd}, Lx r ws → ∀ w ∈ ws, wdOk w.1 w.2 = true
  | _, _, .nil _, w, h => by cases h
  | _, _, .cons _ _ _ ho h, w, hw => by
    rcases List.mem_cons.1 hw with rfl | hw
    · exact ho
    · exact lx_ok h w hw
theorem scan_ev (s : List UInt8) (hs : s.length ≤ 4096) {ws : List Wd} (h : Lx s ws) : ∃ ls, E 63 [.str s] [] (.tuple [.slice false 4 (ls.map Tk.pv), I 0]) [] ∧ Spelt s ws ls := by
  have hc := lx_count h
  obtain ⟨ts, h1, h2⟩ := scan_loop s hs h 0 [] rfl (by omega) (by simp [maxRow]; omega)
  exact ⟨ts, r63_2 (by omega) h1, h2⟩
theorem spelt_get {s : List UInt8} : ∀ {ws : List Wd} {ls : List Tk}, Spelt s ws ls → ls.length = ws.length + 1 ∧ (∀ (i : Nat) (w : Wd), ws[i]? = some w → ∃ t, ls[i]? = some t ∧ AtT s t w) ∧ ∃ t, ls[ws.length]? = some t ∧ AtT s t (5, [])
  | [], [t], h => ⟨rfl, fun i w hw => by simp at hw, t, rfl, h⟩
  | w :: ws, t :: ts, h => by
    obtain ⟨h1, h2, h3⟩ := spelt_get h.2
    refine ⟨by simp [h1], fun i v hv => ?_, by simpa using h3⟩
    cases i with
    | zero => cases hv; exact ⟨t, rfl, h.1⟩
    | succ i => simpa using h2 i v (by simpa using hv)
  | [], [], h => h.elim
  | [], _ :: _ :: _, h => h.elim
  | _ :: _, [], h => h.elim
theorem spelt_all {s : List UInt8} {ws : List Wd} {ls : List Tk} (h : Spelt s ws ls) (hw : ∀ w ∈ ws, wdOk w.1 w.2 = true) {j : Nat} {t : Tk} (ht : ls[j]? = some t) : ∃ w : Wd, AtT s t w ∧ (wdOk w.1 w.2 = true ∨ w = (5, [])) := by
  obtain ⟨h1, h2, u, h3, h4⟩ := spelt_get h
  have hj : j < ls.length := by
    rcases Nat.lt_or_ge j ls.length with h' | h'
    · exact h'
    · rw [List.getElem?_eq_none h'] at ht; cases ht
  rcases Nat.lt_or_ge j ws.length with hj' | hj'
  · obtain ⟨t', h5, h6⟩ := h2 j _ (List.getElem?_eq_getElem hj')
    rw [ht] at h5; cases h5
    exact ⟨_, h6, .inl (hw _ (List.getElem_mem hj'))⟩
  · have : j = ws.length := by omega
    subst this
    rw [ht] at h3; cases h3
    exact ⟨_, h4, .inr rfl⟩
theorem e73 {s : List UInt8} {t : Tk} {w : Wd} (h : AtT s t w) : E 73 [.str s, t.pv] [] (.str w.2) [] := by
  refine r73 ?_
  have := p_ssl s (t.a : Int) (t.e : Int) (by omega) (by have := h.le; omega) (by have := h.len; omega)
  rw [this]
  have e1 : (t.a : Int).toNat = t.a := by omega
  have e2 : (t.e : Int).toNat = t.e := by omega
  rw [e1, e2, h.word]
theorem start_loop (s : List UInt8) (ls : List Tk) (hk : ∀ t ∈ ls, t.k ≠ 4) (hl : ls.length ≤ 5000) : ∀ (r j : Nat), j + r = ls.length →
    LE m38_0 l38_0 [(3, some (.ref 0 0)), (4, some (.slice false 4 (ls.map Tk.pv))), (6, some (N j))] [[.str s, accP 4 ((ls.take j).map Tk.pv), I 0, I 0, .nils]] (.exit 0) [(3, some (.ref 0 0))] [[.str s, accP 4 (ls.map Tk.pv), I 0, I 0, .nils]] := by
  intro r
  induction r with
  | zero =>
    intro j hj
    rw [List.take_of_length_le (by omega)]
    exact r38_l0_out1 (by omega)
  | succ r ih =>
    intro j hj
    obtain ⟨t, ht, _⟩ := drop_at (l := ls) (j := j) (by omega)
    have h1 := ih (j + 1) (by omega)
    rw [List.take_add_one, ht, Option.toList_some, List.map_append] at h1
    have := hk t (List.mem_of_getElem? ht)
    exact r38_l0_next1 (by omega) ht (by omega) ht (by simp [maxRow]; omega) (by omega) h1
theorem start_ev (s : List UInt8) (hs : s.length ≤ 4096) {ws : List Wd} (h : Lx s ws) : ∃ ls, E 38 [.str s] [] (.ref 0 0) [pc s ls 0 0 []] ∧ E 63 [.str s] [] (.tuple [.slice false 4 (ls.map Tk.pv), I 0]) [] ∧ Spelt s ws ls := by
  obtain ⟨ls, h1, h2⟩ := scan_ev s hs h
  obtain ⟨h3, _⟩ := spelt_get h2
  have hc := lx_count h
  have hk : ∀ t ∈ ls, t.k ≠ 4 := by
    intro t ht
    obtain ⟨j, hj⟩ := List.getElem?_of_mem ht
    obtain ⟨w, hw, ho⟩ := spelt_all h2 (lx_ok h) hj
    rw [hw.k]
    rcases ho with ho | rfl
    · simp only [wdOk, Bool.and_eq_true, decide_eq_true_eq] at ho
      omega
    · decide
  have hl := start_loop s ls hk (by omega) ls.length 0 (by omega)
  have := r38 h1 hl
  cases ls with
  | nil => simp at h3
  | cons t ts => exact ⟨t :: ts, this, h1, h2⟩
theorem sub_wrap {a b : Nat} (h : b ≤ a) (h2 : a ≤ 5000) : IntKind.i64.wrap (((a : Nat) : Int) - ((b : Nat) : Int)) = ((a - b : Nat) : Int) := by
  simp [IntKind.wrap, IntKind.bits, IntKind.signed]; omega
theorem lexical_ev (s : List UInt8) (hs : s.length ≤ 4096) {ws : List Wd} (h : Lx s ws) : E 47 [.str s] [] (.slice false 5 []) [] := by
  obtain ⟨ls, h1, h2⟩ := scan_ev s hs h
  obtain ⟨h3, _⟩ := spelt_get h2
  have hc := lx_count h
  have hl : ∀ (r j : Nat), j + r = ls.length → LE m47_0 l47_0 [(0, some (.str s)), (3, some (.slice true 5 (([] : List Dg).map Dg.pv))), (4, some (.slice false 4 (ls.map Tk.pv))), (6, some (N j))] [] (.exit 0) [(0, some (.str s)), (3, some (.slice true 5 (([] : List Dg).map Dg.pv)))] [] := by
    intro r
    induction r with
    | zero => intro j hj; exact r47_l0_out1 (by omega)
    | succ r ih =>
      intro j hj
      obtain ⟨t, ht, _⟩ := drop_at (l := ls) (j := j) (by omega)
      obtain ⟨w, hw, ho⟩ := spelt_all h2 (lx_ok h) ht
      have hlt : ((j : Nat) : Int) < ((ls.length : Nat) : Int) := by omega
      have e1 := e73 hw
      have e2 := e72 w.2
      have hi := ih (j + 1) (by omega)
      have hk := hw.k
      have hsub := sub_wrap hw.le (by have := hw.len; omega)
      have hwl : w.2.length = t.e - t.a := by
        rw [← hw.word, List.length_take, List.length_drop]
        have := hw.len; omega
      have hk4 : ((t.k : Nat) : Int) ≠ 4 := by
        rcases ho with ho | rfl
        · simp only [wdOk, Bool.and_eq_true, decide_eq_true_eq] at ho
          omega
        · simp at hk; omega
      by_cases h2' : w.1 = 2
      · have hn : numOk w.2 = true := by
          rcases ho with ho | rfl
          · simpa [wdOk, h2'] using ho
          · cases h2'
        rw [hn] at e2
        exact r47_l0_next4 hlt ht e1 e2 ht hk4 ht (by omega) ht (by omega) (by omega) hi
      · by_cases h0 : w.1 = 0
        · have h16 : w.2.length ≤ 16 := by
            rcases ho with ho | rfl
            · simpa [wdOk, h0] using ho
            · cases h0
          exact r47_l0_next6 hlt ht e1 e2 ht hk4 ht (by omega) ht (by omega) ht ht hsub (by omega) (by omega) hi
        · exact r47_l0_next3 hlt ht e1 e2 ht hk4 ht (by omega) ht (by omega) (by omega) hi
  exact r47 (dl1 := []) h1 (hl ls.length 0 (by omega))
end Go.Abs.Z

set_option linter.unusedSimpArgs false
set_option linter.unusedVariables false
namespace Go.Abs.Z
open Go.Proofs Go.RowKit
mutual
def bare : Tr → Tr
  | .mk k t _ _ _ ks => .mk k t 0 0 false (bares ks)
def bares : List Tr → List Tr
  | [] => []
  | t :: ts => bare t :: bares ts
end
theorem bares_map : ∀ ks : List Tr, bares ks = ks.map bare
  | [] => rfl
  | t :: ts => by rw [bares, bares_map ts]; rfl
theorem bare_eq (T : Tr) : bare T = .mk T.kind T.text 0 0 false (T.kids.map bare) := by
  obtain ⟨k, t, a, e, n, ks⟩ := T
  rw [bare, bares_map]; rfl
theorem wf_mk {kd : Int} {tx : List UInt8} {us : List Tr} {a e : Int} (h : ∀ u ∈ us, u.wf) : (Tr.mk kd tx a e false us).wf := by
  have : ∀ us : List Tr, (∀ u ∈ us, u.wf) → Tr.wfs us := by
    intro us
    induction us with
    | nil => intro _; trivial
    | cons u us ih => intro h; exact ⟨h u (List.mem_cons_self ..), ih fun v hv => h v (List.mem_cons_of_mem _ hv)⟩
  exact ⟨by simp, this us h⟩
theorem wf_nil {kd : Int} {tx : List UInt8} {a e : Int} : (Tr.mk kd tx a e true []).wf := ⟨fun _ => rfl, trivial⟩
structure AtW (s : List UInt8) (ls : List Tk) (k : Nat) (w : Wd) : Prop where
  t : ∃ t, ls[k]? = some t ∧ AtT s t w
  nil : w.1 = 5 → w.2 = []
  lt : k < 5000
def Sp (s : List UInt8) (ls : List Tk) : Nat → List Wd → Prop
  | _, [] => True
  | k, w :: ws => AtW s ls k w ∧ Sp s ls (k + 1) ws
def en (ls : List Tk) : Nat → Nat
  | 0 => 0
  | k + 1 => match ls[k]? with | some t => t.e | none => 0
abbrev pd (s : List UInt8) (ls : List Tk) (k : Nat) (D : List PV) : Sto := [pc s ls k (en ls k) D]
abbrev ps (s : List UInt8) (ls : List Tk) (k : Nat) : Sto := pd s ls k []
theorem en_s {ls : List Tk} {k : Nat} {t : Tk} (h : ls[k]? = some t) : en ls (k + 1) = t.e := by simp [en, h]
section
variable {s : List UInt8} {ls : List Tk} {k j : Nat} {w v : Wd} {D : List PV}
theorem e39 (h : AtW s ls k w) : E 39 [.ref 0 0] (pd s ls k D) (N w.1) (pd s ls k D) := by
  obtain ⟨t, ht, ha⟩ := h.t
  have := r39 (s := s) (k := k) (p := en ls k) (D := D) ht
  rwa [ha.k] at this
theorem e64 (h : AtW s ls k w) : E 64 [.ref 0 0] (pd s ls k D) (.str w.2) (pd s ls k D) := by
  obtain ⟨t, ht, ha⟩ := h.t
  exact r64 ht (e73 ha)
theorem e40 (h : AtW s ls k w) {x : List UInt8} (hx : x ≠ []) : E 40 [.ref 0 0, .str x] (pd s ls k D) (.bool (w.2 == x)) (pd s ls k D) := by
  by_cases h5 : w.1 = 5
  · have := r40_2 (w := x) (e39 (D := D) h) (by omega)
    rw [h.nil h5]
    have e : (([] : List UInt8) == x) = false := by
      cases x with
      | nil => exact absurd rfl hx
      | cons => rfl
    rw [e]; exact this
  · exact r40_1 (e39 h) (by omega) (e64 h)
theorem e40t (h : AtW s ls k w) {x : List UInt8} (hx : x ≠ []) (he : w.2 = x) : E 40 [.ref 0 0, .str x] (pd s ls k D) (.bool true) (pd s ls k D) := by
  have := e40 (D := D) h hx
  rwa [he, beq_self_eq_true] at this
theorem e40f (h : AtW s ls k w) {x : List UInt8} (hx : x ≠ []) (he : w.2 ≠ x) : E 40 [.ref 0 0, .str x] (pd s ls k D) (.bool false) (pd s ls k D) := by
  have := e40 (D := D) h hx
  rwa [beq_eq_false_iff_ne.2 he] at this
theorem e44 (h : AtW s ls k w) : E 44 [.ref 0 0] (pd s ls k D) (.str w.2) (pd s ls (k + 1) D) := by
  obtain ⟨t, ht, ha⟩ := h.t
  have := r44 (e64 (k := k) (D := D) h) ht (by have := h.lt; omega)
  unfold pd
  rw [en_s ht]; exact this
theorem e68t (h : AtW s ls k w) {x : List UInt8} (hx : x ≠ []) (he : w.2 = x) : E 68 [.ref 0 0, .str x] (pd s ls k D) (.bool true) (pd s ls (k + 1) D) := r68_1 (e40t h hx he) (e44 h)
theorem e68f (h : AtW s ls k w) {x : List UInt8} (hx : x ≠ []) (he : w.2 ≠ x) : E 68 [.ref 0 0, .str x] (pd s ls k D) (.bool false) (pd s ls k D) := r68_2 (e40f h hx he)
theorem e66t (h : AtW s ls k w) {x : List UInt8} (hx : x ≠ []) (he : w.2 = x) : E 66 [.ref 0 0, .str x] (pd s ls k D) (.bool true) (pd s ls (k + 1) D) := r66_1 (e68t h hx he)
theorem e65 (h : AtW s ls k w) (h0 : w.1 = 0) : E 65 [.ref 0 0] (pd s ls k D) (.str w.2) (pd s ls (k + 1) D) := r65_1 (e39 h) (by omega) (e44 h)
theorem e119 (hk : k < 5000) (h : AtW s ls (k + 1) v) : E 119 [.ref 0 0] (pd s ls k D) (.str v.2) (pd s ls k D) := by
  obtain ⟨t, ht, ha⟩ := h.t
  have hl : k + 1 < ls.length := by
    rcases Nat.lt_or_ge (k + 1) ls.length with h' | h'
    · exact h'
    · rw [List.getElem?_eq_none h'] at ht; cases ht
  exact r119_2 (by omega) (by omega) (by omega) ht (e73 ha)
theorem has_nil (l : Nat) : hasOp l [] = false := by
  match l with
  | 0 | 1 | 2 | 3 | 4 | 5 | 6 => rfl
  | n + 7 => rfl
theorem e76 (h : AtW s ls k w) {l : Nat} (hl : l = 1 ∨ l = 2 ∨ l = 4 ∨ l = 5 ∨ l = 6) : E 76 [.ref 0 0, N l] (pd s ls k D) (.bool (hasOp l w.2)) (pd s ls k D) := by
  by_cases h5 : w.1 = 5
  · rw [h.nil h5, has_nil]
    rcases hl with rfl | rfl | rfl | rfl | rfl
    · exact r76_1_2 (e39 h) (by omega)
    · exact r76_2_2 (e39 h) (by omega)
    · exact r76_4_2 (e39 h) (by omega)
    · exact r76_5_2 (e39 h) (by omega)
    · exact r76_6_2 (e39 h) (by omega)
  · rcases hl with rfl | rfl | rfl | rfl | rfl
    · exact r76_1_1 (e39 h) (by omega) (e64 h) (e28 (opList 1) w.2 (by decide))
    · exact r76_2_1 (e39 h) (by omega) (e64 h) (e28 (opList 2) w.2 (by decide))
    · exact r76_4_1 (e39 h) (by omega) (e64 h) (e28 (opList 4) w.2 (by decide))
    · exact r76_5_1 (e39 h) (by omega) (e64 h) (e28 (opList 5) w.2 (by decide))
    · exact r76_6_1 (e39 h) (by omega) (e64 h) (e28 (opList 6) w.2 (by decide))
theorem e45 {f : Nat} (h : AtW s ls f w) (hf : f < k) (kd : Int) (tx : List UInt8) (us : List Tr) : ∃ a : Int, E 45 [.ref 0 0, N f, I kd, .str tx, .slice false 5 (Tr.pvs us)] (pd s ls k D) (Tr.mk kd tx a (en ls k : Nat) false us).pv (pd s ls k D) := by
  obtain ⟨t, ht, ha⟩ := h.t
  cases us with
  | nil => exact ⟨_, r45_1 (us := []) (by omega) ht (by simp)⟩
  | cons U us =>
    by_cases h1 : U.st < (t.a : Int)
    · exact ⟨_, r45_3 (us := U :: us) (U1 := U) (U2 := U) (by omega) ht (by simp) rfl h1 rfl⟩
    · exact ⟨_, r45_4 (us := U :: us) (U1 := U) (by omega) ht (by simp) rfl h1⟩
theorem e45n {f : Nat} (h : AtW s ls f w) (hf : f < k) (kd : Int) (tx : List UInt8) : ∃ a : Int, E 45 [.ref 0 0, N f, I kd, .str tx, .nils] (pd s ls k D) (Tr.mk kd tx a (en ls k : Nat) true []).pv (pd s ls k D) := by
  obtain ⟨t, ht, ha⟩ := h.t
  exact ⟨_, r45n_1 (by omega) ht⟩
theorem pvs1 (U : Tr) : Tr.pvs [U] = [U.pv] := by rw [Tr.pvs, Tr.pvs]
theorem pvs2 (U V : Tr) : Tr.pvs [U, V] = [U.pv, V.pv] := by rw [Tr.pvs, Tr.pvs, Tr.pvs]
theorem e45_1 {f : Nat} (h : AtW s ls f w) (hf : f < k) (kd : Int) (tx : List UInt8) (U : Tr) : ∃ a : Int, E 45 [.ref 0 0, N f, I kd, .str tx, .slice false 5 [U.pv]] (pd s ls k D) (Tr.mk kd tx a (en ls k : Nat) false [U]).pv (pd s ls k D) := by
  have := e45 (D := D) h hf kd tx [U]
  rwa [pvs1] at this
theorem e45_2 {f : Nat} (h : AtW s ls f w) (hf : f < k) (kd : Int) (tx : List UInt8) (U V : Tr) : ∃ a : Int, E 45 [.ref 0 0, N f, I kd, .str tx, .slice false 5 [U.pv, V.pv]] (pd s ls k D) (Tr.mk kd tx a (en ls k : Nat) false [U, V]).pv (pd s ls k D) := by
  have := e45 (D := D) h hf kd tx [U, V]
  rwa [pvs2] at this
end
def fol (L : Nat) (v : Wd) : Prop := (∀ l, L ≤ l → hasOp l v.2 = false) ∧ v.2 ≠ [40] ∧ v.2 ≠ [91] ∧ v.2 ≠ [46]
theorem has_no {x : List UInt8} (h : binOps.contains x = false) (l : Nat) : hasOp l x = false := by
  cases hb : hasOp l x with
  | false => rfl
  | true =>
    exfalso
    have : binOps.contains x = true := by
      revert hb
      match l with
      | 0 | 3 => simp [hasOp, opList]
      | 1 | 2 => intro hb; simp [hasOp, opList] at hb; subst hb; rfl
      | 4 => intro hb; simp [hasOp, opList] at hb; rcases hb with rfl | rfl | rfl | rfl | rfl | rfl <;> rfl
      | 5 => intro hb; simp [hasOp, opList] at hb; rcases hb with rfl | rfl <;> rfl
      | 6 => intro hb; simp [hasOp, opList] at hb; rcases hb with rfl | rfl | rfl <;> rfl
      | n + 7 => simp [hasOp, opList]
    rw [h] at this; cases this
theorem op_cases {t : List UInt8} (h : binOps.contains t = true) : ∃ L : Nat, (L = 1 ∨ L = 2 ∨ L = 4 ∨ L = 5 ∨ L = 6) ∧ opLev t = some (L : Int) ∧ hasOp L t = true ∧ (∀ l, hasOp l t = true → l = L) ∧ t ≠ [40] ∧ t ≠ [91] ∧ t ≠ [46] ∧ t ≠ [] := by
  simp [binOps] at h
  rcases h with rfl | rfl | rfl | rfl | rfl | rfl | rfl | rfl | rfl | rfl | rfl | rfl | rfl
  · exact ⟨1, by simp, by rfl, rfl, fun l h => by match l, h with | 0, h | 1, h | 2, h | 3, h | 4, h | 5, h | 6, h => simp [hasOp, opList] at h ⊢; | n + 7, h => simp [hasOp, opList] at h, by decide, by decide, by decide, by decide⟩
  · exact ⟨2, by simp, by rfl, rfl, fun l h => by match l, h with | 0, h | 1, h | 2, h | 3, h | 4, h | 5, h | 6, h => simp [hasOp, opList] at h ⊢; | n + 7, h => simp [hasOp, opList] at h, by decide, by decide, by decide, by decide⟩
  · exact ⟨4, by simp, by rfl, rfl, fun l h => by match l, h with | 0, h | 1, h | 2, h | 3, h | 4, h | 5, h | 6, h => simp [hasOp, opList] at h ⊢; | n + 7, h => simp [hasOp, opList] at h, by decide, by decide, by decide, by decide⟩
  · exact ⟨4, by simp, by rfl, rfl, fun l h => by match l, h with | 0, h | 1, h | 2, h | 3, h | 4, h | 5, h | 6, h => simp [hasOp, opList] at h ⊢; | n + 7, h => simp [hasOp, opList] at h, by decide, by decide, by decide, by decide⟩
  · exact ⟨4, by simp, by rfl, rfl, fun l h => by match l, h with | 0, h | 1, h | 2, h | 3, h | 4, h | 5, h | 6, h => simp [hasOp, opList] at h ⊢; | n + 7, h => simp [hasOp, opList] at h, by decide, by decide, by decide, by decide⟩
  · exact ⟨4, by simp, by rfl, rfl, fun l h => by match l, h with | 0, h | 1, h | 2, h | 3, h | 4, h | 5, h | 6, h => simp [hasOp, opList] at h ⊢; | n + 7, h => simp [hasOp, opList] at h, by decide, by decide, by decide, by decide⟩
  · exact ⟨4, by simp, by rfl, rfl, fun l h => by match l, h with | 0, h | 1, h | 2, h | 3, h | 4, h | 5, h | 6, h => simp [hasOp, opList] at h ⊢; | n + 7, h => simp [hasOp, opList] at h, by decide, by decide, by decide, by decide⟩
  · exact ⟨4, by simp, by rfl, rfl, fun l h => by match l, h with | 0, h | 1, h | 2, h | 3, h | 4, h | 5, h | 6, h => simp [hasOp, opList] at h ⊢; | n + 7, h => simp [hasOp, opList] at h, by decide, by decide, by decide, by decide⟩
  · exact ⟨5, by simp, by rfl, rfl, fun l h => by match l, h with | 0, h | 1, h | 2, h | 3, h | 4, h | 5, h | 6, h => simp [hasOp, opList] at h ⊢; | n + 7, h => simp [hasOp, opList] at h, by decide, by decide, by decide, by decide⟩
  · exact ⟨5, by simp, by rfl, rfl, fun l h => by match l, h with | 0, h | 1, h | 2, h | 3, h | 4, h | 5, h | 6, h => simp [hasOp, opList] at h ⊢; | n + 7, h => simp [hasOp, opList] at h, by decide, by decide, by decide, by decide⟩
  · exact ⟨6, by simp, by rfl, rfl, fun l h => by match l, h with | 0, h | 1, h | 2, h | 3, h | 4, h | 5, h | 6, h => simp [hasOp, opList] at h ⊢; | n + 7, h => simp [hasOp, opList] at h, by decide, by decide, by decide, by decide⟩
  · exact ⟨6, by simp, by rfl, rfl, fun l h => by match l, h with | 0, h | 1, h | 2, h | 3, h | 4, h | 5, h | 6, h => simp [hasOp, opList] at h ⊢; | n + 7, h => simp [hasOp, opList] at h, by decide, by decide, by decide, by decide⟩
  · exact ⟨6, by simp, by rfl, rfl, fun l h => by match l, h with | 0, h | 1, h | 2, h | 3, h | 4, h | 5, h | 6, h => simp [hasOp, opList] at h ⊢; | n + 7, h => simp [hasOp, opList] at h, by decide, by decide, by decide, by decide⟩
section
variable (s : List UInt8) (ls : List Tk)
def F49 (k L : Nat) (U : Tr) : FF := [(0, some (.ref 0 0)), (1, some (N L)), (4, some (.agg [I 0, .str [], I 0, I 0, .nils])), (5, some (N k)), (8, some U.pv)]
def Qx (L : Nat) (w : List Wd) (T : Tr) : Prop := ∀ k j v, Sp s ls k w → j = k + w.length → AtW s ls j v → fol L v → ∃ U : Tr, bare U = bare T ∧ U.wf ∧ E 49 [.ref 0 0, N L] (ps s ls k) U.pv (ps s ls j)
def Q8 (w : List Wd) (T : Tr) : Prop := ∀ k j v, Sp s ls k w → j = k + w.length → AtW s ls j v → fol 8 v → ∃ U : Tr, bare U = bare T ∧ U.wf ∧ E 75 [.ref 0 0] (ps s ls k) U.pv (ps s ls j)
def Cn (L : Nat) (w : List Wd) (T : Tr) : Prop := ∀ k j v, Sp s ls k w → j = k + w.length → AtW s ls j v → fol (L + 1) v → ∃ U : Tr, bare U = bare T ∧ U.wf ∧
  ∀ (U2 : Tr) (j2 : Nat), LE m49_0 l49_0 (F49 k L U) (ps s ls j) (.exit 1) (F49 k L U2) (ps s ls j2) → E 49 [.ref 0 0, N L] (ps s ls k) U2.pv (ps s ls j2)
def notH (x : List UInt8) : List Wd → Prop
  | [] => False
  | w :: _ => w.2 ≠ x
def P0 (L : Nat) (w : List Wd) (T : Tr) : Prop :=
  match L with
  | 1 => Cn s ls 1 w T
  | 2 => Cn s ls 2 w T
  | 3 => Qx s ls 3 w T
  | 4 => Qx s ls 4 w T
  | 5 => Cn s ls 5 w T
  | 6 => Cn s ls 6 w T
  | 7 => Qx s ls 7 w T
  | 8 => Q8 s ls w T
  | _ => False
structure PH (L : Nat) (w : List Wd) (T : Tr) : Prop where
  p : P0 s ls L w T
  ne : w ≠ []
  hn : 4 ≤ L → notH [110, 111, 116] w
  hm : 8 ≤ L → notH [45] w
  hc : notH [41] w
end
section
variable {s : List UInt8} {ls : List Tk} {w : List Wd} {T : Tr}
variable {A B : Tr} {a b : List Wd} {o : List UInt8}
end
end Go.Abs.Z

namespace Go.Abs.Z
open Go.Proofs Go.RowKit
section
variable {s : List UInt8} {ls : List Tk} {k j : Nat} {w v : Wd} {T U V A B : Tr} {b : List Wd}
def tailW : List (Int × List Wd) → List Wd
  | [] => []
  | x :: l => symW 44 :: (x.2 ++ tailW l)
theorem commas_tail : ∀ (l : List (Int × List Wd)) (x : Int × List Wd), commasW (x :: l) = x.2 ++ tailW l
  | [], x => by simp [commasW, tailW]
  | y :: l, x => by
    rw [tailW, ← commas_tail l y]; rfl
def F75 (f : Nat) (ts : List Tr) : FF := [(0, some (.ref 0 0)), (2, some (.agg [I 0, .str [], I 0, I 0, .nils])), (3, some (N f)), (6, some (.slice true 5 (Tr.pvs ts)))]
end
end Go.Abs.Z

set_option linter.unusedSimpArgs false
set_option linter.unusedVariables false
namespace Go.Abs.Z
open Go.Proofs Go.RowKit
theorem lev8 {k : Int} {t : List UInt8} (h : 20 ≤ k) (h' : k ≤ 27) : lev k t = 8 := by
  unfold lev
  rw [if_neg (by omega), if_neg (by omega), if_neg (by omega), if_neg (by omega)]
theorem needV_le {L k i : Int} (h : 0 ≤ L ∧ L ≤ 8) : needV L k i ≤ 8 := by
  unfold needV
  repeat' split
  all_goals omega
theorem kids_exp {k : Int} (hk : k = 26 ∨ k = 27) : ∀ {us : List Tr} {i : Nat}, kidsOk k i us = true → ∀ U ∈ us, 20 ≤ U.kind ∧ U.kind ≤ 29
  | [], _, _, U, h => by cases h
  | V :: us, i, h, U, hU => by
    simp only [kidsOk, Bool.and_eq_true] at h
    rcases List.mem_cons.1 hU with rfl | hU
    · have := h.1
      rcases hk with rfl | rfl <;> simpa [kidOk, isExpB] using this
    · exact kids_exp hk h.2 U hU
section
variable {s : List UInt8} {ls : List Tk} {T : Tr} {d : Nat}
end
end Go.Abs.Z

set_option linter.unusedVariables false
set_option linter.unusedSimpArgs false
namespace Go.Abs.Z
open Go.Proofs Go.RowKit
theorem bare_parts {T U : Tr} (h : bare T = bare U) : T.kind = U.kind ∧ T.text = U.text ∧ T.kids.map bare = U.kids.map bare := by
  rw [bare_eq T, bare_eq U] at h
  cases T; cases U
  injection h with h1 h2 _ _ _ h3
  exact ⟨h1, h2, h3⟩
theorem bare_of {T U : Tr} (h1 : T.kind = U.kind) (h2 : T.text = U.text) (h3 : T.kids.map bare = U.kids.map bare) : bare T = bare U := by
  rw [bare_eq T, bare_eq U, h1, h2, h3]
theorem same_ev : ∀ (n : Nat) (T U : Tr), T.pre.length ≤ n → T.pre.length ≤ maxRow ∨ U.pre.length ≤ maxRow → T.wf → U.wf → ∃ b : Bool, E 18 [T.pv, U.pv] [] (.bool b) [] ∧ (b = true ↔ bare T = bare U)
  | 0, T, U, h, _, _, _ => by obtain ⟨k, t, a, e, n, ks⟩ := T; simp [Tr.pre] at h
  | n + 1, T, U, h, hm, wT, wU => by
    by_cases h1 : T.kind = U.kind
    · by_cases h2 : T.text = U.text
      · by_cases h3 : T.kids.length = U.kids.length
        · have hkl := kids_le T; have hkm := kids_le U
          have ih : ∀ A ∈ T.kids, ∀ B ∈ U.kids, ∃ b : Bool, E 18 [A.pv, B.pv] [] (.bool b) [] ∧ (b = true ↔ bare A = bare B) := fun A hA B hB => same_ev n A B (by have := kid_lt T A hA; omega) (by have := kid_lt T A hA; have := kid_lt U B hB; omega) (kid_wf T A wT hA) (kid_wf U B wU hB)
          have hl : ∀ (r j : Nat), j + r = T.kids.length → ∃ b : Bool, (b = true ↔ (T.kids.drop j).map bare = (U.kids.drop j).map bare) ∧
              (b = true → LE m18_0 l18_0 [(2, some (.vptr T.pv)), (3, some (.vptr U.pv)), (5, some (N j))] [] (.exit 0) [(2, some (.vptr T.pv)), (3, some (.vptr U.pv))] []) ∧
              (b = false → LE m18_0 l18_0 [(2, some (.vptr T.pv)), (3, some (.vptr U.pv)), (5, some (N j))] [] .ret [(4, some (.bool false))] []) := by
            intro r
            induction r with
            | zero =>
              intro j hj
              refine ⟨true, ?_, fun _ => r18_l0_out1 wT (by omega), fun h => (by cases h)⟩
              rw [List.drop_of_length_le (by omega), List.drop_of_length_le (by omega)]; simp
            | succ r ihr =>
              intro j hj
              obtain ⟨A, g1, e1⟩ := drop_at (l := T.kids) (j := j) (by omega)
              obtain ⟨B, g2, e2⟩ := drop_at (l := U.kids) (j := j) (by omega)
              obtain ⟨b1, q1, q2⟩ := ih A (kid_mem g1) B (kid_mem g2)
              obtain ⟨b2, p1, p2, p3⟩ := ihr (j + 1) (by omega)
              have hmr : maxRow < 4611686018427387904 := by decide
              rw [e1, e2]
              cases hb1 : b1 with
              | false =>
                subst hb1
                refine ⟨false, ?_, fun h => (by cases h), fun _ => r18_l0_out2 wT (by omega) g1 wU g2 q1⟩
                simp only [List.map_cons, List.cons.injEq, Bool.false_eq_true, false_iff, not_and]
                intro hh
                exact absurd (q2.2 hh) (by decide)
              | true =>
                subst hb1
                refine ⟨b2, ?_, fun hb => r18_l0_next1 wT (by omega) g1 wU g2 q1 (by omega) (p2 hb), fun hb => r18_l0_next1 wT (by omega) g1 wU g2 q1 (by omega) (p3 hb)⟩
                simp only [List.map_cons, List.cons.injEq, q2.1 rfl, true_and]
                exact p1
          obtain ⟨b, p1, p2, p3⟩ := hl T.kids.length 0 (by omega)
          rw [List.drop_zero, List.drop_zero] at p1
          refine ⟨b, ?_, ?_⟩
          · cases hb : b with
            | true => exact r18_4 h1 h2 wT wU (by omega) (p2 hb)
            | false => exact r18_5 h1 h2 wT wU (by omega) (p3 hb)
          · rw [p1]
            exact ⟨fun h => bare_of h1 h2 h, fun h => (bare_parts h).2.2⟩
        · refine ⟨false, r18_3 h1 h2 wT wU (by omega), ?_⟩
          simp only [Bool.false_eq_true, false_iff]
          intro hb
          have := congrArg List.length (bare_parts hb).2.2
          simp at this; exact h3 this
      · refine ⟨false, r18_2 h1 h2, ?_⟩
        simp only [Bool.false_eq_true, false_iff]
        intro hb; exact h2 (bare_parts hb).2.1
    · refine ⟨false, r18_1 h1, ?_⟩
      simp only [Bool.false_eq_true, false_iff]
      intro hb; exact h1 (bare_parts hb).1
theorem pre_len (T : Tr) : T.pre.length = (Tr.pres T.kids).length + 1 := by
  obtain ⟨k, t, a, e, n, ks⟩ := T
  simp [Tr.pre, Tr.kids]
def Sh (T : Tr) (d : Nat) : Prop := (prt T d).length + 4 ≤ 30 * T.pre.length
theorem commas_short {k : Int} {t : List UInt8} {d : Nat} : ∀ (ks : List Tr) (i : Nat), (∀ U ∈ ks, Sh U d) → (commasT (prts ks k t i d)).length ≤ 30 * (Tr.pres ks).length
  | [], i, _ => by rw [prts]; simp [commasT, Lib.join_nil]
  | [U], i, h => by
    have h1 := h U (by simp)
    unfold Sh at h1
    have h2 := par_len k t i U (prt U d)
    have : commasT (prts [U] k t i d) = par k t i U (prt U d) := by rw [prts, prts]; simp [commasT, Lib.join_one]
    rw [this, Tr.pres, Tr.pres, List.append_nil]; omega
  | U :: V :: us, i, h => by
    have h1 := h U (by simp)
    unfold Sh at h1
    have h2 := par_len k t i U (prt U d)
    have h3 := commas_short (k := k) (t := t) (V :: us) (i + 1) fun W hW => h W (List.mem_cons_of_mem _ hW)
    have : commasT (prts (U :: V :: us) k t i d) = par k t i U (prt U d) ++ ([44] ++ ([32] ++ commasT (prts (V :: us) k t (i + 1) d))) := by
      rw [prts, prts, commas2]
    rw [this, Tr.pres]
    simp only [List.length_append, List.length_cons, List.length_nil]
    omega
theorem name_len {x : List UInt8} (h : nameB x = true) : x.length ≤ 16 := by
  simp only [nameB, Bool.and_eq_true, decide_eq_true_eq] at h
  exact h.1.1.1.2
theorem expr_short : ∀ (n : Nat) (T : Tr) (d : Nat), T.pre.length ≤ n → Good T d → 20 ≤ T.kind ∧ T.kind ≤ 29 → Sh T d
  | 0, T, d, h, _, _ => by obtain ⟨k, t, a, e, n, ks⟩ := T; simp [Tr.pre] at h
  | n + 1, T, d, h, hg, h20 => by
    have ih : ∀ U ∈ T.kids, 20 ≤ U.kind ∧ U.kind ≤ 29 → Sh U d := fun U hU h20 => expr_short n U d (by have := kid_lt T U hU; omega) (hg.kid hU d (by omega)) h20
    have hl := pre_len T
    obtain ⟨_, _, _, htx, _, _, hkk⟩ := loc_parts hg.loc
    have : T.kind = 20 ∨ T.kind = 21 ∨ T.kind = 22 ∨ T.kind = 23 ∨ T.kind = 24 ∨ T.kind = 25 ∨ T.kind = 26 ∨ T.kind = 27 ∨ T.kind = 28 ∨ T.kind = 29 := by omega
    unfold Sh
    rcases this with hk | hk | hk | hk | hk | hk | hk | hk | hk | hk
    · rw [hk] at htx
      have he : prt T d = T.text := by rw [prt_eq]; simp [prts, nodeT, at2, hk]
      have := name_len (x := T.text) (by simpa [textOk] using htx)
      rw [he]; omega
    · obtain ⟨U, V, hks, c0, c1⟩ := inv2 hg.loc hk rfl rfl
      simp [kidOk] at c0
      simp [kidOk, isExpB] at c1
      have h1 := ih U (by rw [hks]; simp) (by omega)
      have h2 := ih V (by rw [hks]; simp) c1
      have he : prt T d = (par T.kind T.text 0 U (prt U d) ++ ([91] ++ (par T.kind T.text 1 V (prt V d) ++ ([93] ++ [])))) := by rw [prt_eq, hks]; simp [prts, nodeT, at2, hk]
      have h3 := par_len T.kind T.text 0 U (prt U d)
      have h4 := par_len T.kind T.text 1 V (prt V d)
      rw [he, hl, hks, Tr.pres, Tr.pres, Tr.pres]
      unfold Sh at h1 h2
      simp only [List.length_append, List.length_cons, List.length_nil]; omega
    · obtain ⟨U, hks, c0⟩ := inv1 hg.loc hk rfl rfl
      simp [kidOk] at c0
      rw [hk] at htx
      have h1 := ih U (by rw [hks]; simp) (by omega)
      have h2 := name_len (x := T.text) (by simpa [textOk] using htx)
      have he : prt T d = (par T.kind T.text 0 U (prt U d) ++ ([46] ++ T.text)) := by rw [prt_eq, hks]; simp [prts, nodeT, at2, hk]
      have h3 := par_len T.kind T.text 0 U (prt U d)
      rw [he, hl, hks, Tr.pres, Tr.pres]
      unfold Sh at h1
      simp only [List.length_append, List.length_cons, List.length_nil]; omega
    · obtain ⟨U, hks, c0⟩ := inv1 hg.loc hk rfl rfl
      simp [kidOk] at c0
      have h1 := ih U (by rw [hks]; simp) (by omega)
      have he : prt T d = ([108, 101, 110] ++ ([40] ++ (par T.kind T.text 0 U (prt U d) ++ ([41] ++ [])))) := by rw [prt_eq, hks]; simp [prts, nodeT, at2, hk]
      have h3 := par_len T.kind T.text 0 U (prt U d)
      rw [he, hl, hks, Tr.pres, Tr.pres]
      unfold Sh at h1
      simp only [List.length_append, List.length_cons, List.length_nil]; omega
    · rw [hk] at htx
      have he : prt T d = T.text := by rw [prt_eq]; simp [prts, nodeT, at2, hk]
      have hn : numberB T.text = true := by simpa [textOk] using htx
      simp only [numberB, numOk, Bool.and_eq_true, decide_eq_true_eq] at hn
      have := hn.1.1.2
      rw [he]; omega
    · rw [hk] at htx
      have he : prt T d = T.text := by rw [prt_eq]; simp [nodeT, hk]
      simp [textOk] at htx
      rcases htx with h | h <;> rw [he, h] <;> simp <;> omega
    · rw [hk] at hkk
      have he : prt T d = ([91] ++ (commasT (prts T.kids T.kind T.text 0 d) ++ ([93] ++ []))) := by rw [prt_eq]; simp [prts, nodeT, at2, hk]
      have h1 := commas_short (k := T.kind) (t := T.text) (d := d) T.kids 0 fun U hU => ih U hU (kids_exp (.inl rfl) hkk U hU)
      rw [he, hl]
      simp only [List.length_append, List.length_cons, List.length_nil]; omega
    · rw [hk] at htx hkk
      have he : prt T d = (T.text ++ ([40] ++ (commasT (prts T.kids T.kind T.text 0 d) ++ ([41] ++ [])))) := by rw [prt_eq]; simp [prts, nodeT, at2, hk]
      have h2 := name_len (x := T.text) (by simpa [textOk] using htx)
      have h1 := commas_short (k := T.kind) (t := T.text) (d := d) T.kids 0 fun U hU => ih U hU (kids_exp (.inr rfl) hkk U hU)
      rw [he, hl]
      simp only [List.length_append, List.length_cons, List.length_nil]; omega
    · obtain ⟨U, hks, c0⟩ := inv1 hg.loc hk rfl rfl
      simp [kidOk, isExpB] at c0
      rw [hk] at htx
      have h1 := ih U (by rw [hks]; simp) c0
      have h3 := par_len T.kind T.text 0 U (prt U d)
      unfold Sh at h1
      by_cases hn : T.text = [110, 111, 116]
      · have he : prt T d = [110, 111, 116] ++ ([32] ++ par T.kind T.text 0 U (prt U d)) := by rw [prt_eq, hks]; simp [prts, nodeT, at2, hk, hn]
        rw [he, hl, hks, Tr.pres, Tr.pres]
        simp only [List.length_append, List.length_cons, List.length_nil]; omega
      · have ht2 : T.text = [45] := by simpa [textOk, hn] using htx
        have he : prt T d = [45] ++ par T.kind T.text 0 U (prt U d) := by rw [prt_eq, hks]; simp [prts, nodeT, at2, hk, ht2]
        rw [he, hl, hks, Tr.pres, Tr.pres]
        simp only [List.length_append, List.length_cons, List.length_nil]; omega
    · obtain ⟨U, V, hks, c0, c1⟩ := inv2 hg.loc hk rfl rfl
      simp [kidOk, isExpB] at c0 c1
      rw [hk] at htx
      have h1 := ih U (by rw [hks]; simp) c0
      have h2 := ih V (by rw [hks]; simp) c1
      have hop : binOps.contains T.text = true := by simpa [textOk] using htx
      have h5 : T.text.length ≤ 3 := by
        simp [binOps] at hop
        rcases hop with h | h | h | h | h | h | h | h | h | h | h | h | h <;> rw [h] <;> simp
      have he : prt T d = (par T.kind T.text 0 U (prt U d) ++ ([32] ++ (T.text ++ ([32] ++ par T.kind T.text 1 V (prt V d))))) := by rw [prt_eq, hks]; simp [prts, nodeT, at2, hk]
      have h3 := par_len T.kind T.text 0 U (prt U d)
      have h4 := par_len T.kind T.text 1 V (prt V d)
      rw [he, hl, hks, Tr.pres, Tr.pres, Tr.pres]
      unfold Sh at h1 h2
      simp only [List.length_append, List.length_cons, List.length_nil]; omega
theorem e19 (T : Tr) (hw : T.wf) (hr : T.pre.length ≤ maxRow) : E 19 [T.pv] [] (.bool (isExpB T.kind && shapeB T)) [] := by
  have h37 := e37 _ T (Nat.le_refl _) hw hr
  have h27 : E 27 [.int .i64 T.kind] [] (.bool (isExpB T.kind)) [] := ev_at 1 fun m _ => run27 m T.kind
  cases hk : isExpB T.kind with
  | false => rw [hk] at h27; exact r19_2 h27
  | true => rw [hk] at h27; exact r19_1 h27 h37
theorem e20 {T : Tr} (hg : Good T 0) (hp : T.pre.length ≤ 60) (hk : isExpB T.kind = true) : E 20 [T.pv] [] (.tuple [.str (prt T 0), I 0]) [] := by
  have h58 := e58 T hg.wf (by omega)
  have h74 : E 74 [.int .i64 T.kind] [] (.bool (isExpB T.kind)) [] := ev_at 1 fun m _ => isExpT_run (call := run m) (n := m) T.kind
  rw [hg.shape] at h58
  rw [hk] at h74
  have hr := exp_rng hk
  have hs := expr_short _ T 0 (Nat.le_refl _) hg (by omega)
  unfold Sh at hs
  exact r20_1 (r48_1 h74 h58) (e36 _ T 0 (Nat.le_refl _) hg (by omega) (by omega)) (r35_2 (by omega))
end Go.Abs.Z

namespace Go.Abs.Z
open Go.Proofs Go.RowKit
theorem vsl1_dgs (d : Dg) (ds : List Dg) : semP (.vsl 5 true false) [.slice false 5 ((d :: ds).map Dg.pv), I 1] = some [some (.slice false 5 (ds.map Dg.pv))] := by
  simp [semP, cutB]
  exact ⟨by omega, List.take_of_length_le (by simp)⟩
theorem merge_loop : ∀ (ds es : List Dg), es.length + ds.length ≤ maxRow →
    LE m46_0 l46_0 [(0, some (.slice false 5 [])), (1, some (.slice false 5 (ds.map Dg.pv))), (5, some (.slice true 5 (es.map Dg.pv)))] [] (.exit 0) [(5, some (.slice true 5 ((es ++ ds).map Dg.pv)))] []
  | [], es, _ => by
    rw [List.append_nil]
    exact r46m_l0_out1 (dl1 := []) (by simp)
  | d :: ds, es, h => by
    have := merge_loop ds (es ++ [d]) (by simp at h ⊢; omega)
    rw [List.append_assoc] at this
    exact r46m_l0_next1 (dl1 := d :: ds) (dg1 := d) (by simp only [List.length_cons]; omega) (by simp only [List.length_cons]; omega) rfl (by simp at h; omega) (vsl1_dgs d ds) this
theorem merge_ev (ds : List Dg) (h : ds.length ≤ maxRow) : E 46 [.slice false 5 [], .slice false 5 (ds.map Dg.pv)] [] (.slice false 5 (ds.map Dg.pv)) [] :=
  r46m (dl1 := ds) (merge_loop ds [] (by simpa using h))
end Go.Abs.Z
namespace Go.Abs.Z
open Go.Proofs Go.RowKit
def Dk (ls : List Tk) (k : Nat) (ds : List Dg) : Prop := ds.length ≤ k ∨ (ds.length = k + 1 ∧ ∃ d t, ds[k]? = some d ∧ ls[k]? = some t ∧ d.a = t.a)
theorem Dk.next {ls : List Tk} {k : Nat} {ds : List Dg} (h : Dk ls k ds) : Dk ls (k + 1) ds := by
  rcases h with h | h
  · exact .inl (by omega)
  · exact .inl (by omega)
theorem report_ev {s : List UInt8} {ls : List Tk} {k p c : Nat} {tx : List UInt8} {ds : List Dg} {t : Tk} (ht : ls[k]? = some t) (hk : k < 5000) (hD : Dk ls k ds) :
    ∃ ds' : List Dg, E 43 [.ref 0 0, N c, .str tx] [pc s ls k p (ds.map Dg.pv)] (.tuple []) [pc s ls k p (ds'.map Dg.pv)] ∧ ds' ≠ [] ∧ Dk ls k ds' := by
  have hm : 5002 ≤ maxRow := by decide
  by_cases h0 : ds = []
  · subst h0
    exact ⟨[⟨c, t.a, t.e, tx⟩], r43_1 (D := []) ht (by simp) (by simp; omega), by simp, by
      by_cases hk0 : k = 0
      · subst hk0; exact .inr ⟨rfl, _, t, rfl, ht, rfl⟩
      · exact .inl (by simp; omega)⟩
  · have hl : 0 < ds.length := List.length_pos_iff.2 h0
    have hle : ds.length ≤ k + 1 := by rcases hD with h | h <;> omega
    obtain ⟨d, hd⟩ : ∃ d, ds[ds.length - 1]? = some d := ⟨_, List.getElem?_eq_getElem (by omega)⟩
    have hd' : (ds.map Dg.pv)[(ds.map Dg.pv).length - 1]? = some d.pv := by
      rw [List.length_map, List.getElem?_map, hd]; rfl
    by_cases he : d.a = t.a
    · exact ⟨ds, r43_2 ht (by simp; omega) (by simp; omega) (by simp; omega) hd' (by omega), h0, hD⟩
    · have hlt : ds.length ≤ k := by
        rcases hD with h | ⟨h, d2, t2, h1, h2, h3⟩
        · exact h
        · exfalso
          have : ds.length - 1 = k := by omega
          rw [this, h1] at hd
          rw [ht] at h2
          cases hd; cases h2
          exact he h3
      refine ⟨ds ++ [⟨c, t.a, t.e, tx⟩], ?_, by simp, ?_⟩
      · rw [List.map_append]
        exact r43_3 ht (by simp; omega) (by simp; omega) (by simp; omega) hd' (by omega) (by simp; omega)
      · by_cases hk1 : ds.length = k
        · exact .inr ⟨by simp [hk1], ⟨c, t.a, t.e, tx⟩, t, by rw [List.getElem?_append_right (by omega)]; simp [hk1], ht, rfl⟩
        · exact .inl (by simp; omega)
end Go.Abs.Z
