/- A part of the proof: M1 M2 M3 M4. -/
import Derived.Test.YtkmhldloehaamaaGreatDoorLa
import Derived.Test.YtkmhldloehaamaaGreatDoorWc
import Derived.Test.YtkmhldloehaamaaGreatDoorWd

set_option linter.unusedVariables false
set_option linter.unusedSimpArgs false
namespace Go.Abs.Z
open Go.Proofs Go.RowKit
theorem e143 (c : UInt8) : E 170 [.int .u8 c.toNat] [] (.bool (AjP c)) [] := ev_at 1 fun m _ => run143 m c
theorem e112 (s : List UInt8) (i : Nat) (hi : i < s.length) (hs : s.length < 2305843009213693952) : E 131 [.str s, N i] [] (.tuple [.int .i64 (Aj3 s i).1, .int .i64 (Aj3 s i).2]) [] :=
  ⟨101 + s.length + 4, fun n hn => by
    obtain ⟨m, rfl⟩ : ∃ m, n = m + 4 := ⟨n - 4, by omega⟩
    exact run112 m (by omega) s i hi hs (by omega)⟩
theorem e72 (s : List UInt8) : E 96 [.str s] [] (.tuple [.int .i64 (if numOk s then numV s else 0), .bool (numOk s)]) [] := ev_at 2 fun m hm => run72 m hm s
theorem blank_not35 {c : UInt8} (h : AjP c = true) : ((c.toNat : Nat) : Int) ≠ 35 := by
  simp only [AjP, Bool.or_eq_true, beq_iff_eq] at h;omega
theorem drop_cons_get {s r : List UInt8} {i : Nat} {c : UInt8} (h : s.drop i = c :: r) : s[i]? = some c ∧ s.drop (i + 1) = r ∧ i < s.length := by
  have hl : i < s.length := by
    rcases Nat.lt_or_ge i s.length with h' | h'
    · exact h'
    · rw [List.drop_of_length_le h'] at h; cases h
  rw [List.drop_eq_getElem_cons hl] at h;cases h;exact ⟨by simp [hl], rfl, hl⟩
theorem skip_loop (s : List UInt8) (hs : s.length ≤ 4096) (i0 : Nat) (r : List UInt8) (hr : r = [] ∨ startB r = true) : ∀ (b : List UInt8) (j : Nat), s.drop j = b ++ r → j ≤ s.length → b.all AjP = true →
    LE m111_0 l111_0 [(0, some (.str s)), (1, some (N j))] [] (.exit 0) [(1, some (N (j + b.length)))] []
  | c :: b, j, h, hj, hb => by
    simp only [List.all_cons, Bool.and_eq_true] at hb;obtain ⟨h1, h2, h3⟩ := drop_cons_get h;have := skip_loop s hs i0 r hr b (j + 1) h2 (by omega) hb.2
    have e := e143 c;rw [hb.1] at e;have e2 : j + (c :: b).length = j + 1 + b.length := by simp; omega
    rw [e2];exact r111_l0_next2 (by omega) h1 e h1 (blank_not35 hb.1) (by omega) this
  | [], j, h, hj, _ => by
    rcases hr with rfl | hr
    · have : s.length ≤ j := by simpa using h
      exact r111_l0_out1 (by omega)
    · cases r with
      | nil => cases hr
      | cons c r =>
        obtain ⟨h1, h2, h3⟩ := drop_cons_get h;simp only [startB, Bool.and_eq_true, Bool.not_eq_true', bne_iff_ne, ne_eq] at hr;have e := e143 c;rw [hr.1] at e;refine r111_l0_out2 (by omega) h1 e h1 ?_
        intro h35;exact hr.2 (UInt8.toNat_inj.1 (by rw [show (35 : UInt8).toNat = 35 from rfl]; omega))
theorem skip_ev (s : List UInt8) (hs : s.length ≤ 4096) (b r : List UInt8) (i : Nat) (h : s.drop i = b ++ r) (hi : i ≤ s.length) (hb : b.all AjP = true) (hr : r = [] ∨ startB r = true) : E 130 [.str s, N i] [] (N (i + b.length)) [] :=
  r111 (skip_loop s hs i r hr b i h hi hb)
structure AtT (s : List UInt8) (t : Tk) (w : Wd) : Prop where
  k : t.k = w.1
  le : t.a ≤ t.e
  len : t.e ≤ s.length
  word : (s.drop t.a).take (t.e - t.a) = w.2
def Spelt (s : List UInt8) : List Wd → List Tk → Prop
  | [], [t] => AtT s t (5, [])
  | w :: ws, t :: ts => AtT s t w ∧ Spelt s ws ts
  | _, _ => False
theorem scan_loop (s : List UInt8) (hs : s.length ≤ 4096) : ∀ {r : List UInt8} {ws : List Wd}, Lx r ws → ∀ (i : Nat) (tl : List Tk), s.drop i = r → i ≤ s.length → tl.length + ws.length + 1 ≤ Ax1 →
    ∃ ts, LE m63_0 l63_0 [(0, some (.str s)), (4, some (.slice true 4 (tl.map Tk.pv))), (5, some (N i))] [] .ret [(2, some (.slice true 4 ((tl ++ ts).map Tk.pv))), (3, some (I 0))] [] ∧ Spelt s ws ts := by
  intro r ws h
  induction h with
  | @nil b hb =>
    intro i tl hd hi hl;have h1 := skip_ev s hs b [] i (by simpa using hd) hi hb (.inl rfl)
    have hlen : i + b.length = s.length := by
      have := congrArg List.length hd;rw [List.length_drop] at this; omega
    refine ⟨[⟨5, i, i + b.length, i + b.length⟩], r63_l0_out1 h1 (by omega) (by simp at hl ⊢; omega), ⟨rfl, Nat.le_refl _, ?_, by simp⟩⟩
    show i + b.length ≤ s.length;omega
  | @cons b x rest ws kd hb hx hst ho h ih =>
    intro i tl hd hi hl;have hx0 : x ≠ [] := by rintro rfl; cases hst
    have hlen : i + (b.length + (x.length + rest.length)) = s.length := by
      have := congrArg List.length hd;rw [List.length_drop] at this;simp only [List.length_append] at this; omega
    have hxl : 0 < x.length := List.length_pos_iff.2 hx0
    have hst' : startB (x ++ rest) = true := by
      cases x with
      | nil => exact absurd rfl hx0
      | cons => exact hst
    have h1 := skip_ev s hs b (x ++ rest) i hd hi hb (.inr hst')
    have hd2 : s.drop (i + b.length) = x ++ rest := by
      rw [← List.drop_drop, hd]; simp
    have hd3 : s.drop (i + b.length + x.length) = rest := by
      rw [← List.drop_drop, hd2]; simp
    have ht := e112 s (i + b.length) (by omega) (by omega)
    have htok : Aj3 s (i + b.length) = ((kd : Int), i + b.length + x.length) := by
      have := hx (s.take (i + b.length));rw [← hd2, List.take_append_drop] at this;have e : (s.take (i + b.length)).length = i + b.length := by rw [List.length_take]; omega
      rw [e] at this; exact this
    rw [htok] at ht;obtain ⟨ts, h2, h3⟩ := ih (i + b.length + x.length) (tl ++ [⟨kd, i, i + b.length, i + b.length + x.length⟩]) hd3 (by omega) (by simp at hl ⊢; omega)
    refine ⟨⟨kd, i, i + b.length, i + b.length + x.length⟩ :: ts, ?_, ⟨rfl, ?_, ?_, ?_⟩, h3⟩
    · have := r63_l0_next1 h1 (by omega) ht (by simp at hl ⊢; omega) h2
      rw [List.append_assoc] at this;exact this
    · show i + b.length ≤ i + b.length + x.length; omega
    · show i + b.length + x.length ≤ s.length; omega
    · show (s.drop (i + b.length)).take (i + b.length + x.length - (i + b.length)) = x;rw [hd2];have e : i + b.length + x.length - (i + b.length) = x.length := by omega
      rw [e]; simp
theorem lx_count : ∀ {r : List UInt8} {ws : List Wd}, Lx r ws → ws.length ≤ r.length
  | _, _, .nil _ => by simp
  | _, _, .cons _ _ hs _ h => by
    have := lx_count h;rename_i b x rest ws kd _ _ _
    have : 0 < x.length := by
      cases x with
      | nil => cases hs
      | cons => simp
    simp only [List.length_append, List.length_cons]; omega
theorem lx_ok : ∀ {r : List UInt8} {ws : List Wd}, Lx r ws → ∀ w ∈ ws, wdOk w.1 w.2 = true
  | _, _, .nil _, w, h => by cases h
  | _, _, .cons _ _ _ ho h, w, hw => by
    rcases List.mem_cons.1 hw with rfl | hw
    · exact ho
    · exact lx_ok h w hw
theorem scan_ev (s : List UInt8) (hs : s.length ≤ 4096) {ws : List Wd} (h : Lx s ws) : ∃ ls, E 64 [.str s] [] (.tuple [.slice false 4 (ls.map Tk.pv), I 0]) [] ∧ Spelt s ws ls := by
  have hc := lx_count h;obtain ⟨ts, h1, h2⟩ := scan_loop s hs h 0 [] rfl (by omega) (by simp [Ax1]; omega)
  exact ⟨ts, r63_2 (by omega) h1, h2⟩
theorem spelt_get {s : List UInt8} : ∀ {ws : List Wd} {ls : List Tk}, Spelt s ws ls → ls.length = ws.length + 1 ∧ (∀ (i : Nat) (w : Wd), ws[i]? = some w → ∃ t, ls[i]? = some t ∧ AtT s t w) ∧ ∃ t, ls[ws.length]? = some t ∧ AtT s t (5, [])
  | [], [t], h => ⟨rfl, fun i w hw => by simp at hw, t, rfl, h⟩
  | w :: ws, t :: ts, h => by
    obtain ⟨h1, h2, h3⟩ := spelt_get h.2;refine ⟨by simp [h1], fun i v hv => ?_, by simpa using h3⟩
    cases i with
    | zero => cases hv; exact ⟨t, rfl, h.1⟩
    | succ i => simpa using h2 i v (by simpa using hv)
  | [], [], h => h.elim
  | [], _ :: _ :: _, h => h.elim
  | _ :: _, [], h => h.elim
theorem spelt_all {s : List UInt8} {ws : List Wd} {ls : List Tk} (h : Spelt s ws ls) (hw : ∀ w ∈ ws, wdOk w.1 w.2 = true) {j : Nat} {t : Tk} (ht : ls[j]? = some t) : ∃ w : Wd, AtT s t w ∧ (wdOk w.1 w.2 = true ∨ w = (5, [])) := by
  obtain ⟨h1, h2, u, h3, h4⟩ := spelt_get h
  have hj : j < ls.length := by
    rcases Nat.lt_or_ge j ls.length with h' | h'
    · exact h'
    · rw [List.getElem?_eq_none h'] at ht; cases ht
  rcases Nat.lt_or_ge j ws.length with hj' | hj'
  · obtain ⟨t', h5, h6⟩ := h2 j _ (List.getElem?_eq_getElem hj')
    rw [ht] at h5; cases h5;exact ⟨_, h6, .inl (hw _ (List.getElem_mem hj'))⟩
  · have : j = ws.length := by omega
    subst this;rw [ht] at h3; cases h3;exact ⟨_, h4, .inr rfl⟩
theorem e73 {s : List UInt8} {t : Tk} {w : Wd} (h : AtT s t w) : E 97 [.str s, t.pv] [] (.str w.2) [] := by
  refine r73 ?_
  have := p_ssl s (t.a : Int) (t.e : Int) (by omega) (by have := h.le; omega) (by have := h.len; omega)
  rw [this];have e1 : (t.a : Int).toNat = t.a := by omega
  have e2 : (t.e : Int).toNat = t.e := by omega
  rw [e1, e2, h.word]
theorem start_loop (s : List UInt8) (ls : List Tk) (hk : ∀ t ∈ ls, t.k ≠ 4) (hl : ls.length ≤ 5000) : ∀ (r j : Nat), j + r = ls.length →
    LE m38_0 l38_0 [(3, some (.ref 0 0)), (4, some (.slice false 4 (ls.map Tk.pv))), (6, some (N j))] [[.str s, accP 4 ((ls.take j).map Tk.pv), I 0, I 0, .nils]] (.exit 0) [(3, some (.ref 0 0))] [[.str s, accP 4 (ls.map Tk.pv), I 0, I 0, .nils]] := by
  intro r
  induction r with
  | zero =>
    intro j hj;rw [List.take_of_length_le (by omega)]
    exact r38_l0_out1 (by omega)
  | succ r ih =>
    intro j hj;obtain ⟨t, ht, _⟩ := drop_at (l := ls) (j := j) (by omega)
    have h1 := ih (j + 1) (by omega)
    rw [List.take_add_one, ht, Option.toList_some, List.map_append] at h1;have := hk t (List.mem_of_getElem? ht);exact r38_l0_next1 (by omega) ht (by omega) ht (by simp [Ax1]; omega) (by omega) h1
theorem start_ev (s : List UInt8) (hs : s.length ≤ 4096) {ws : List Wd} (h : Lx s ws) : ∃ ls, E 28 [.str s] [] (.ref 0 0) [pc s ls 0 0 []] ∧ E 64 [.str s] [] (.tuple [.slice false 4 (ls.map Tk.pv), I 0]) [] ∧ Spelt s ws ls := by
  obtain ⟨ls, h1, h2⟩ := scan_ev s hs h;obtain ⟨h3, _⟩ := spelt_get h2;have hc := lx_count h
  have hk : ∀ t ∈ ls, t.k ≠ 4 := by
    intro t ht;obtain ⟨j, hj⟩ := List.getElem?_of_mem ht
    obtain ⟨w, hw, ho⟩ := spelt_all h2 (lx_ok h) hj;rw [hw.k];rcases ho with ho | rfl
    · simp only [wdOk, Bool.and_eq_true, decide_eq_true_eq] at ho;omega
    · decide
  have hl := start_loop s ls hk (by omega) ls.length 0 (by omega)
  have := r38 h1 hl;cases ls with
  | nil => simp at h3
  | cons t ts => exact ⟨t :: ts, this, h1, h2⟩
theorem sub_wrap {a b : Nat} (h : b ≤ a) (h2 : a ≤ 5000) : IntKind.i64.wrap (((a : Nat) : Int) - ((b : Nat) : Int)) = ((a - b : Nat) : Int) := by
  simp [IntKind.wrap, IntKind.bits, IntKind.signed]; omega
theorem lexical_ev (s : List UInt8) (hs : s.length ≤ 4096) {ws : List Wd} (h : Lx s ws) : E 52 [.str s] [] (.slice false 5 []) [] := by
  obtain ⟨ls, h1, h2⟩ := scan_ev s hs h;obtain ⟨h3, _⟩ := spelt_get h2;have hc := lx_count h
  have hl : ∀ (r j : Nat), j + r = ls.length → LE m47_0 l47_0 [(0, some (.str s)), (3, some (.slice true 5 (([] : List Dg).map Dg.pv))), (4, some (.slice false 4 (ls.map Tk.pv))), (6, some (N j))] [] (.exit 0) [(0, some (.str s)), (3, some (.slice true 5 (([] : List Dg).map Dg.pv)))] [] := by
    intro r
    induction r with
    | zero => intro j hj; exact r47_l0_out1 (by omega)
    | succ r ih =>
      intro j hj;obtain ⟨t, ht, _⟩ := drop_at (l := ls) (j := j) (by omega)
      obtain ⟨w, hw, ho⟩ := spelt_all h2 (lx_ok h) ht;have hlt : ((j : Nat) : Int) < ((ls.length : Nat) : Int) := by omega
      have e1 := e73 hw;have e2 := e72 w.2;have hi := ih (j + 1) (by omega)
      have hk := hw.k;have hsub := sub_wrap hw.le (by have := hw.len; omega)
      have hwl : w.2.length = t.e - t.a := by
        rw [← hw.word, List.length_take, List.length_drop];have := hw.len; omega
      have hk4 : ((t.k : Nat) : Int) ≠ 4 := by
        rcases ho with ho | rfl
        · simp only [wdOk, Bool.and_eq_true, decide_eq_true_eq] at ho;omega
        · simp at hk; omega
      by_cases h2' : w.1 = 2
      · have hn : numOk w.2 = true := by
          rcases ho with ho | rfl
          · simpa [wdOk, h2'] using ho
          · cases h2'
        rw [hn] at e2;exact r47_l0_next4 hlt ht e1 e2 ht hk4 ht (by omega) ht (by omega) (by omega) hi
      · by_cases h0 : w.1 = 0
        · have h16 : w.2.length ≤ 16 := by
            rcases ho with ho | rfl
            · simpa [wdOk, h0] using ho
            · cases h0
          exact r47_l0_next6 hlt ht e1 e2 ht hk4 ht (by omega) ht (by omega) ht ht hsub (by omega) (by omega) hi
        · exact r47_l0_next3 hlt ht e1 e2 ht hk4 ht (by omega) ht (by omega) (by omega) hi
  exact r47 (dl1 := []) h1 (hl ls.length 0 (by omega))
theorem end_ev {s : List UInt8} {ls : List Tk} {k p : Nat} (hs : s.length ≤ 4096) {ws : List Wd} (h : Lx s ws) {t : Tk} (ht : ls[k]? = some t) (hk : t.k = 5) : E 30 [.ref 0 0] [pc s ls k p []] (.slice false 5 []) [pc s ls k p []] :=
  r50_2 (dl1 := []) (dl2 := []) (r39 ht) (by omega) (lexical_ev s hs h) (r46e r46e_l0_out1)
end Go.Abs.Z

set_option linter.unusedSimpArgs false
set_option linter.unusedVariables false
namespace Go.Abs.Z
open Go.Proofs Go.RowKit
mutual
def bare : Tr → Tr
  | .mk k t _ _ _ ks => .mk k t 0 0 false (bares ks)
def bares : List Tr → List Tr
  | [] => []
  | t :: ts => bare t :: bares ts
end
theorem bares_map : ∀ ks : List Tr, bares ks = ks.map bare
  | [] => rfl
  | t :: ts => by rw [bares, bares_map ts]; rfl
theorem bare_eq (T : Tr) : bare T = .mk T.kind T.text 0 0 false (T.kids.map bare) := by
  obtain ⟨k, t, a, e, n, ks⟩ := T;rw [bare, bares_map]; rfl
theorem AqP {T : Tr} {kd : Int} {tx : List UInt8} {ks us : List Tr} {a e : Int} {n : Bool} (hk : T.kind = kd) (ht : T.text = tx) (hks : T.kids = ks) (h : us.map bare = ks.map bare) : bare (.mk kd tx a e n us) = bare T := by
  rw [bare_eq T, bare, bares_map, hk, ht, hks, h]
theorem wf_mk {kd : Int} {tx : List UInt8} {us : List Tr} {a e : Int} (h : ∀ u ∈ us, u.wf) : (Tr.mk kd tx a e false us).wf := by
  have : ∀ us : List Tr, (∀ u ∈ us, u.wf) → Tr.wfs us := by
    intro us
    induction us with
    | nil => intro _; trivial
    | cons u us ih => intro h; exact ⟨h u (List.mem_cons_self ..), ih fun v hv => h v (List.mem_cons_of_mem _ hv)⟩
  exact ⟨by simp, this us h⟩
theorem AjL {kd : Int} {tx : List UInt8} {a e : Int} : (Tr.mk kd tx a e true []).wf := ⟨fun _ => rfl, trivial⟩
structure AtW (s : List UInt8) (ls : List Tk) (k : Nat) (w : Wd) : Prop where
  t : ∃ t, ls[k]? = some t ∧ AtT s t w
  nil : w.1 = 5 → w.2 = []
  lt : k < 5000
def Sp (s : List UInt8) (ls : List Tk) : Nat → List Wd → Prop
  | _, [] => True
  | k, w :: ws => AtW s ls k w ∧ Sp s ls (k + 1) ws
theorem AxD {s : List UInt8} {ls : List Tk} : ∀ {a b : List Wd} {k : Nat}, Sp s ls k (a ++ b) ↔ Sp s ls k a ∧ Sp s ls (k + a.length) b
  | [], b, k => by simp [Sp]
  | x :: a, b, k => by
    show AtW s ls k x ∧ Sp s ls (k + 1) (a ++ b) ↔ (AtW s ls k x ∧ Sp s ls (k + 1) a) ∧ Sp s ls (k + (a.length + 1)) b;rw [AxD (a := a), and_assoc];have : k + 1 + a.length = k + (a.length + 1) := by omega
    rw [this]
def en (ls : List Tk) : Nat → Nat
  | 0 => 0
  | k + 1 => match ls[k]? with | some t => t.e | none => 0
abbrev pd (s : List UInt8) (ls : List Tk) (k : Nat) (D : List PV) : Sto := [pc s ls k (en ls k) D]
abbrev ps (s : List UInt8) (ls : List Tk) (k : Nat) : Sto := pd s ls k []
theorem en_s {ls : List Tk} {k : Nat} {t : Tk} (h : ls[k]? = some t) : en ls (k + 1) = t.e := by simp [en, h]
section
variable {s : List UInt8} {ls : List Tk} {k j : Nat} {w v : Wd} {D : List PV}
theorem e39 (h : AtW s ls k w) : E 44 [.ref 0 0] (pd s ls k D) (N w.1) (pd s ls k D) := by
  obtain ⟨t, ht, ha⟩ := h.t;have := r39 (s := s) (k := k) (p := en ls k) (D := D) ht
  rwa [ha.k] at this
theorem e64 (h : AtW s ls k w) : E 93 [.ref 0 0] (pd s ls k D) (.str w.2) (pd s ls k D) := by
  obtain ⟨t, ht, ha⟩ := h.t;exact r64 ht (e73 ha)
theorem e40 (h : AtW s ls k w) {x : List UInt8} (hx : x ≠ []) : E 45 [.ref 0 0, .str x] (pd s ls k D) (.bool (w.2 == x)) (pd s ls k D) := by
  by_cases h5 : w.1 = 5
  · have := r40_2 (w := x) (e39 (D := D) h) (by omega)
    rw [h.nil h5]
    have e : (([] : List UInt8) == x) = false := by
      cases x with
      | nil => exact absurd rfl hx
      | cons => rfl
    rw [e]; exact this
  · exact r40_1 (e39 h) (by omega) (e64 h)
theorem e40t (h : AtW s ls k w) {x : List UInt8} (hx : x ≠ []) (he : w.2 = x) : E 45 [.ref 0 0, .str x] (pd s ls k D) (.bool true) (pd s ls k D) := by
  have := e40 (D := D) h hx
  rwa [he, beq_self_eq_true] at this
theorem e40f (h : AtW s ls k w) {x : List UInt8} (hx : x ≠ []) (he : w.2 ≠ x) : E 45 [.ref 0 0, .str x] (pd s ls k D) (.bool false) (pd s ls k D) := by
  have := e40 (D := D) h hx
  rwa [beq_eq_false_iff_ne.2 he] at this
theorem e44 (h : AtW s ls k w) : E 49 [.ref 0 0] (pd s ls k D) (.str w.2) (pd s ls (k + 1) D) := by
  obtain ⟨t, ht, ha⟩ := h.t;have := r44 (e64 (k := k) (D := D) h) ht (by have := h.lt; omega)
  unfold pd;rw [en_s ht]; exact this
theorem e68t (h : AtW s ls k w) {x : List UInt8} (hx : x ≠ []) (he : w.2 = x) : E 65 [.ref 0 0, .str x] (pd s ls k D) (.bool true) (pd s ls (k + 1) D) := r68_1 (e40t h hx he) (e44 h)
theorem e68f (h : AtW s ls k w) {x : List UInt8} (hx : x ≠ []) (he : w.2 ≠ x) : E 65 [.ref 0 0, .str x] (pd s ls k D) (.bool false) (pd s ls k D) := r68_2 (e40f h hx he)
theorem e66t (h : AtW s ls k w) {x : List UInt8} (hx : x ≠ []) (he : w.2 = x) : E 68 [.ref 0 0, .str x] (pd s ls k D) (.bool true) (pd s ls (k + 1) D) := r66_1 (e68t h hx he)
theorem e65 (h : AtW s ls k w) (h0 : w.1 = 0) : E 66 [.ref 0 0] (pd s ls k D) (.str w.2) (pd s ls (k + 1) D) := r65_1 (e39 h) (by omega) (e44 h)
theorem e119 (hk : k < 5000) (h : AtW s ls (k + 1) v) : E 72 [.ref 0 0] (pd s ls k D) (.str v.2) (pd s ls k D) := by
  obtain ⟨t, ht, ha⟩ := h.t
  have hl : k + 1 < ls.length := by
    rcases Nat.lt_or_ge (k + 1) ls.length with h' | h'
    · exact h'
    · rw [List.getElem?_eq_none h'] at ht; cases ht
  exact r119_2 (by omega) (by omega) (by omega) ht (e73 ha)
theorem has_nil (l : Nat) : hasOp l [] = false := by
  match l with
  | 0 | 1 | 2 | 3 | 4 | 5 | 6 => rfl
  | n + 7 => rfl
theorem e76 (h : AtW s ls k w) {l : Nat} (hl : l = 1 ∨ l = 2 ∨ l = 4 ∨ l = 5 ∨ l = 6) : E 99 [.ref 0 0, N l] (pd s ls k D) (.bool (hasOp l w.2)) (pd s ls k D) := by
  by_cases h5 : w.1 = 5
  · rw [h.nil h5, has_nil];rcases hl with rfl | rfl | rfl | rfl | rfl
    · exact r76_1_2 (e39 h) (by omega)
    · exact r76_2_2 (e39 h) (by omega)
    · exact r76_4_2 (e39 h) (by omega)
    · exact r76_5_2 (e39 h) (by omega)
    · exact r76_6_2 (e39 h) (by omega)
  · rcases hl with rfl | rfl | rfl | rfl | rfl
    · exact r76_1_1 (e39 h) (by omega) (e64 h) (e28 (AqX 1) w.2 (by decide))
    · exact r76_2_1 (e39 h) (by omega) (e64 h) (e28 (AqX 2) w.2 (by decide))
    · exact r76_4_1 (e39 h) (by omega) (e64 h) (e28 (AqX 4) w.2 (by decide))
    · exact r76_5_1 (e39 h) (by omega) (e64 h) (e28 (AqX 5) w.2 (by decide))
    · exact r76_6_1 (e39 h) (by omega) (e64 h) (e28 (AqX 6) w.2 (by decide))
theorem e45 {f : Nat} (h : AtW s ls f w) (hf : f < k) (kd : Int) (tx : List UInt8) (us : List Tr) : ∃ a : Int, E 50 [.ref 0 0, N f, I kd, .str tx, .slice false 5 (Tr.pvs us)] (pd s ls k D) (Tr.mk kd tx a (en ls k : Nat) false us).pv (pd s ls k D) := by
  obtain ⟨t, ht, ha⟩ := h.t;cases us with
  | nil => exact ⟨_, r45_1 (us := []) (by omega) ht (by simp)⟩
  | cons U us =>
    by_cases h1 : U.st < (t.a : Int)
    · exact ⟨_, r45_3 (us := U :: us) (U1 := U) (U2 := U) (by omega) ht (by simp) rfl h1 rfl⟩
    · exact ⟨_, r45_4 (us := U :: us) (U1 := U) (by omega) ht (by simp) rfl h1⟩
theorem e45n {f : Nat} (h : AtW s ls f w) (hf : f < k) (kd : Int) (tx : List UInt8) : ∃ a : Int, E 50 [.ref 0 0, N f, I kd, .str tx, .nils] (pd s ls k D) (Tr.mk kd tx a (en ls k : Nat) true []).pv (pd s ls k D) := by
  obtain ⟨t, ht, ha⟩ := h.t;exact ⟨_, r45n_1 (by omega) ht⟩
theorem pvs1 (U : Tr) : Tr.pvs [U] = [U.pv] := by rw [Tr.pvs, Tr.pvs]
theorem pvs2 (U V : Tr) : Tr.pvs [U, V] = [U.pv, V.pv] := by rw [Tr.pvs, Tr.pvs, Tr.pvs]
theorem e45_1 {f : Nat} (h : AtW s ls f w) (hf : f < k) (kd : Int) (tx : List UInt8) (U : Tr) : ∃ a : Int, E 50 [.ref 0 0, N f, I kd, .str tx, .slice false 5 [U.pv]] (pd s ls k D) (Tr.mk kd tx a (en ls k : Nat) false [U]).pv (pd s ls k D) := by
  have := e45 (D := D) h hf kd tx [U]
  rwa [pvs1] at this
theorem e45_2 {f : Nat} (h : AtW s ls f w) (hf : f < k) (kd : Int) (tx : List UInt8) (U V : Tr) : ∃ a : Int, E 50 [.ref 0 0, N f, I kd, .str tx, .slice false 5 [U.pv, V.pv]] (pd s ls k D) (Tr.mk kd tx a (en ls k : Nat) false [U, V]).pv (pd s ls k D) := by
  have := e45 (D := D) h hf kd tx [U, V]
  rwa [pvs2] at this
end
def fol (L : Nat) (v : Wd) : Prop := (∀ l, L ≤ l → hasOp l v.2 = false) ∧ v.2 ≠ [40] ∧ v.2 ≠ [91] ∧ v.2 ≠ [46]
theorem fol.up {L M : Nat} {v : Wd} (h : fol L v) (hm : L ≤ M) : fol M v := ⟨fun l hl => h.1 l (by omega), h.2⟩
theorem has_no {x : List UInt8} (h : AqZ.contains x = false) (l : Nat) : hasOp l x = false := by
  cases hb : hasOp l x with
  | false => rfl
  | true =>
    exfalso
    have : AqZ.contains x = true := by
      revert hb
      match l with
      | 0 | 3 => simp [hasOp, AqX]
      | 1 | 2 => intro hb; simp [hasOp, AqX] at hb; subst hb; rfl
      | 4 => intro hb; simp [hasOp, AqX] at hb; rcases hb with rfl | rfl | rfl | rfl | rfl | rfl <;> rfl
      | 5 => intro hb; simp [hasOp, AqX] at hb; rcases hb with rfl | rfl <;> rfl
      | 6 => intro hb; simp [hasOp, AqX] at hb; rcases hb with rfl | rfl | rfl <;> rfl
      | n + 7 => simp [hasOp, AqX]
    rw [h] at this; cases this
theorem AzY {x : List UInt8} {L kd : Nat} (h : AqZ.contains x = false := by rfl) (h1 : x ≠ [40] := by decide) (h2 : x ≠ [91] := by decide) (h3 : x ≠ [46] := by decide) : fol L (kd, x) := ⟨fun l _ => has_no h l, h1, h2, h3⟩
theorem op_cases {t : List UInt8} (h : AqZ.contains t = true) : ∃ L : Nat, (L = 1 ∨ L = 2 ∨ L = 4 ∨ L = 5 ∨ L = 6) ∧ opLev t = some (L : Int) ∧ hasOp L t = true ∧ (∀ l, hasOp l t = true → l = L) ∧ t ≠ [40] ∧ t ≠ [91] ∧ t ≠ [46] ∧ t ≠ [] := by
  simp [AqZ] at h;rcases h with rfl | rfl | rfl | rfl | rfl | rfl | rfl | rfl | rfl | rfl | rfl | rfl | rfl
  · exact ⟨1, by simp, by rfl, rfl, fun l h => by match l, h with | 0, h | 1, h | 2, h | 3, h | 4, h | 5, h | 6, h => simp [hasOp, AqX] at h ⊢; | n + 7, h => simp [hasOp, AqX] at h, by decide, by decide, by decide, by decide⟩
  · exact ⟨2, by simp, by rfl, rfl, fun l h => by match l, h with | 0, h | 1, h | 2, h | 3, h | 4, h | 5, h | 6, h => simp [hasOp, AqX] at h ⊢; | n + 7, h => simp [hasOp, AqX] at h, by decide, by decide, by decide, by decide⟩
  · exact ⟨4, by simp, by rfl, rfl, fun l h => by match l, h with | 0, h | 1, h | 2, h | 3, h | 4, h | 5, h | 6, h => simp [hasOp, AqX] at h ⊢; | n + 7, h => simp [hasOp, AqX] at h, by decide, by decide, by decide, by decide⟩
  · exact ⟨4, by simp, by rfl, rfl, fun l h => by match l, h with | 0, h | 1, h | 2, h | 3, h | 4, h | 5, h | 6, h => simp [hasOp, AqX] at h ⊢; | n + 7, h => simp [hasOp, AqX] at h, by decide, by decide, by decide, by decide⟩
  · exact ⟨4, by simp, by rfl, rfl, fun l h => by match l, h with | 0, h | 1, h | 2, h | 3, h | 4, h | 5, h | 6, h => simp [hasOp, AqX] at h ⊢; | n + 7, h => simp [hasOp, AqX] at h, by decide, by decide, by decide, by decide⟩
  · exact ⟨4, by simp, by rfl, rfl, fun l h => by match l, h with | 0, h | 1, h | 2, h | 3, h | 4, h | 5, h | 6, h => simp [hasOp, AqX] at h ⊢; | n + 7, h => simp [hasOp, AqX] at h, by decide, by decide, by decide, by decide⟩
  · exact ⟨4, by simp, by rfl, rfl, fun l h => by match l, h with | 0, h | 1, h | 2, h | 3, h | 4, h | 5, h | 6, h => simp [hasOp, AqX] at h ⊢; | n + 7, h => simp [hasOp, AqX] at h, by decide, by decide, by decide, by decide⟩
  · exact ⟨4, by simp, by rfl, rfl, fun l h => by match l, h with | 0, h | 1, h | 2, h | 3, h | 4, h | 5, h | 6, h => simp [hasOp, AqX] at h ⊢; | n + 7, h => simp [hasOp, AqX] at h, by decide, by decide, by decide, by decide⟩
  · exact ⟨5, by simp, by rfl, rfl, fun l h => by match l, h with | 0, h | 1, h | 2, h | 3, h | 4, h | 5, h | 6, h => simp [hasOp, AqX] at h ⊢; | n + 7, h => simp [hasOp, AqX] at h, by decide, by decide, by decide, by decide⟩
  · exact ⟨5, by simp, by rfl, rfl, fun l h => by match l, h with | 0, h | 1, h | 2, h | 3, h | 4, h | 5, h | 6, h => simp [hasOp, AqX] at h ⊢; | n + 7, h => simp [hasOp, AqX] at h, by decide, by decide, by decide, by decide⟩
  · exact ⟨6, by simp, by rfl, rfl, fun l h => by match l, h with | 0, h | 1, h | 2, h | 3, h | 4, h | 5, h | 6, h => simp [hasOp, AqX] at h ⊢; | n + 7, h => simp [hasOp, AqX] at h, by decide, by decide, by decide, by decide⟩
  · exact ⟨6, by simp, by rfl, rfl, fun l h => by match l, h with | 0, h | 1, h | 2, h | 3, h | 4, h | 5, h | 6, h => simp [hasOp, AqX] at h ⊢; | n + 7, h => simp [hasOp, AqX] at h, by decide, by decide, by decide, by decide⟩
  · exact ⟨6, by simp, by rfl, rfl, fun l h => by match l, h with | 0, h | 1, h | 2, h | 3, h | 4, h | 5, h | 6, h => simp [hasOp, AqX] at h ⊢; | n + 7, h => simp [hasOp, AqX] at h, by decide, by decide, by decide, by decide⟩
theorem fol_op {t : List UInt8} (h : AqZ.contains t = true) {L : Nat} (hL : opLev t = some (L : Int)) : fol (L + 1) (opW t) := by
  obtain ⟨M, _, h2, _, h4, h5, h6, h7, _⟩ := op_cases h;rw [hL] at h2;have : L = M := by simp at h2; omega
  subst this;refine ⟨fun l hl => ?_, h5, h6, h7⟩
  show hasOp l t = false;cases hb : hasOp l t with
  | false => rfl
  | true => have := h4 l hb; omega
section
variable (s : List UInt8) (ls : List Tk)
def F49 (k L : Nat) (U : Tr) : FF := [(0, some (.ref 0 0)), (1, some (N L)), (4, some (.agg [I 0, .str [], I 0, I 0, .nils])), (5, some (N k)), (8, some U.pv)]
def Qx (L : Nat) (w : List Wd) (T : Tr) : Prop := ∀ k j v, Sp s ls k w → j = k + w.length → AtW s ls j v → fol L v → ∃ U : Tr, bare U = bare T ∧ U.wf ∧ E 54 [.ref 0 0, N L] (ps s ls k) U.pv (ps s ls j)
def Q8 (w : List Wd) (T : Tr) : Prop := ∀ k j v, Sp s ls k w → j = k + w.length → AtW s ls j v → fol 8 v → ∃ U : Tr, bare U = bare T ∧ U.wf ∧ E 98 [.ref 0 0] (ps s ls k) U.pv (ps s ls j)
def Cn (L : Nat) (w : List Wd) (T : Tr) : Prop := ∀ k j v, Sp s ls k w → j = k + w.length → AtW s ls j v → fol (L + 1) v → ∃ U : Tr, bare U = bare T ∧ U.wf ∧
  ∀ (U2 : Tr) (j2 : Nat), LE m49_0 l49_0 (F49 k L U) (ps s ls j) (.exit 1) (F49 k L U2) (ps s ls j2) → E 54 [.ref 0 0, N L] (ps s ls k) U2.pv (ps s ls j2)
def notH (x : List UInt8) : List Wd → Prop
  | [] => False
  | w :: _ => w.2 ≠ x
theorem notH_app {x : List UInt8} {a b : List Wd} (h : notH x a) : notH x (a ++ b) := by
  cases a with
  | nil => exact h.elim
  | cons => exact h
def P0 (L : Nat) (w : List Wd) (T : Tr) : Prop :=
  match L with
  | 1 => Cn s ls 1 w T
  | 2 => Cn s ls 2 w T
  | 3 => Qx s ls 3 w T
  | 4 => Qx s ls 4 w T
  | 5 => Cn s ls 5 w T
  | 6 => Cn s ls 6 w T
  | 7 => Qx s ls 7 w T
  | 8 => Q8 s ls w T
  | _ => False
structure PH (L : Nat) (w : List Wd) (T : Tr) : Prop where
  p : P0 s ls L w T
  ne : w ≠ []
  hn : 4 ≤ L → notH [110, 111, 116] w
  hm : 8 ≤ L → notH [45] w
  hc : notH [41] w
end
section
variable {s : List UInt8} {ls : List Tk} {w : List Wd} {T : Tr}
theorem c_1 (h : Qx s ls 2 w T) : Cn s ls 1 w T := by
  intro k j v hs hj hv hf;obtain ⟨U, h1, h2, h3⟩ := h k j v hs hj hv hf;exact ⟨U, h1, h2, fun U2 j2 hl => r49_1_1 h3 hl⟩
theorem q_1 (h : Cn s ls 1 w T) : Qx s ls 1 w T := by
  intro k j v hs hj hv hf;obtain ⟨U, h1, h2, h3⟩ := h k j v hs hj hv (hf.up (by omega))
  refine ⟨U, h1, h2, h3 U j (r49_1_l0_out1 (k := k) ?_)⟩
  have := e76 (D := []) hv (l := 1) (by omega)
  rwa [hf.1 1 (by omega)] at this
theorem c_2 (h : Qx s ls 3 w T) : Cn s ls 2 w T := by
  intro k j v hs hj hv hf;obtain ⟨U, h1, h2, h3⟩ := h k j v hs hj hv hf;exact ⟨U, h1, h2, fun U2 j2 hl => r49_2_1 h3 hl⟩
theorem q_2 (h : Cn s ls 2 w T) : Qx s ls 2 w T := by
  intro k j v hs hj hv hf;obtain ⟨U, h1, h2, h3⟩ := h k j v hs hj hv (hf.up (by omega))
  refine ⟨U, h1, h2, h3 U j (r49_2_l0_out1 (k := k) ?_)⟩
  have := e76 (D := []) hv (l := 2) (by omega)
  rwa [hf.1 2 (by omega)] at this
theorem c_5 (h : Qx s ls 6 w T) : Cn s ls 5 w T := by
  intro k j v hs hj hv hf;obtain ⟨U, h1, h2, h3⟩ := h k j v hs hj hv hf;exact ⟨U, h1, h2, fun U2 j2 hl => r49_5_1 h3 hl⟩
theorem q_5 (h : Cn s ls 5 w T) : Qx s ls 5 w T := by
  intro k j v hs hj hv hf;obtain ⟨U, h1, h2, h3⟩ := h k j v hs hj hv (hf.up (by omega))
  refine ⟨U, h1, h2, h3 U j (r49_5_l0_out1 (k := k) ?_)⟩
  have := e76 (D := []) hv (l := 5) (by omega)
  rwa [hf.1 5 (by omega)] at this
theorem c_6 (h : Qx s ls 7 w T) : Cn s ls 6 w T := by
  intro k j v hs hj hv hf;obtain ⟨U, h1, h2, h3⟩ := h k j v hs hj hv hf;exact ⟨U, h1, h2, fun U2 j2 hl => r49_6_1 h3 hl⟩
theorem q_6 (h : Cn s ls 6 w T) : Qx s ls 6 w T := by
  intro k j v hs hj hv hf;obtain ⟨U, h1, h2, h3⟩ := h k j v hs hj hv (hf.up (by omega))
  refine ⟨U, h1, h2, h3 U j (r49_6_l0_out1 (k := k) ?_)⟩
  have := e76 (D := []) hv (l := 6) (by omega)
  rwa [hf.1 6 (by omega)] at this
theorem q_4 (h : Qx s ls 5 w T) : Qx s ls 4 w T := by
  intro k j v hs hj hv hf;obtain ⟨U, h1, h2, h3⟩ := h k j v hs hj hv (hf.up (by omega))
  refine ⟨U, h1, h2, r49_4_1 h3 (r49_4_l0_out2 (k := k) ?_)⟩
  have := e76 (D := []) hv (l := 4) (by omega)
  rwa [hf.1 4 (by omega)] at this
theorem q_3 (h : Qx s ls 4 w T) (hn : notH [110, 111, 116] w) : Qx s ls 3 w T := by
  intro k j v hs hj hv hf;obtain ⟨U, h1, h2, h3⟩ := h k j v hs hj hv (hf.up (by omega))
  refine ⟨U, h1, h2, ?_⟩
  cases w with
  | nil => exact hn.elim
  | cons x w => exact r49_3_2 (e68f hs.1 (by decide) hn) h3
theorem q_7 (h : Q8 s ls w T) (hn : notH [45] w) : Qx s ls 7 w T := by
  intro k j v hs hj hv hf;obtain ⟨U, h1, h2, h3⟩ := h k j v hs hj hv (hf.up (by omega))
  refine ⟨U, h1, h2, ?_⟩
  cases w with
  | nil => exact hn.elim
  | cons x w => exact r49_7_2 (e68f hs.1 (by decide) hn) h3
theorem q_of {L : Nat} (h : PH s ls L w T) (h1 : 1 ≤ L) (h7 : L ≤ 7) : Qx s ls L w T := by
  match L, h1, h7 with
  | 1, _, _ => exact q_1 h.p
  | 2, _, _ => exact q_2 h.p
  | 3, _, _ => exact h.p
  | 4, _, _ => exact h.p
  | 5, _, _ => exact q_5 h.p
  | 6, _, _ => exact q_6 h.p
  | 7, _, _ => exact h.p
theorem down1 {L : Nat} (h : PH s ls (L + 1) w T) (h1 : 1 ≤ L) (h7 : L ≤ 7) : PH s ls L w T := by
  refine ⟨?_, h.ne, fun hl => h.hn (by omega), fun hl => h.hm (by omega), h.hc⟩
  match L, h1, h7 with
  | 1, _, _ => exact c_1 (q_of h (by omega) (by omega))
  | 2, _, _ => exact c_2 (q_of h (by omega) (by omega))
  | 3, _, _ => exact q_3 (q_of h (by omega) (by omega)) (h.hn (by omega))
  | 4, _, _ => exact q_4 (q_of h (by omega) (by omega))
  | 5, _, _ => exact c_5 (q_of h (by omega) (by omega))
  | 6, _, _ => exact c_6 (q_of h (by omega) (by omega))
  | 7, _, _ => exact q_7 h.p (h.hm (by omega))
theorem down {M : Nat} (hM : M ≤ 8) : ∀ {L : Nat}, PH s ls M w T → 1 ≤ L → L ≤ M → PH s ls L w T := by
  induction M with
  | zero => intro L _ h1 h2; omega
  | succ M ih =>
    intro L h h1 h2;rcases Nat.lt_or_ge M L with h' | h'
    · have : L = M + 1 := by omega
      subst this; exact h
    · exact ih (by omega) (down1 h (by omega) (by omega)) h1 h'
variable {A B : Tr} {a b : List Wd} {o : List UInt8}
theorem bin_1 (hA : Cn s ls 1 a A) (ha : a ≠ []) (hB : Qx s ls 2 b B) (ho : AqZ.contains o = true) (hl : opLev o = some 1) (hk : T.kind = 29) (ht : T.text = o) (hks : T.kids = [A, B]) : Cn s ls 1 (a ++ ([opW o] ++ b)) T := by
  intro k j v hs hj hv hf;obtain ⟨ha1, hs2⟩ := AxD.1 hs;obtain ⟨ho1, hb1⟩ := AxD.1 hs2;have ho2 : AtW s ls (k + a.length) (opW o) := ho1.1
  obtain ⟨x, a', rfl⟩ : ∃ x a', a = x :: a' := by
    cases a with
    | nil => exact absurd rfl ha
    | cons x a' => exact ⟨x, a', rfl⟩
  have hx : AtW s ls k x := ha1.1;obtain ⟨U, h1, h2, h3⟩ := hA k _ _ ha1 rfl ho2 (fol_op ho hl);obtain ⟨V, g1, g2, g3⟩ := hB _ j v hb1 (by simp only [List.length_append, List.length_cons, List.length_nil] at hj ⊢; omega) hv hf
  obtain ⟨c, hc⟩ := e45_2 (f := k) (k := j) hx (by simp only [List.length_append, List.length_cons, List.length_nil] at hj ⊢; omega) 29 o U V
  refine ⟨_, AqP hk ht hks (by simp [h1, g1]), wf_mk (by simp [h2, g2]), fun U2 j2 hl2 => h3 U2 j2 (r49_1_l0_next1 (k := k) ?_ (e44 ho2) g3 hc hl2)⟩
  have := e76 (D := []) ho2 (l := 1) (by omega)
  obtain ⟨M, _, q2, q3, _⟩ := op_cases ho;rw [hl] at q2;have hM : M = 1 := by have := Option.some.inj q2; omega
  subst hM
  rwa [show hasOp 1 (opW o).2 = true from q3] at this
theorem bin_2 (hA : Cn s ls 2 a A) (ha : a ≠ []) (hB : Qx s ls 3 b B) (ho : AqZ.contains o = true) (hl : opLev o = some 2) (hk : T.kind = 29) (ht : T.text = o) (hks : T.kids = [A, B]) : Cn s ls 2 (a ++ ([opW o] ++ b)) T := by
  intro k j v hs hj hv hf;obtain ⟨ha1, hs2⟩ := AxD.1 hs;obtain ⟨ho1, hb1⟩ := AxD.1 hs2;have ho2 : AtW s ls (k + a.length) (opW o) := ho1.1
  obtain ⟨x, a', rfl⟩ : ∃ x a', a = x :: a' := by
    cases a with
    | nil => exact absurd rfl ha
    | cons x a' => exact ⟨x, a', rfl⟩
  have hx : AtW s ls k x := ha1.1;obtain ⟨U, h1, h2, h3⟩ := hA k _ _ ha1 rfl ho2 (fol_op ho hl);obtain ⟨V, g1, g2, g3⟩ := hB _ j v hb1 (by simp only [List.length_append, List.length_cons, List.length_nil] at hj ⊢; omega) hv hf
  obtain ⟨c, hc⟩ := e45_2 (f := k) (k := j) hx (by simp only [List.length_append, List.length_cons, List.length_nil] at hj ⊢; omega) 29 o U V
  refine ⟨_, AqP hk ht hks (by simp [h1, g1]), wf_mk (by simp [h2, g2]), fun U2 j2 hl2 => h3 U2 j2 (r49_2_l0_next1 (k := k) ?_ (e44 ho2) g3 hc hl2)⟩
  have := e76 (D := []) ho2 (l := 2) (by omega)
  obtain ⟨M, _, q2, q3, _⟩ := op_cases ho;rw [hl] at q2;have hM : M = 2 := by have := Option.some.inj q2; omega
  subst hM
  rwa [show hasOp 2 (opW o).2 = true from q3] at this
theorem bin_5 (hA : Cn s ls 5 a A) (ha : a ≠ []) (hB : Qx s ls 6 b B) (ho : AqZ.contains o = true) (hl : opLev o = some 5) (hk : T.kind = 29) (ht : T.text = o) (hks : T.kids = [A, B]) : Cn s ls 5 (a ++ ([opW o] ++ b)) T := by
  intro k j v hs hj hv hf;obtain ⟨ha1, hs2⟩ := AxD.1 hs;obtain ⟨ho1, hb1⟩ := AxD.1 hs2;have ho2 : AtW s ls (k + a.length) (opW o) := ho1.1
  obtain ⟨x, a', rfl⟩ : ∃ x a', a = x :: a' := by
    cases a with
    | nil => exact absurd rfl ha
    | cons x a' => exact ⟨x, a', rfl⟩
  have hx : AtW s ls k x := ha1.1;obtain ⟨U, h1, h2, h3⟩ := hA k _ _ ha1 rfl ho2 (fol_op ho hl);obtain ⟨V, g1, g2, g3⟩ := hB _ j v hb1 (by simp only [List.length_append, List.length_cons, List.length_nil] at hj ⊢; omega) hv hf
  obtain ⟨c, hc⟩ := e45_2 (f := k) (k := j) hx (by simp only [List.length_append, List.length_cons, List.length_nil] at hj ⊢; omega) 29 o U V
  refine ⟨_, AqP hk ht hks (by simp [h1, g1]), wf_mk (by simp [h2, g2]), fun U2 j2 hl2 => h3 U2 j2 (r49_5_l0_next1 (k := k) ?_ (e44 ho2) g3 hc hl2)⟩
  have := e76 (D := []) ho2 (l := 5) (by omega)
  obtain ⟨M, _, q2, q3, _⟩ := op_cases ho;rw [hl] at q2;have hM : M = 5 := by have := Option.some.inj q2; omega
  subst hM
  rwa [show hasOp 5 (opW o).2 = true from q3] at this
theorem bin_6 (hA : Cn s ls 6 a A) (ha : a ≠ []) (hB : Qx s ls 7 b B) (ho : AqZ.contains o = true) (hl : opLev o = some 6) (hk : T.kind = 29) (ht : T.text = o) (hks : T.kids = [A, B]) : Cn s ls 6 (a ++ ([opW o] ++ b)) T := by
  intro k j v hs hj hv hf;obtain ⟨ha1, hs2⟩ := AxD.1 hs;obtain ⟨ho1, hb1⟩ := AxD.1 hs2;have ho2 : AtW s ls (k + a.length) (opW o) := ho1.1
  obtain ⟨x, a', rfl⟩ : ∃ x a', a = x :: a' := by
    cases a with
    | nil => exact absurd rfl ha
    | cons x a' => exact ⟨x, a', rfl⟩
  have hx : AtW s ls k x := ha1.1;obtain ⟨U, h1, h2, h3⟩ := hA k _ _ ha1 rfl ho2 (fol_op ho hl);obtain ⟨V, g1, g2, g3⟩ := hB _ j v hb1 (by simp only [List.length_append, List.length_cons, List.length_nil] at hj ⊢; omega) hv hf
  obtain ⟨c, hc⟩ := e45_2 (f := k) (k := j) hx (by simp only [List.length_append, List.length_cons, List.length_nil] at hj ⊢; omega) 29 o U V
  refine ⟨_, AqP hk ht hks (by simp [h1, g1]), wf_mk (by simp [h2, g2]), fun U2 j2 hl2 => h3 U2 j2 (r49_6_l0_next1 (k := k) ?_ (e44 ho2) g3 hc hl2)⟩
  have := e76 (D := []) ho2 (l := 6) (by omega)
  obtain ⟨M, _, q2, q3, _⟩ := op_cases ho;rw [hl] at q2;have hM : M = 6 := by have := Option.some.inj q2; omega
  subst hM
  rwa [show hasOp 6 (opW o).2 = true from q3] at this
theorem bin_4 (hA : Qx s ls 5 a A) (ha : a ≠ []) (hB : Qx s ls 5 b B) (ho : AqZ.contains o = true) (hl : opLev o = some 4) (hk : T.kind = 29) (ht : T.text = o) (hks : T.kids = [A, B]) : Qx s ls 4 (a ++ ([opW o] ++ b)) T := by
  intro k j v hs hj hv hf;obtain ⟨ha1, hs2⟩ := AxD.1 hs;obtain ⟨ho1, hb1⟩ := AxD.1 hs2;have ho2 : AtW s ls (k + a.length) (opW o) := ho1.1
  obtain ⟨x, a', rfl⟩ : ∃ x a', a = x :: a' := by
    cases a with
    | nil => exact absurd rfl ha
    | cons x a' => exact ⟨x, a', rfl⟩
  have hx : AtW s ls k x := ha1.1;obtain ⟨U, h1, h2, h3⟩ := hA k _ _ ha1 rfl ho2 (fol_op ho hl);obtain ⟨V, g1, g2, g3⟩ := hB _ j v hb1 (by simp only [List.length_append, List.length_cons, List.length_nil] at hj ⊢; omega) hv (hf.up (by omega))
  obtain ⟨c, hc⟩ := e45_2 (f := k) (k := j) hx (by simp only [List.length_append, List.length_cons, List.length_nil] at hj ⊢; omega) 29 o U V
  refine ⟨_, AqP hk ht hks (by simp [h1, g1]), wf_mk (by simp [h2, g2]), r49_4_2 h3 (r49_4_l0_out1 (k := k) ?_ (e44 ho2) g3 hc)⟩
  have := e76 (D := []) ho2 (l := 4) (by omega)
  obtain ⟨M, _, q2, q3, _⟩ := op_cases ho;rw [hl] at q2;have hM : M = 4 := by have := Option.some.inj q2; omega
  subst hM
  rwa [show hasOp 4 (opW o).2 = true from q3] at this
theorem not_3 (hB : Qx s ls 3 b B) (hk : T.kind = 28) (ht : T.text = [110, 111, 116]) (hks : T.kids = [B]) : Qx s ls 3 (kwW [110, 111, 116] :: b) T := by
  intro k j v hs hj hv hf;obtain ⟨V, g1, g2, g3⟩ := hB _ j v hs.2 (by simp only [List.length_append, List.length_cons, List.length_nil] at hj ⊢; omega) hv hf
  obtain ⟨c, hc⟩ := e45_1 (f := k) (k := j) hs.1 (by simp only [List.length_append, List.length_cons, List.length_nil] at hj ⊢; omega) 28 [110, 111, 116] V
  exact ⟨_, AqP hk ht hks (by simp [g1]), wf_mk (by simp [g2]), r49_3_1 (e68t hs.1 (by decide) rfl) g3 hc⟩
theorem neg_7 (hB : Qx s ls 7 b B) (hk : T.kind = 28) (ht : T.text = [45]) (hks : T.kids = [B]) : Qx s ls 7 (symW 45 :: b) T := by
  intro k j v hs hj hv hf;obtain ⟨V, g1, g2, g3⟩ := hB _ j v hs.2 (by simp only [List.length_append, List.length_cons, List.length_nil] at hj ⊢; omega) hv hf
  obtain ⟨c, hc⟩ := e45_1 (f := k) (k := j) hs.1 (by simp only [List.length_append, List.length_cons, List.length_nil] at hj ⊢; omega) 28 [45] V
  exact ⟨_, AqP hk ht hks (by simp [g1]), wf_mk (by simp [g2]), r49_7_1 (e68t hs.1 (by decide) rfl) g3 hc⟩
end
end Go.Abs.Z

namespace Go.Abs.Z
open Go.Proofs Go.RowKit
theorem numb_118 {x : List UInt8} (h : AxU x = true) : E 150 [.str x] [] (.str x) [] := by
  simp only [AxU, Bool.and_eq_true, Bool.or_eq_true, beq_iff_eq, bne_iff_ne] at h;refine r118 ?_
  by_cases h1 : (x.length : Int) > 1
  · rcases h.2 with rfl | h2
    · exact absurd h1 (by decide)
    · cases x with
      | nil => simp at h1
      | cons c x => exact r118_l0_out2 h1 (c2 := c) rfl h2
  · exact r118_l0_out1 h1
theorem Ax3 {x y : List UInt8} (h : nameB x = true) (hy : nameB y = false) : x ≠ y := by
  rintro rfl; rw [h] at hy; cases hy
section
variable {s : List UInt8} {ls : List Tk} {k j : Nat} {w v : Wd} {T U V A B : Tr} {b : List Wd}
theorem e122 (h : AtW s ls k w) (h0 : w.1 = 0) : ∃ a : Int, E 134 [.ref 0 0] (ps s ls k) (Tr.mk 20 w.2 a (en ls (k + 1) : Nat) true []).pv (ps s ls (k + 1)) := by
  obtain ⟨a, ha⟩ := e45n (f := k) (k := k + 1) h (by omega) 20 w.2
  exact ⟨a, r122 (e65 h h0) ha⟩
theorem e75_name (h : AtW s ls k w) (h0 : w.1 = 0) (hn : nameB w.2 = true) (hv : AtW s ls (k + 1) v) (hf : v.2 ≠ [40]) (h7 : E 74 [.ref 0 0] (ps s ls k) U.pv (ps s ls j)) : E 98 [.ref 0 0] (ps s ls k) U.pv (ps s ls j) :=
  r75_6 (e39 h) (by omega) (e40f h (by decide) (Ax3 hn rfl)) (e40f h (by decide) (Ax3 hn rfl)) (e39 h) (by omega) (e119 h.lt hv) hf (e39 h) (by omega) h7
theorem q8_20 (hk : T.kind = 20) (hks : T.kids = []) (hn : nameB T.text = true) : Q8 s ls [(0, T.text)] T := by
  intro k j v hs hj hv hf;have e : j = k + 1 := hj;subst e;obtain ⟨a, ha⟩ := e122 hs.1 rfl;exact ⟨_, AqP hk rfl hks rfl, AjL, e75_name hs.1 rfl hn hv hf.2.1 (r121_3 ha (e68f hv (by decide) hf.2.2.1) (e68f hv (by decide) hf.2.2.2))⟩
theorem q8_21 (hk : T.kind = 21) (ht : T.text = []) (hks : T.kids = [A, B]) (hA : A.kind = 20) (hAk : A.kids = []) (hn : nameB A.text = true) (hB : Qx s ls 1 b B) : Q8 s ls ((0, A.text) :: symW 91 :: (b ++ [symW 93])) T := by
  intro k j v hs hj hv hf;obtain ⟨h1, h2, h3⟩ := hs;obtain ⟨h4, h5, _⟩ := AxD.1 h3
  have e : j = k + 1 + 1 + b.length + 1 := by
    simp only [List.length_append, List.length_cons, List.length_nil] at hj; omega
  subst e;obtain ⟨a, ha⟩ := e122 h1 rfl;obtain ⟨V, g1, g2, g3⟩ := hB _ _ _ h4 rfl h5 (AzY);obtain ⟨c, hc⟩ := e45_2 (f := k) (k := k + 1 + 1 + b.length + 1) h1 (by omega) 21 [] (Tr.mk 20 A.text a (en ls (k + 1) : Nat) true []) V
  exact ⟨_, AqP hk ht hks (by simp [g1, AqP hA rfl hAk rfl]), wf_mk (by simp [g2, AjL]), e75_name h1 rfl hn h2 (by decide) (r121_1 ha (e68t h2 (by decide) rfl) g3 (e66t h5 (by decide) rfl) hc)⟩
theorem q8_22 (hk : T.kind = 22) (hks : T.kids = [A]) (hA : A.kind = 20) (hAk : A.kids = []) (hn : nameB A.text = true) : Q8 s ls ((0, A.text) :: symW 46 :: [(0, T.text)]) T := by
  intro k j v hs hj hv hf;obtain ⟨h1, h2, h3, _⟩ := hs;have e : j = k + 1 + 1 + 1 := hj;subst e;obtain ⟨a, ha⟩ := e122 h1 rfl;obtain ⟨c, hc⟩ := e45_1 (f := k) (k := k + 1 + 1 + 1) h1 (by omega) 22 T.text (Tr.mk 20 A.text a (en ls (k + 1) : Nat) true [])
  exact ⟨_, AqP hk rfl hks (by simp [AqP hA rfl hAk rfl]), wf_mk (by simp [AjL]), e75_name h1 rfl hn h2 (by decide) (r121_2 ha (e68f h2 (by decide) (by decide)) (e68t h2 (by decide) rfl) (e65 h3 rfl) hc)⟩
theorem q8_23 (hk : T.kind = 23) (ht : T.text = []) (hks : T.kids = [A]) (hA : A.kind = 20) (hAk : A.kids = []) : Q8 s ls (kwW [108, 101, 110] :: symW 40 :: (0, A.text) :: [symW 41]) T := by
  intro k j v hs hj hv hf;obtain ⟨h1, h2, h3, h4, _⟩ := hs;have e : j = k + 1 + 1 + 1 + 1 := hj;subst e;obtain ⟨a, ha⟩ := e122 h3 rfl;obtain ⟨c, hc⟩ := e45_1 (f := k) (k := k + 1 + 1 + 1 + 1) h1 (by omega) 23 [] (Tr.mk 20 A.text a (en ls (k + 1 + 1 + 1) : Nat) true [])
  exact ⟨_, AqP hk ht hks (by simp [AqP hA rfl hAk rfl]), wf_mk (by simp [AjL]), r75_9 (e39 h1) (by decide) (e40f h1 (by decide) (by decide)) (e40f h1 (by decide) (by decide)) (e39 h1) (by decide) (e39 h1) (by decide) (e68f h1 (by decide) (by decide)) (e68t h1 (by decide) rfl) (e66t h2 (by decide) rfl) ha (e66t h4 (by decide) rfl) hc⟩
theorem q8_24 (hk : T.kind = 24) (hks : T.kids = []) (hn : AxU T.text = true) : Q8 s ls [(2, T.text)] T := by
  intro k j v hs hj hv hf;have e : j = k + 1 := hj;subst e;obtain ⟨a, ha⟩ := e45n (f := k) (k := k + 1) hs.1 (by omega) 24 T.text
  exact ⟨_, AqP hk rfl hks rfl, AjL, r75_1 (e39 hs.1) rfl (e44 hs.1) (numb_118 hn) ha⟩
theorem q8_25 (hk : T.kind = 25) (hks : T.kids = []) (hn : T.text = [116, 114, 117, 101] ∨ T.text = [102, 97, 108, 115, 101]) : Q8 s ls [(1, T.text)] T := by
  intro k j v hs hj hv hf;have e : j = k + 1 := hj;subst e;obtain ⟨a, ha⟩ := e45n (f := k) (k := k + 1) hs.1 (by omega) 25 T.text
  have hd : (((1 : Nat) : Nat) : Int) ≠ 2 := by decide
  refine ⟨Tr.mk 25 T.text a (en ls (k + 1) : Nat) true [], AqP hk rfl hks rfl, AjL, ?_⟩
  rcases hn with h | h
  · exact r75_2 (e39 hs.1) hd (e40t hs.1 (by decide) h) (e44 hs.1) ha
  · exact r75_3 (e39 hs.1) hd (e40f hs.1 (by decide) (by show T.text ≠ _; rw [h]; decide)) (e40t hs.1 (by decide) h) (e44 hs.1) ha
theorem q8_par (hB : Qx s ls 1 b B) : Q8 s ls (symW 40 :: (b ++ [symW 41])) B := by
  intro k j v hs hj hv hf;obtain ⟨h1, h3⟩ := hs;obtain ⟨h4, h5, _⟩ := AxD.1 h3
  have e : j = k + 1 + b.length + 1 := by
    simp only [List.length_append, List.length_cons, List.length_nil] at hj; omega
  subst e;obtain ⟨V, g1, g2, g3⟩ := hB _ _ _ h4 rfl h5 (AzY);exact ⟨V, g1, g2, r75_11 (e39 h1) (by decide) (e40f h1 (by decide) (by decide)) (e40f h1 (by decide) (by decide)) (e39 h1) (by decide) (e39 h1) (by decide) (e68f h1 (by decide) (by decide)) (e68f h1 (by decide) (by decide)) (e68t h1 (by decide) rfl) g3 (e66t h5 (by decide) rfl)⟩
def tailW : List (Int × List Wd) → List Wd
  | [] => []
  | x :: l => symW 44 :: (x.2 ++ tailW l)
theorem commas_tail : ∀ (l : List (Int × List Wd)) (x : Int × List Wd), AxE (x :: l) = x.2 ++ tailW l
  | [], x => by simp [AxE, tailW]
  | y :: l, x => by
    rw [tailW, ← commas_tail l y]; rfl
variable (s ls) in
def Ar : List Tr → List (Int × List Wd) → Prop
  | [], [] => True
  | U :: us, x :: l => Qx s ls 1 x.2 U ∧ notH [41] x.2 ∧ Ar us l
  | _, _ => False
theorem next_tail {l : List (Int × List Wd)} (hs : Sp s ls k (tailW l)) (hj : j = k + (tailW l).length) (hv : AtW s ls j v) (hf : fol 1 v) : ∃ v', AtW s ls k v' ∧ fol 1 v' := by
  cases l with
  | nil => exact ⟨v, by rw [hj] at hv; exact hv, hf⟩
  | cons x l => exact ⟨_, hs.1, AzY⟩
theorem args_120 : ∀ {vs : List Tr} {l : List (Int × List Wd)} (ts : List Tr) {k : Nat}, Ar s ls vs l → Sp s ls k (tailW l) → j = k + (tailW l).length → AtW s ls j v → v.2 ≠ [44] → fol 1 v → ts.length + vs.length ≤ Ax1 →
    ∃ us : List Tr, us.map bare = vs.map bare ∧ (∀ u ∈ us, u.wf) ∧ LE m120_0 l120_0 [(0, some (.ref 0 0)), (3, some (.slice true 5 (Tr.pvs ts)))] (ps s ls k) (.exit 0) [(0, some (.ref 0 0)), (3, some (.slice true 5 (Tr.pvs (ts ++ us))))] (ps s ls j)
  | [], [], ts, k, _, _, hj, hv, hne, _, _ => by
    have e : j = k := hj;subst e;refine ⟨[], rfl, by simp, ?_⟩
    rw [List.append_nil];exact r120_l0_out1 (e68f hv (by decide) hne)
  | U :: vs, x :: l, ts, k, ha, hs, hj, hv, hne, hf, hl => by
    obtain ⟨h1, h2⟩ := hs;obtain ⟨h3, h4⟩ := AxD.1 h2
    have e : j = k + 1 + x.2.length + (tailW l).length := by
      simp only [tailW, List.length_append, List.length_cons] at hj; omega
    obtain ⟨v', q1, q2⟩ := next_tail h4 e hv hf;obtain ⟨V, g1, g2, g3⟩ := ha.1 _ _ _ h3 rfl q1 q2;obtain ⟨us, p1, p2, p3⟩ := args_120 (ts ++ [V]) ha.2.2 h4 e hv hne hf (by simp at hl ⊢; omega)
    rw [List.append_assoc] at p3;exact ⟨V :: us, by simp [g1, p1], by simpa [g2] using p2, r120_l0_next1 (e68t h1 (by decide) rfl) g3 (by simp at hl; omega) p3⟩
  | [], _ :: _, _, _, h, _, _, _, _, _, _ => h.elim
  | _ :: _, [], _, _, h, _, _, _, _, _, _ => h.elim
def F75 (f : Nat) (ts : List Tr) : FF := [(0, some (.ref 0 0)), (2, some (.agg [I 0, .str [], I 0, I 0, .nils])), (3, some (N f)), (6, some (.slice true 5 (Tr.pvs ts)))]
theorem args_75 {f : Nat} : ∀ {vs : List Tr} {l : List (Int × List Wd)} (ts : List Tr) {k : Nat}, Ar s ls vs l → Sp s ls k (tailW l) → j = k + (tailW l).length → AtW s ls j v → v.2 ≠ [44] → fol 1 v → ts.length + vs.length ≤ Ax1 →
    ∃ us : List Tr, us.map bare = vs.map bare ∧ (∀ u ∈ us, u.wf) ∧ LE m75_0 l75_0 (F75 f ts) (ps s ls k) (.exit 1) (F75 f (ts ++ us)) (ps s ls j)
  | [], [], ts, k, _, _, hj, hv, hne, _, _ => by
    have e : j = k := hj;subst e;refine ⟨[], rfl, by simp, ?_⟩
    rw [List.append_nil];exact r75_l0_out1 (e68f hv (by decide) hne)
  | U :: vs, x :: l, ts, k, ha, hs, hj, hv, hne, hf, hl => by
    obtain ⟨h1, h2⟩ := hs;obtain ⟨h3, h4⟩ := AxD.1 h2
    have e : j = k + 1 + x.2.length + (tailW l).length := by
      simp only [tailW, List.length_append, List.length_cons] at hj; omega
    obtain ⟨v', q1, q2⟩ := next_tail h4 e hv hf;obtain ⟨V, g1, g2, g3⟩ := ha.1 _ _ _ h3 rfl q1 q2;obtain ⟨us, p1, p2, p3⟩ := args_75 (f := f) (ts ++ [V]) ha.2.2 h4 e hv hne hf (by simp at hl ⊢; omega)
    rw [List.append_assoc] at p3;exact ⟨V :: us, by simp [g1, p1], by simpa [g2] using p2, r75_l0_next1 (e68t h1 (by decide) rfl) g3 (by simp at hl; omega) p3⟩
  | [], _ :: _, _, _, h, _, _, _, _, _, _ => h.elim
  | _ :: _, [], _, _, h, _, _, _, _, _, _ => h.elim
theorem q8_26 {l : List (Int × List Wd)} {x : Int × List Wd} (hk : T.kind = 26) (ht : T.text = []) (ha : Ar s ls T.kids (x :: l)) (hl : T.kids.length ≤ Ax1) : Q8 s ls (symW 91 :: (AxE (x :: l) ++ [symW 93])) T := by
  intro k j v hs hj hv hf;obtain ⟨h1, h2⟩ := hs;rw [commas_tail] at h2 hj;obtain ⟨h3, h4, _⟩ := AxD.1 h2;obtain ⟨h5, h6⟩ := AxD.1 h3
  obtain ⟨U, vs, hks⟩ : ∃ U vs, T.kids = U :: vs := by
    cases h : T.kids with
    | nil => rw [h] at ha; exact ha.elim
    | cons U vs => exact ⟨U, vs, rfl⟩
  rw [hks] at ha hl
  have e : j = k + 1 + (x.2 ++ tailW l).length + 1 := by
    simp only [List.length_append, List.length_cons, List.length_nil] at hj ⊢; omega
  subst e
  have e2 : k + 1 + (x.2 ++ tailW l).length = k + 1 + x.2.length + (tailW l).length := by
    simp only [List.length_append]; omega
  obtain ⟨v', q1, q2⟩ := next_tail h6 e2 h4 AzY;obtain ⟨V, g1, g2, g3⟩ := ha.1 _ _ _ h5 rfl q1 q2;obtain ⟨us, p1, p2, p3⟩ := args_75 (f := k) [V] ha.2.2 h6 e2 h4 (by decide) AzY (by simp at hl ⊢; omega)
  obtain ⟨c, hc⟩ := e45 (f := k) (k := k + 1 + (x.2 ++ tailW l).length + 1) h1 (by omega) 26 [] ([V] ++ us)
  unfold F75 at p3;rw [pvs1] at p3;exact ⟨_, AqP hk ht hks (by simp [g1, p1]), wf_mk (by simpa [g2] using p2), r75_7 (e39 h1) (by decide) (e40f h1 (by decide) (by decide)) (e40f h1 (by decide) (by decide)) (e39 h1) (by decide) (e39 h1) (by decide) (e68t h1 (by decide) rfl) g3 p3 (e66t h4 (by decide) rfl) hc⟩
theorem e75_call {ts : List Tr} (h : AtW s ls k w) (h0 : w.1 = 0) (hn : nameB w.2 = true) (hv : AtW s ls (k + 1) v) (hf : v.2 = [40]) (h7 : E 73 [.ref 0 0] (ps s ls (k + 1)) (.slice false 5 (Tr.pvs ts)) (ps s ls j)) (h8 : E 50 [.ref 0 0, N k, I 27, .str w.2, .slice false 5 (Tr.pvs ts)] (ps s ls j) U.pv (ps s ls j)) : E 98 [.ref 0 0] (ps s ls k) U.pv (ps s ls j) :=
  r75_4 (e39 h) (by omega) (e40f h (by decide) (Ax3 hn rfl)) (e40f h (by decide) (Ax3 hn rfl)) (e39 h) (by omega) (e119 h.lt hv) hf (e44 h) h7 h8
theorem q8_27 {l : List (Int × List Wd)} (hk : T.kind = 27) (hn : nameB T.text = true) (ha : Ar s ls T.kids l) (hl : T.kids.length ≤ Ax1) : Q8 s ls ((0, T.text) :: symW 40 :: (AxE l ++ [symW 41])) T := by
  intro k j v hs hj hv hf;obtain ⟨h1, h2, h3⟩ := hs;obtain ⟨h4, h5, _⟩ := AxD.1 h3
  have e : j = k + 1 + 1 + (AxE l).length + 1 := by
    simp only [List.length_append, List.length_cons, List.length_nil] at hj ⊢; omega
  subst e;cases l with
  | nil =>
    have hks : T.kids = [] := by
      cases h : T.kids with
      | nil => rfl
      | cons U vs => rw [h] at ha; exact ha.elim
    obtain ⟨c, hc⟩ := e45 (f := k) (k := k + 1 + 1 + (AxE []).length + 1) h1 (by omega) 27 T.text []
    exact ⟨_, AqP hk rfl hks rfl, wf_mk (by simp), e75_call (ts := []) h1 rfl hn h2 rfl (r120_1 (e44 h2) (e40t h5 (by decide) rfl) (e66t h5 (by decide) rfl)) hc⟩
  | cons x l =>
    rw [commas_tail] at h4 h5 hv ⊢;obtain ⟨h5', h6⟩ := AxD.1 h4
    obtain ⟨U, vs, hks⟩ : ∃ U vs, T.kids = U :: vs := by
      cases h : T.kids with
      | nil => rw [h] at ha; exact ha.elim
      | cons U vs => exact ⟨U, vs, rfl⟩
    rw [hks] at ha hl
    have e2 : k + 1 + 1 + (x.2 ++ tailW l).length = k + 1 + 1 + x.2.length + (tailW l).length := by
      simp only [List.length_append]; omega
    obtain ⟨v', q1, q2⟩ := next_tail h6 e2 h5 AzY;obtain ⟨V, g1, g2, g3⟩ := ha.1 _ _ _ h5' rfl q1 q2;obtain ⟨us, p1, p2, p3⟩ := args_120 [V] ha.2.2 h6 e2 h5 (by decide) AzY (by simp at hl ⊢; omega)
    obtain ⟨c, hc⟩ := e45 (f := k) (k := k + 1 + 1 + (x.2 ++ tailW l).length + 1) h1 (by omega) 27 T.text ([V] ++ us)
    rw [pvs1] at p3
    have hh : ∃ y, AtW s ls (k + 1 + 1) y ∧ y.2 ≠ [41] := by
      have := ha.2.1;cases hx : x.2 with
      | nil => rw [hx] at this; exact this.elim
      | cons y r => rw [hx] at this h5'; exact ⟨y, h5'.1, this⟩
    obtain ⟨y, y1, y2⟩ := hh;exact ⟨_, AqP hk rfl hks (by simp [g1, p1]), wf_mk (by simpa [g2] using p2), e75_call h1 rfl hn h2 rfl (r120_2 (e44 h2) (e40f y1 (by decide) y2) g3 p3 (e66t h5 (by decide) rfl)) hc⟩
end
end Go.Abs.Z

set_option linter.unusedSimpArgs false
set_option linter.unusedVariables false
namespace Go.Abs.Z
open Go.Proofs Go.RowKit
theorem lev8 {k : Int} {t : List UInt8} (h : 20 ≤ k) (h' : k ≤ 27) : lev k t = 8 := by
  unfold lev;rw [if_neg (by omega), if_neg (by omega), if_neg (by omega), if_neg (by omega)]
theorem lev_pos {k : Int} {t : List UInt8} (h : 20 ≤ k) (h' : k ≤ 29) : 1 ≤ lev k t := by
  have := lev_rng k t;by_cases h1 : k = 28
  · subst h1; have := lev_28 t; omega
  · by_cases h2 : k = 29
    · subst h2; have := lev_29 t; omega
    · rw [lev8 h (by omega)]; decide
theorem needV_le {L k i : Int} (h : 0 ≤ L ∧ L ≤ 8) : needV L k i ≤ 8 := by
  unfold needV
  repeat' split
  all_goals omega
theorem AjX {k : Int} {t : List UInt8} {i : Nat} {U : Tr} (h : U.kind = 20) : parW k t i U (tks U) = [(0, U.text)] := by
  have h8 : parV k t i U.kind U.text = false := by
    unfold parV;have := needV_le (k := k) (i := i) (lev_rng k t);rw [h, lev8 (by decide) (by decide), decide_eq_false_iff_not]
    omega
  unfold parW;rw [h8, AqH];simp [nodeW, h]
theorem num_ne {x y : List UInt8} (h : AxU x = true) (hy : AxU y = false) : x ≠ y := by
  rintro rfl; rw [h] at hy; cases hy
theorem inv0 {T : Tr} {k : Int} (h : locOk T = true) (hk : T.kind = k) (hm : AqD k = 0) : T.kids = [] := by
  obtain ⟨_, _, _, _, _, h6, _⟩ := Aq7 h;rw [hk, hm] at h6;cases hT : T.kids with
  | nil => rfl
  | cons => rw [hT] at h6; simp at h6
theorem kids_exp {k : Int} (hk : k = 26 ∨ k = 27) : ∀ {us : List Tr} {i : Nat}, Ax2 k i us = true → ∀ U ∈ us, 20 ≤ U.kind ∧ U.kind ≤ 29
  | [], _, _, U, h => by cases h
  | V :: us, i, h, U, hU => by
    simp only [Ax2, Bool.and_eq_true] at h;rcases List.mem_cons.1 hU with rfl | hU
    · have := h.1;rcases hk with rfl | rfl <;> simpa [kidOk, Ax0] using this
    · exact kids_exp hk h.2 U hU
section
variable {s : List UInt8} {ls : List Tk} {T : Tr} {d : Nat}
theorem ph8 {x : Wd} {w : List Wd} (h : Q8 s ls (x :: w) T) (h1 : x.2 ≠ [110, 111, 116]) (h2 : x.2 ≠ [45]) (h3 : x.2 ≠ [41]) : PH s ls 8 (x :: w) T := ⟨h, by simp, fun _ => h1, fun _ => h2, h3⟩
theorem item {U : Tr} {i m : Nat} (h20 : 20 ≤ U.kind ∧ U.kind ≤ 29) (h : PH s ls (lev U.kind U.text).toNat (tks U) U) (hm : needV (lev T.kind T.text) T.kind i = m) (h1 : 1 ≤ m) : PH s ls m (parW T.kind T.text i U (tks U)) U := by
  have hr := lev_rng U.kind U.text;have hp := lev_pos (t := U.text) h20.1 h20.2
  have h8 : m ≤ 8 := by
    have := needV_le (k := T.kind) (i := i) (lev_rng T.kind T.text);omega
  unfold parW;by_cases hpar : parV T.kind T.text i U.kind U.text = true
  · rw [if_pos hpar];exact down (M := 8) (by omega) (ph8 (q8_par (q_of (down (by omega) h (by omega) (by omega)) (by omega) (by omega))) (by decide) (by decide) (by decide)) h1 h8
  · rw [if_neg hpar]
    have : (m : Int) ≤ lev U.kind U.text := by
      rw [← hm];simp only [parV, decide_eq_true_eq] at hpar;omega
    exact down (by omega) h h1 (by omega)
variable (s ls) in
def IHE (T : Tr) : Prop := ∀ U ∈ T.kids, 20 ≤ U.kind ∧ U.kind ≤ 29 → PH s ls (lev U.kind U.text).toNat (tks U) U
theorem px20 (hk : T.kind = 20) (hg : Good T d) : PH s ls 8 (tks T) T := by
  obtain ⟨_, _, _, htx, _⟩ := Aq7 hg.loc;rw [hk] at htx;have hnm : nameB T.text = true := by simpa [Aq5] using htx
  have hw : tks T = [(0, T.text)] := by rw [AqH]; simp [tkss, nodeW, atW, hk]
  rw [hw];exact ph8 (q8_20 hk (inv0 hg.loc hk rfl) hnm) (Ax3 hnm rfl) (Ax3 hnm rfl) (Ax3 hnm rfl)
theorem kid_name {U : Tr} (hU : U ∈ T.kids) (hg : Good T d) (hk : U.kind = 20) : nameB U.text = true ∧ U.kids = [] := by
  have h := (hg.kid hU 0 (by omega)).loc
  obtain ⟨_, _, _, htx, _⟩ := Aq7 h;rw [hk] at htx;exact ⟨by simpa [Aq5] using htx, inv0 h hk rfl⟩
theorem px21 (hk : T.kind = 21) (hg : Good T d) (ih : IHE s ls T) : PH s ls 8 (tks T) T := by
  obtain ⟨U, V, hks, c0, c1⟩ := inv2 hg.loc hk rfl rfl;simp [kidOk] at c0;simp [kidOk, Ax0] at c1;have mU : U ∈ T.kids := by rw [hks]; simp
  have mV : V ∈ T.kids := by rw [hks]; simp
  obtain ⟨_, _, _, htx, _⟩ := Aq7 hg.loc;rw [hk] at htx;have ht : T.text = [] := by simpa [Aq5] using htx
  obtain ⟨hn, hkU⟩ := kid_name mU hg c0;have hw : tks T = parW T.kind T.text 0 U (tks U) ++ (symW 91 :: (parW T.kind T.text 1 V (tks V) ++ [symW 93])) := by rw [AqH, hks]; simp [tkss, nodeW, atW, hk]
  rw [AjX c0] at hw;rw [hw];have hV := item (T := T) (i := 1) (m := 1) c1 (ih V mV c1) (by rw [hk, lev8 (by decide) (by decide)]; rfl) (by omega)
  exact ph8 (q8_21 hk ht hks c0 hkU hn (q_of hV (by omega) (by omega))) (Ax3 hn rfl) (Ax3 hn rfl) (Ax3 hn rfl)
theorem px22 (hk : T.kind = 22) (hg : Good T d) : PH s ls 8 (tks T) T := by
  obtain ⟨U, hks, c0⟩ := inv1 hg.loc hk rfl rfl;simp [kidOk] at c0;have mU : U ∈ T.kids := by rw [hks]; simp
  obtain ⟨hn, hkU⟩ := kid_name mU hg c0;have hw : tks T = parW T.kind T.text 0 U (tks U) ++ (symW 46 :: [(0, T.text)]) := by rw [AqH, hks]; simp [tkss, nodeW, atW, hk]
  rw [AjX c0] at hw;rw [hw];exact ph8 (q8_22 hk hks c0 hkU hn) (Ax3 hn rfl) (Ax3 hn rfl) (Ax3 hn rfl)
theorem px23 (hk : T.kind = 23) (hg : Good T d) : PH s ls 8 (tks T) T := by
  obtain ⟨U, hks, c0⟩ := inv1 hg.loc hk rfl rfl;simp [kidOk] at c0;have mU : U ∈ T.kids := by rw [hks]; simp
  obtain ⟨hn, hkU⟩ := kid_name mU hg c0;obtain ⟨_, _, _, htx, _⟩ := Aq7 hg.loc;rw [hk] at htx;have ht : T.text = [] := by simpa [Aq5] using htx
  have hw : tks T = kwW [108, 101, 110] :: symW 40 :: (parW T.kind T.text 0 U (tks U) ++ [symW 41]) := by rw [AqH, hks]; simp [tkss, nodeW, atW, hk]
  rw [AjX c0] at hw;rw [hw];exact ph8 (q8_23 hk ht hks c0 hkU) (by decide) (by decide) (by decide)
theorem px24 (hk : T.kind = 24) (hg : Good T d) : PH s ls 8 (tks T) T := by
  obtain ⟨_, _, _, htx, _⟩ := Aq7 hg.loc;rw [hk] at htx;have hn : AxU T.text = true := by simpa [Aq5] using htx
  have hw : tks T = [(2, T.text)] := by rw [AqH]; simp [tkss, nodeW, atW, hk]
  rw [hw];exact ph8 (q8_24 hk (inv0 hg.loc hk rfl) hn) (num_ne hn rfl) (num_ne hn rfl) (num_ne hn rfl)
theorem px25 (hk : T.kind = 25) (hg : Good T d) : PH s ls 8 (tks T) T := by
  obtain ⟨_, _, _, htx, _⟩ := Aq7 hg.loc;rw [hk] at htx;have hn : T.text = [116, 114, 117, 101] ∨ T.text = [102, 97, 108, 115, 101] := by simpa [Aq5] using htx
  have hw : tks T = [(1, T.text)] := by rw [AqH]; simp [tkss, nodeW, atW, hk]
  rw [hw]
  have : T.text ≠ [110, 111, 116] ∧ T.text ≠ [45] ∧ T.text ≠ [41] := by
    rcases hn with h | h <;> rw [h] <;> decide
  exact ph8 (q8_25 hk (inv0 hg.loc hk rfl) hn) this.1 this.2.1 this.2.2
theorem ar_kids (hk : T.kind = 26 ∨ T.kind = 27) (ih : IHE s ls T) : ∀ (us : List Tr) (i : Nat), (∀ U ∈ us, U ∈ T.kids ∧ 20 ≤ U.kind ∧ U.kind ≤ 29) → Ar s ls us (tkss us T.kind T.text i)
  | [], i, _ => by rw [tkss]; trivial
  | U :: us, i, h => by
    rw [tkss];obtain ⟨hm, he⟩ := h U (List.mem_cons_self ..)
    have hi := item (T := T) (i := i) (m := 1) he (ih U hm he) (by
      rw [lev8 (by omega) (by omega)]; rfl) (by omega)
    exact ⟨q_of hi (by omega) (by omega), hi.hc, ar_kids hk ih us (i + 1) fun V hV => h V (List.mem_cons_of_mem _ hV)⟩
theorem kids_max (hg : Good T d) : T.kids.length ≤ Ax1 := by
  have := Ak0 T;have := hg.size;simp [Ax1]; omega
theorem px26 (hk : T.kind = 26) (hg : Good T d) (ih : IHE s ls T) : PH s ls 8 (tks T) T := by
  obtain ⟨_, _, _, htx, hl, _, hkk⟩ := Aq7 hg.loc;rw [hk] at htx hl hkk;have ht : T.text = [] := by simpa [Aq5] using htx
  have ha := ar_kids (.inl hk) ih T.kids 0 fun U hU => ⟨hU, kids_exp (.inl rfl) hkk U hU⟩
  have hw : tks T = symW 91 :: (AxE (tkss T.kids T.kind T.text 0) ++ [symW 93]) := by rw [AqH]; simp [tkss, nodeW, atW, hk]
  rw [hw];cases hT : tkss T.kids T.kind T.text 0 with
  | nil =>
    rw [hT] at ha;cases hK : T.kids with
    | nil => rw [hK] at hl; simp [leastOf] at hl
    | cons => rw [hK] at ha; exact ha.elim
  | cons x l =>
    rw [hT] at ha;exact ph8 (q8_26 hk ht ha (kids_max hg)) (by decide) (by decide) (by decide)
theorem px27 (hk : T.kind = 27) (hg : Good T d) (ih : IHE s ls T) : PH s ls 8 (tks T) T := by
  obtain ⟨_, _, _, htx, hl, _, hkk⟩ := Aq7 hg.loc;rw [hk] at htx hl hkk;have hn : nameB T.text = true := by simpa [Aq5] using htx
  have ha := ar_kids (.inr hk) ih T.kids 0 fun U hU => ⟨hU, kids_exp (.inr rfl) hkk U hU⟩
  have hw : tks T = (0, T.text) :: symW 40 :: (AxE (tkss T.kids T.kind T.text 0) ++ [symW 41]) := by rw [AqH]; simp [tkss, nodeW, atW, hk]
  rw [hw];exact ph8 (q8_27 hk hn ha (kids_max hg)) (Ax3 hn rfl) (Ax3 hn rfl) (Ax3 hn rfl)
theorem px28 (hk : T.kind = 28) (hg : Good T d) (ih : IHE s ls T) : PH s ls (lev T.kind T.text).toNat (tks T) T := by
  obtain ⟨U, hks, c0⟩ := inv1 hg.loc hk rfl rfl;simp [kidOk, Ax0] at c0;have mU : U ∈ T.kids := by rw [hks]; simp
  obtain ⟨_, _, _, htx, _⟩ := Aq7 hg.loc;rw [hk] at htx;by_cases hn : T.text = [110, 111, 116]
  · have hl : lev T.kind T.text = 3 := by rw [hk, hn]; rfl
    have hw : tks T = kwW [110, 111, 116] :: parW T.kind T.text 0 U (tks U) := by rw [AqH, hks]; simp [tkss, nodeW, atW, hk, hn, kwW]
    rw [hw, hl];have hU := item (T := T) (i := 0) (m := 3) c0 (ih U mU c0) (by rw [hl, hk]; rfl) (by omega)
    exact ⟨not_3 (q_of hU (by omega) (by omega)) hk hn hks, by simp, fun h => absurd h (by decide), fun h => absurd h (by decide), by show [110, 111, 116] ≠ _; decide⟩
  · have ht2 : T.text = [45] := by simpa [Aq5, hn] using htx
    have hl : lev T.kind T.text = 7 := by rw [hk, ht2]; rfl
    have hw : tks T = symW 45 :: parW T.kind T.text 0 U (tks U) := by rw [AqH, hks]; simp [tkss, nodeW, atW, hk, ht2, symW]
    rw [hw, hl];have hU := item (T := T) (i := 0) (m := 7) c0 (ih U mU c0) (by rw [hl, hk]; rfl) (by omega)
    exact ⟨neg_7 (q_of hU (by omega) (by omega)) hk ht2 hks, by simp, fun _ => by show [45] ≠ _; decide, fun h => absurd h (by decide), by show [45] ≠ _; decide⟩
theorem px29 (hk : T.kind = 29) (hg : Good T d) (ih : IHE s ls T) : PH s ls (lev T.kind T.text).toNat (tks T) T := by
  obtain ⟨U, V, hks, c0, c1⟩ := inv2 hg.loc hk rfl rfl;simp [kidOk, Ax0] at c0 c1;have mU : U ∈ T.kids := by rw [hks]; simp
  have mV : V ∈ T.kids := by rw [hks]; simp
  obtain ⟨_, _, _, htx, _⟩ := Aq7 hg.loc;rw [hk] at htx;have hop : AqZ.contains T.text = true := by simpa [Aq5] using htx
  have hw : tks T = (parW T.kind T.text 0 U (tks U) ++ ([opW T.text] ++ parW T.kind T.text 1 V (tks V))) := by rw [AqH, hks]; simp [tkss, nodeW, atW, hk]
  obtain ⟨L, hL, hlev, _⟩ := op_cases hop
  have hl : lev T.kind T.text = (L : Int) := by
    rw [hk]; unfold lev;rw [if_neg (by decide), if_neg (by decide), if_pos rfl, hlev]; rfl
  rw [hw, hl];rcases hL with rfl | rfl | rfl | rfl | rfl
  · have hU := item (T := T) (i := 0) (m := 1) c0 (ih U mU c0) (by rw [hl, hk]; rfl) (by omega)
    have hV := item (T := T) (i := 1) (m := 2) c1 (ih V mV c1) (by rw [hl, hk]; rfl) (by omega)
    exact ⟨bin_1 hU.p hU.ne (q_of hV (by omega) (by omega)) hop hlev hk rfl hks, by simp, fun h => absurd h (by decide), fun h => absurd h (by decide), notH_app hU.hc⟩
  · have hU := item (T := T) (i := 0) (m := 2) c0 (ih U mU c0) (by rw [hl, hk]; rfl) (by omega)
    have hV := item (T := T) (i := 1) (m := 3) c1 (ih V mV c1) (by rw [hl, hk]; rfl) (by omega)
    exact ⟨bin_2 hU.p hU.ne (q_of hV (by omega) (by omega)) hop hlev hk rfl hks, by simp, fun h => absurd h (by decide), fun h => absurd h (by decide), notH_app hU.hc⟩
  · have hU := item (T := T) (i := 0) (m := 5) c0 (ih U mU c0) (by rw [hl, hk]; rfl) (by omega)
    have hV := item (T := T) (i := 1) (m := 5) c1 (ih V mV c1) (by rw [hl, hk]; rfl) (by omega)
    exact ⟨bin_4 (q_of hU (by omega) (by omega)) hU.ne (q_of hV (by omega) (by omega)) hop hlev hk rfl hks, by simp, fun _ => notH_app (hU.hn (by omega)), fun h => absurd h (by decide), notH_app hU.hc⟩
  · have hU := item (T := T) (i := 0) (m := 5) c0 (ih U mU c0) (by rw [hl, hk]; rfl) (by omega)
    have hV := item (T := T) (i := 1) (m := 6) c1 (ih V mV c1) (by rw [hl, hk]; rfl) (by omega)
    exact ⟨bin_5 hU.p hU.ne (q_of hV (by omega) (by omega)) hop hlev hk rfl hks, by simp, fun _ => notH_app (hU.hn (by omega)), fun h => absurd h (by decide), notH_app hU.hc⟩
  · have hU := item (T := T) (i := 0) (m := 6) c0 (ih U mU c0) (by rw [hl, hk]; rfl) (by omega)
    have hV := item (T := T) (i := 1) (m := 7) c1 (ih V mV c1) (by rw [hl, hk]; rfl) (by omega)
    exact ⟨bin_6 hU.p hU.ne (q_of hV (by omega) (by omega)) hop hlev hk rfl hks, by simp, fun _ => notH_app (hU.hn (by omega)), fun h => absurd h (by decide), notH_app hU.hc⟩
theorem expr_ph : ∀ (n : Nat) (T : Tr) (d : Nat), T.pre.length ≤ n → Good T d → 20 ≤ T.kind ∧ T.kind ≤ 29 → PH s ls (lev T.kind T.text).toNat (tks T) T
  | 0, T, d, h, _, _ => by obtain ⟨k, t, a, e, n, ks⟩ := T; simp [Tr.pre] at h
  | n + 1, T, d, h, hg, h20 => by
    have ih : IHE s ls T := fun U hU h20 => expr_ph n U 0 (by have := AzX T U hU; omega) (hg.kid hU 0 (by omega)) h20
    have h8 : T.kind ≤ 27 → (lev T.kind T.text).toNat = 8 := fun h => by rw [lev8 h20.1 h]; rfl
    have : T.kind = 20 ∨ T.kind = 21 ∨ T.kind = 22 ∨ T.kind = 23 ∨ T.kind = 24 ∨ T.kind = 25 ∨ T.kind = 26 ∨ T.kind = 27 ∨ T.kind = 28 ∨ T.kind = 29 := by omega
    rcases this with hk | hk | hk | hk | hk | hk | hk | hk | hk | hk
    · rw [h8 (by omega)]; exact px20 hk hg
    · rw [h8 (by omega)]; exact px21 hk hg ih
    · rw [h8 (by omega)]; exact px22 hk hg
    · rw [h8 (by omega)]; exact px23 hk hg
    · rw [h8 (by omega)]; exact px24 hk hg
    · rw [h8 (by omega)]; exact px25 hk hg
    · rw [h8 (by omega)]; exact px26 hk hg ih
    · rw [h8 (by omega)]; exact px27 hk hg ih
    · exact px28 hk hg ih
    · exact px29 hk hg ih
end
theorem sp_get {s : List UInt8} {ls : List Tk} : ∀ {ws : List Wd} {k : Nat}, (∀ (i : Nat) (w : Wd), ws[i]? = some w → AtW s ls (k + i) w) → Sp s ls k ws
  | [], k, _ => trivial
  | w :: ws, k, h => ⟨h 0 w rfl, sp_get fun i v hv => by
      have := h (i + 1) v (by simpa using hv)
      have e : k + (i + 1) = k + 1 + i := by omega
      rwa [e] at this⟩
end Go.Abs.Z
