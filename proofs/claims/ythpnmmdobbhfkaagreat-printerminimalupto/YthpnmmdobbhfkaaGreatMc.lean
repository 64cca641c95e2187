/- A part of the proof: M11 M12. -/
import Derived.Test.YthpnmmdobbhfkaaGreatMa

set_option linter.unusedVariables false
set_option linter.unusedSimpArgs false
set_option linter.unusedSimpArgs false
set_option linter.unusedVariables false
namespace Go.Abs.Z
open Go.Proofs Go.RowKit
def pq (v : Wd) : Bool := v.2 == [40]
def cw (ws : List Wd) : Nat := ws.countP pq
def cL (L : Int) (U : Tr) : Nat := cw (tks U) + (if 20 ≤ U.kind ∧ U.kind ≤ 29 ∧ lev U.kind U.text < L then 1 else 0)
theorem cw_nil : cw [] = 0 := rfl
theorem cw_cons (v : Wd) (ws : List Wd) : cw (v :: ws) = cw ws + (if v.2 = [40] then 1 else 0) := by
  simp [cw, pq, List.countP_cons]
theorem cw_app (a b : List Wd) : cw (a ++ b) = cw a + cw b := List.countP_append ..
theorem cw_par (k : Int) (t : List UInt8) (i : Nat) (U : Tr) : cw (parW k t i U (tks U)) = cL (needV (lev k t) k i) U := by
  unfold parW cL parV
  by_cases h : 20 ≤ U.kind ∧ U.kind ≤ 29 ∧ lev U.kind U.text < needV (lev k t) k i
  · rw [if_pos h, if_pos (by simpa using h), cw_cons, cw_app, if_pos (by rfl)]; rfl
  · rw [if_neg h, if_neg (by simpa using h)]; rfl
theorem cL_mono {L M : Int} (h : L ≤ M) (U : Tr) : cL L U ≤ cL M U := by
  unfold cL
  split <;> split <;> omega
theorem cL_le (L : Int) (U : Tr) : cL L U ≤ cw (tks U) + 1 := by
  unfold cL; split <;> omega
theorem le_cL (L : Int) (U : Tr) : cw (tks U) ≤ cL L U := by
  unfold cL; omega
theorem cp_8 (k : Int) (t : List UInt8) (i : Nat) (U : Tr) : cw (parW k t i U (tks U)) ≤ cL 8 U := by
  rw [cw_par]; exact cL_mono (needV_le (lev_rng k t)) U
def sL : List Tr → Nat
  | [] => 0
  | U :: us => cL 1 U + sL us
theorem sL_app : ∀ a b : List Tr, sL (a ++ b) = sL a + sL b
  | [], b => by simp [sL]
  | x :: a, b => by rw [List.cons_append, sL, sL, sL_app a b]; omega
theorem cw_tail : ∀ l : List (Int × List Wd), cw (tailW l) = (l.map fun x => cw x.2).sum
  | [] => rfl
  | x :: l => by
    rw [tailW, cw_cons, cw_app, cw_tail l, if_neg (by decide)]; simp
theorem cw_commas (l : List (Int × List Wd)) : cw (commasW l) = (l.map fun x => cw x.2).sum := by
  cases l with
  | nil => rfl
  | cons x l => rw [commas_tail, cw_app, cw_tail]; simp
theorem cw_kids {k : Int} {t : List UInt8} (h : lev k t = 8) : ∀ (us : List Tr) (i : Nat), ((tkss us k t i).map fun x => cw x.2).sum = sL us
  | [], i => by rw [tkss]; rfl
  | U :: us, i => by
    rw [tkss, List.map_cons, List.sum_cons, cw_kids h us (i + 1), cw_par, h]; rfl
theorem cn_29 {L : Nat} {t : List UInt8} {a e : Int} {n : Bool} {U V : Tr} (hb : binOps.contains t = true) (hl : opLev t = some (L : Int)) : cL L (.mk 29 t a e n [U, V]) = cL (needV L 29 0) U + cL (needV L 29 1) V := by
  have hlev : lev 29 t = L := by unfold lev; rw [if_neg (by decide), if_neg (by decide), if_pos rfl, hl]; rfl
  obtain ⟨_, _, _, _, _, h40, _⟩ := op_cases hb
  have h0 := cw_par 29 t 0 U
  have h1 := cw_par 29 t 1 V
  rw [hlev] at h0 h1
  unfold cL
  rw [if_neg (by rintro ⟨_, _, h⟩; simp only [Tr.kind, Tr.text] at h; rw [hlev] at h; omega), tks_eq]
  simp only [Tr.kind, Tr.text, Tr.kids, tkss, nodeW, atW]
  simp only [show ¬ ((29 : Int) = 2) by decide, show ¬ ((29 : Int) = 3) by decide, show ¬ ((29 : Int) = 4 ∨ (29 : Int) = 7) by decide, show ¬ ((29 : Int) = 5) by decide, show ¬ ((29 : Int) = 6) by decide, show ¬ ((29 : Int) = 8) by decide, show ¬ ((29 : Int) = 9) by decide, show ¬ ((29 : Int) = 10) by decide, if_false]
  simp [cw_app, cw_cons, opW, h40] at h0 h1 ⊢
  rw [h0, h1]; rfl
structure Wx (s : List UInt8) (ls : List Tk) (n : Nat) (w : Nat → Wd) : Prop where
  at' : ∀ k, k ≤ n → AtW s ls k (w k)
  num : ∀ k, k < n → (w k).1 = 2 → numOk (w k).2 = true
  en : w n = (5, [])
  ne : ∀ k, k < n → (w k).1 ≠ 5
def pf (w : Nat → Wd) : Nat → Nat
  | 0 => 0
  | k + 1 => pf w k + (if (w k).2 = [40] then 1 else 0)
theorem pf_mono (w : Nat → Wd) {j k : Nat} (h : j ≤ k) : pf w j ≤ pf w k := by
  induction k with
  | zero => have : j = 0 := by omega
            subst this; exact Nat.le_refl _
  | succ k ih =>
    rcases Nat.lt_or_ge k j with h' | h'
    · have : j = k + 1 := by omega
      subst this; exact Nat.le_refl _
    · have := ih h'
      rw [pf]; omega
abbrev pg (s : List UInt8) (ls : List Tk) (k : Nat) (ds : List Dg) : Sto := pd s ls k (ds.map Dg.pv)
structure Nx (ls : List Tk) (n k j : Nat) (ds es : List Dg) : Prop where
  le : k ≤ j
  ln : j ≤ n
  dk : Dk ls j es
  nn : es = [] → ds = []
theorem Nx.trans {ls : List Tk} {n k j i : Nat} {ds es fs : List Dg} (h : Nx ls n k j ds es) (h' : Nx ls n j i es fs) : Nx ls n k i ds fs := ⟨Nat.le_trans h.le h'.le, h'.ln, h'.dk, fun e => h.nn (h'.nn e)⟩
section
variable (s : List UInt8) (ls : List Tk) (n : Nat) (w : Nat → Wd)
def TR (f : Nat) (xs : List PV) (c : Tr → Nat) (k : Nat) (ds : List Dg) : Prop :=
  ∃ (U : Tr) (j : Nat) (es : List Dg), U.wf ∧ E f xs (pg s ls k ds) U.pv (pg s ls j es) ∧ Nx ls n k j ds es ∧ (es = [] → c U + pf w k ≤ pf w j)
def T49 (L k : Nat) : Prop := ∀ ds, Dk ls k ds → TR s ls n w 49 [.ref 0 0, N L] (cL L) k ds
def IH (k : Nat) : Prop := ∀ k', k < k' → k' ≤ n → ∀ L, 1 ≤ L → L ≤ 7 → T49 s ls n w L k'
end
section
variable {s : List UInt8} {ls : List Tk} {n : Nat} {w : Nat → Wd} {k : Nat} {ds : List Dg}
theorem Wx.lt (hx : Wx s ls n w) {k : Nat} (hk : k ≤ n) {x : List UInt8} (hx0 : x ≠ []) (h : (w k).2 = x) : k < n := by
  rcases Nat.lt_or_ge k n with h' | h'
  · exact h'
  · have : k = n := by omega
    subst this
    rw [hx.en] at h; exact absurd h.symm hx0
theorem Wx.lt0 (hx : Wx s ls n w) {k : Nat} (hk : k ≤ n) (h : (w k).1 ≠ 5) : k < n := by
  rcases Nat.lt_or_ge k n with h' | h'
  · exact h'
  · have : k = n := by omega
    subst this
    rw [hx.en] at h; exact absurd rfl h
theorem Nx.read (hk : k < n) (hd : Dk ls k ds) : Nx ls n k (k + 1) ds ds := ⟨by omega, by omega, hd.next, id⟩
theorem x43 (hx : Wx s ls n w) (hk : k ≤ n) (hd : Dk ls k ds) (c : Nat) (tx : List UInt8) : ∃ es : List Dg, E 43 [.ref 0 0, N c, .str tx] (pg s ls k ds) (.tuple []) (pg s ls k es) ∧ es ≠ [] ∧ Nx ls n k k ds es := by
  obtain ⟨t, ht, _⟩ := (hx.at' k hk).t
  obtain ⟨es, h1, h2, h3⟩ := report_ev (s := s) (p := en ls k) (c := c) (tx := tx) ht (hx.at' k hk).lt hd
  exact ⟨es, h1, h2, Nat.le_refl _, hk, h3, fun e => absurd e h2⟩
theorem x66 (hx : Wx s ls n w) (hk : k ≤ n) (hd : Dk ls k ds) {x : List UInt8} (h0 : x ≠ []) : ∃ (b : Bool) (j : Nat) (es : List Dg), E 66 [.ref 0 0, .str x] (pg s ls k ds) (.bool b) (pg s ls j es) ∧ Nx ls n k j ds es ∧ (es = [] → j = k + 1 ∧ (w k).2 = x) := by
  by_cases h : (w k).2 = x
  · have hl := hx.lt hk h0 h
    exact ⟨true, k + 1, ds, e66t (hx.at' k hk) h0 h, Nx.read hl hd, fun _ => ⟨rfl, h⟩⟩
  · obtain ⟨es, h1, h2, h3⟩ := x43 hx hk hd 4 x
    exact ⟨false, k, es, r66_2 (e68f (hx.at' k hk) h0 h) h1, h3, fun e => absurd e h2⟩
theorem x65 (hx : Wx s ls n w) (hk : k ≤ n) (hd : Dk ls k ds) : ∃ (t : List UInt8) (j : Nat) (es : List Dg), E 65 [.ref 0 0] (pg s ls k ds) (.str t) (pg s ls j es) ∧ Nx ls n k j ds es ∧ (es = [] → j = k + 1 ∧ t = (w k).2) ∧ ((w k).1 = 0 → j = k + 1) := by
  by_cases h : (w k).1 = 0
  · have hl := hx.lt0 hk (by omega)
    exact ⟨_, k + 1, ds, e65 (hx.at' k hk) h, Nx.read hl hd, fun _ => ⟨rfl, rfl⟩, fun _ => rfl⟩
  · obtain ⟨es, h1, h2, h3⟩ := x43 hx hk hd 4 [110, 97, 109, 101]
    exact ⟨_, k, es, r65_2 (e39 (hx.at' k hk)) (by omega) h1, h3, fun e => absurd e h2, fun e => absurd e h⟩
theorem e45f (hx : Wx s ls n w) (hk : k ≤ n) {f : Nat} (hf : f ≤ k) (kd : Int) (tx : List UInt8) {D : List PV} : ∃ a : Int, E 45 [.ref 0 0, N f, I kd, .str tx, .nils] (pd s ls k D) (Tr.mk kd tx a (en ls k : Nat) true []).pv (pd s ls k D) := by
  rcases Nat.lt_or_ge f k with h | h
  · exact e45n (hx.at' f (by omega)) h kd tx
  · exact ⟨_, r45n_2 (by omega)⟩
theorem x122 (hx : Wx s ls n w) (hk : k ≤ n) (hd : Dk ls k ds) : ∃ (U : Tr) (j : Nat) (es : List Dg), U.wf ∧ E 122 [.ref 0 0] (pg s ls k ds) U.pv (pg s ls j es) ∧ Nx ls n k j ds es ∧ (es = [] → cL 8 U + pf w k ≤ pf w j) ∧ ((w k).1 = 0 → j = k + 1) := by
  obtain ⟨t, j, es, h1, h2, h3, h4⟩ := x65 hx hk hd
  obtain ⟨a, ha⟩ := e45f hx h2.ln h2.le 20 t (D := es.map Dg.pv)
  refine ⟨_, j, es, wf_nil, r122 h1 ha, h2, fun e => ?_, h4⟩
  obtain ⟨rfl, rfl⟩ := h3 e
  unfold cL
  rw [if_neg (by rintro ⟨_, _, h⟩; simp [Tr.kind, lev] at h), tks_eq, pf]
  simp [Tr.kind, Tr.text, Tr.kids, tkss, nodeW, cw_cons, cw_nil]
  omega
end
theorem vsl1_str (c : UInt8) (x : List UInt8) : semP (.ssl true false) [.str (c :: x), I 1] = some [some (.str x)] := by
  simp [semP, cutB]
  omega
theorem x118 : ∀ x : List UInt8, x.all digitB = true → ∃ t : List UInt8, LE m118_0 l118_0 [(0, some (.str x))] [] (.exit 0) [(0, some (.str t))] [] ∧ t ≠ [40]
  | [], _ => ⟨[], r118_l0_out1 (by decide), by decide⟩
  | [c], h => ⟨[c], r118_l0_out1 (by simp), by rintro h'; cases h'; revert h; decide⟩
  | c :: d :: x, h => by
    by_cases h48 : ((c.toNat : Nat) : Int) = 48
    · obtain ⟨t, h1, h2⟩ := x118 (d :: x) (by simp only [List.all_cons, Bool.and_eq_true] at h ⊢; exact h.2)
      exact ⟨t, r118_l0_next1 (by simp only [List.length_cons]; omega) rfl h48 (vsl1_str c (d :: x)) h1, h2⟩
    · exact ⟨c :: d :: x, r118_l0_out2 (by simp only [List.length_cons]; omega) rfl h48, by simp⟩
end Go.Abs.Z

set_option linter.unusedSimpArgs false
set_option linter.unusedVariables false
namespace Go.Abs.Z
open Go.Proofs Go.RowKit
theorem has_op {L : Nat} {t : List UInt8} (h : hasOp L t = true) : binOps.contains t = true ∧ opLev t = some (L : Int) := by
  cases hb : binOps.contains t with
  | false => rw [has_no hb] at h; cases h
  | true =>
    obtain ⟨M, _, h2, _, h4, _⟩ := op_cases hb
    have := h4 L h
    subst this
    exact ⟨rfl, h2⟩
theorem cL_8 {U : Tr} (h : 20 ≤ U.kind) (h' : U.kind ≤ 27) : cL 8 U = cw (tks U) := by
  unfold cL
  rw [lev8 h h', if_neg (by omega)]; rfl
section
variable {t : List UInt8} {a e : Int} {n : Bool} {U V : Tr} {us : List Tr}
theorem cn_21 : cL 8 (.mk 21 [] a e n [U, V]) ≤ cL 8 U + cL 1 V := by
  have h0 := cp_8 21 [] 0 U
  have h1 := cw_par 21 [] 1 V
  rw [show needV (lev 21 []) 21 ((1 : Nat) : Int) = 1 from rfl] at h1
  rw [cL_8 (by simp [Tr.kind]) (by simp [Tr.kind]), tks_eq]
  simp [Tr.kind, Tr.text, Tr.kids, tkss, nodeW, atW, cw_app, cw_cons, cw_nil, symW] at h0 h1 ⊢
  omega
theorem cn_22 : cL 8 (.mk 22 t a e n [U]) ≤ cL 8 U + (if t = [40] then 1 else 0) := by
  have h0 := cp_8 22 t 0 U
  rw [cL_8 (by simp [Tr.kind]) (by simp [Tr.kind]), tks_eq]
  simp [Tr.kind, Tr.text, Tr.kids, tkss, nodeW, atW, cw_app, cw_cons, cw_nil, symW] at h0 ⊢
  omega
theorem cn_23 : cL 8 (.mk 23 [] a e n [U]) ≤ cL 8 U + 1 := by
  have h0 := cp_8 23 [] 0 U
  rw [cL_8 (by simp [Tr.kind]) (by simp [Tr.kind]), tks_eq]
  simp [Tr.kind, Tr.text, Tr.kids, tkss, nodeW, atW, cw_app, cw_cons, cw_nil, symW, kwW] at h0 ⊢
  omega
theorem cn_24 : cL 8 (.mk 24 t a e n []) = (if t = [40] then 1 else 0) := by
  rw [cL_8 (by simp [Tr.kind]) (by simp [Tr.kind]), tks_eq]
  simp [Tr.kind, Tr.text, Tr.kids, tkss, nodeW, atW, cw_app, cw_cons, cw_nil]
theorem cn_25 : cL 8 (.mk 25 t a e n []) = (if t = [40] then 1 else 0) := by
  rw [cL_8 (by simp [Tr.kind]) (by simp [Tr.kind]), tks_eq]
  simp [Tr.kind, Tr.text, Tr.kids, tkss, nodeW, atW, cw_app, cw_cons, cw_nil]
theorem cn_26 : cL 8 (.mk 26 [] a e n us) = sL us := by
  have := cw_kids (k := 26) (t := []) rfl us 0
  rw [cL_8 (by simp [Tr.kind]) (by simp [Tr.kind]), tks_eq]
  simp [Tr.kind, Tr.text, Tr.kids, nodeW, cw_app, cw_cons, cw_nil, symW, cw_commas] at this ⊢
  exact this
theorem cn_27 : cL 8 (.mk 27 t a e n us) = sL us + 1 + (if t = [40] then 1 else 0) := by
  have := cw_kids (k := 27) (t := t) rfl us 0
  rw [cL_8 (by simp [Tr.kind]) (by simp [Tr.kind]), tks_eq]
  simp [Tr.kind, Tr.text, Tr.kids, nodeW, cw_app, cw_cons, cw_nil, symW, cw_commas] at this ⊢
  rw [this]
theorem cn_28 {L : Nat} (h : t = [110, 111, 116] ∧ L = 3 ∨ t = [45] ∧ L = 7) : cL L (.mk 28 t a e n [U]) = cL L U := by
  have hl : lev 28 t = L := by rcases h with ⟨rfl, rfl⟩ | ⟨rfl, rfl⟩ <;> rfl
  have h0 := cw_par 28 t 0 U
  rw [hl, show needV (L : Int) 28 ((0 : Nat) : Int) = L by rcases h with ⟨rfl, rfl⟩ | ⟨rfl, rfl⟩ <;> rfl] at h0
  have h4 : t ≠ [40] := by rcases h with ⟨rfl, _⟩ | ⟨rfl, _⟩ <;> decide
  show cw _ + (if _ then _ else _) = _
  rw [if_neg (by rintro ⟨_, _, h⟩; simp only [Tr.kind, Tr.text] at h; omega), tks_eq]
  simp [Tr.kind, Tr.text, Tr.kids, tkss, nodeW, atW, cw_app, cw_cons, cw_nil, h4] at h0 ⊢
  exact h0
end
section
variable {s : List UInt8} {ls : List Tk} {k k2 p2 k3 p3 k4 p4 : Nat} {D2 D3 D4 : List PV} {U1 U2 U3 : Tr} {s1 : List UInt8} {e : AExit} {ff' : FF} {σ' : Sto} {L : Nat}
theorem nx49 (hL : L = 1 ∨ L = 2 ∨ L = 5 ∨ L = 6) (h1 : E 76 [.ref 0 0, N L] [pc s ls k2 p2 D2] (.bool true) [pc s ls k2 p2 D2]) (h2 : E 44 [.ref 0 0] [pc s ls k2 p2 D2] (.str s1) [pc s ls k3 p3 D3]) (h3 : E 49 [.ref 0 0, N (L + 1)] [pc s ls k3 p3 D3] U2.pv [pc s ls k4 p4 D4])
    (h4 : E 45 [.ref 0 0, N k, I 29, .str s1, .slice false 5 [U1.pv, U2.pv]] [pc s ls k4 p4 D4] U3.pv [pc s ls k4 p4 D4]) (hl : LE m49_0 l49_0 (F49 k L U3) [pc s ls k4 p4 D4] e ff' σ') : LE m49_0 l49_0 (F49 k L U1) [pc s ls k2 p2 D2] e ff' σ' := by
  rcases hL with rfl | rfl | rfl | rfl
  · exact r49_1_l0_next1 h1 h2 h3 h4 hl
  · exact r49_2_l0_next1 h1 h2 h3 h4 hl
  · exact r49_5_l0_next1 h1 h2 h3 h4 hl
  · exact r49_6_l0_next1 h1 h2 h3 h4 hl
theorem ou49 (hL : L = 1 ∨ L = 2 ∨ L = 5 ∨ L = 6) (h1 : E 76 [.ref 0 0, N L] [pc s ls k2 p2 D2] (.bool false) [pc s ls k2 p2 D2]) : LE m49_0 l49_0 (F49 k L U1) [pc s ls k2 p2 D2] (.exit 1) (F49 k L U1) [pc s ls k2 p2 D2] := by
  rcases hL with rfl | rfl | rfl | rfl
  · exact r49_1_l0_out1 h1
  · exact r49_2_l0_out1 h1
  · exact r49_5_l0_out1 h1
  · exact r49_6_l0_out1 h1
theorem st49 (hL : L = 1 ∨ L = 2 ∨ L = 5 ∨ L = 6) (h1 : E 49 [.ref 0 0, N (L + 1)] [pc s ls k p2 D2] U1.pv [pc s ls k3 p3 D3]) (hl : LE m49_0 l49_0 (F49 k L U1) [pc s ls k3 p3 D3] (.exit 1) (F49 k L U2) [pc s ls k4 p4 D4]) : E 49 [.ref 0 0, N L] [pc s ls k p2 D2] U2.pv [pc s ls k4 p4 D4] := by
  rcases hL with rfl | rfl | rfl | rfl
  · exact r49_1_1 h1 hl
  · exact r49_2_1 h1 hl
  · exact r49_5_1 h1 hl
  · exact r49_6_1 h1 hl
end
section
variable {s : List UInt8} {ls : List Tk} {n : Nat} {w : Nat → Wd} {k : Nat} {ds : List Dg}
theorem Wx.op (hx : Wx s ls n w) {L : Nat} (hk : k ≤ n) (h : hasOp L (w k).2 = true) : k < n := by
  rcases Nat.lt_or_ge k n with h' | h'
  · exact h'
  · have : k = n := by omega
    subst this
    rw [hx.en, has_nil] at h; cases h
theorem lv_loop (hx : Wx s ls n w) {L : Nat} (hL : L = 1 ∨ L = 2 ∨ L = 5 ∨ L = 6) {k0 : Nat} (ih : IH s ls n w k0) : ∀ (r k : Nat) (U : Tr) (ds : List Dg), n - k ≤ r → k0 ≤ k → k ≤ n → Dk ls k ds → U.wf → (ds = [] → cL L U + pf w k0 ≤ pf w k) →
    ∃ (U2 : Tr) (j : Nat) (es : List Dg), U2.wf ∧ LE m49_0 l49_0 (F49 k0 L U) (pg s ls k ds) (.exit 1) (F49 k0 L U2) (pg s ls j es) ∧ Nx ls n k j ds es ∧ (es = [] → cL L U2 + pf w k0 ≤ pf w j) := by
  intro r
  induction r with
  | zero =>
    intro k U ds hr h0 hk hd hu hc
    have hkn : k = n := by omega
    have h7 := e76 (D := ds.map Dg.pv) (hx.at' k hk) (l := L) (by omega)
    have hf : hasOp L (w k).2 = false := by rw [hkn, hx.en, has_nil]
    rw [hf] at h7
    exact ⟨U, k, ds, hu, ou49 hL h7, ⟨Nat.le_refl _, hk, hd, id⟩, hc⟩
  | succ r ihr =>
    intro k U ds hr h0 hk hd hu hc
    have h7 := e76 (D := ds.map Dg.pv) (hx.at' k hk) (l := L) (by omega)
    cases hf : hasOp L (w k).2 with
    | false =>
      rw [hf] at h7
      exact ⟨U, k, ds, hu, ou49 hL h7, ⟨Nat.le_refl _, hk, hd, id⟩, hc⟩
    | true =>
      rw [hf] at h7
      have hl := hx.op hk hf
      obtain ⟨V, j, es, g1, g2, g3, g4⟩ := ih (k + 1) (by omega) (by omega) (L + 1) (by omega) (by omega) ds hd.next
      have h1 := g3.le
      obtain ⟨a, ha⟩ := e45_2 (D := es.map Dg.pv) (f := k0) (k := j) (hx.at' k0 (by omega)) (by omega) 29 (w k).2 U V
      obtain ⟨hb, ho⟩ := has_op hf
      obtain ⟨U2, i, fs, q1, q2, q3, q4⟩ := ihr j (.mk 29 (w k).2 a (en ls j : Nat) false [U, V]) es (by omega) (by omega) g3.ln g3.dk (wf_mk (by simp [hu, g1])) (fun e => by
        have hn1 := hc (g3.nn e)
        have hn2 := g4 e
        rw [cn_29 hb ho]
        have n0 : needV (L : Int) 29 0 = L := by rcases hL with rfl | rfl | rfl | rfl <;> rfl
        have n1 : needV (L : Int) 29 1 = ((L + 1 : Nat) : Int) := by rcases hL with rfl | rfl | rfl | rfl <;> rfl
        rw [n0, n1]
        have := pf_mono w (show k ≤ k + 1 by omega)
        omega)
      exact ⟨U2, i, fs, q1, nx49 hL h7 (e44 (hx.at' k hk)) g2 ha q2, ((Nx.read hl hd).trans g3).trans q3, q4⟩
theorem lv_op (hx : Wx s ls n w) {L : Nat} (hL : L = 1 ∨ L = 2 ∨ L = 5 ∨ L = 6) (ih : IH s ls n w k) (h : T49 s ls n w (L + 1) k) : T49 s ls n w L k := by
  intro ds hd
  obtain ⟨U, j, es, h1, h2, h3, h4⟩ := h ds hd
  obtain ⟨U2, i, fs, q1, q2, q3, q4⟩ := lv_loop hx hL ih (n - j) j U es (by omega) h3.le h3.ln h3.dk h1 (fun e => by
    have := h4 e
    have := cL_mono (show (L : Int) ≤ ((L + 1 : Nat) : Int) by omega) U
    omega)
  exact ⟨U2, i, fs, q1, st49 hL h2 q2, h3.trans q3, q4⟩
theorem lv_4 (hx : Wx s ls n w) (ih : IH s ls n w k) (h : T49 s ls n w 5 k) : T49 s ls n w 4 k := by
  intro ds hd
  obtain ⟨U, j, es, h1, h2, h3, h4⟩ := h ds hd
  have h7 := e76 (D := es.map Dg.pv) (hx.at' j h3.ln) (l := 4) (by omega)
  cases hf : hasOp 4 (w j).2 with
  | false =>
    rw [hf] at h7
    exact ⟨U, j, es, h1, r49_4_1 h2 (r49_4_l0_out2 (k := k) h7), h3, fun e => by
      have := h4 e
      have := cL_mono (show ((4 : Nat) : Int) ≤ ((5 : Nat) : Int) by omega) U
      omega⟩
  | true =>
    rw [hf] at h7
    have hl := hx.op h3.ln hf
    have hle := h3.le
    obtain ⟨V, i, fs, g1, g2, g3, g4⟩ := ih (j + 1) (by omega) (by omega) 5 (by omega) (by omega) es h3.dk.next
    have hle2 := g3.le
    obtain ⟨a, ha⟩ := e45_2 (D := fs.map Dg.pv) (f := k) (k := i) (hx.at' k (by omega)) (by omega) 29 (w j).2 U V
    obtain ⟨hb, ho⟩ := has_op hf
    refine ⟨_, i, fs, wf_mk (by simp [h1, g1]), r49_4_2 h2 (r49_4_l0_out1 (k := k) h7 (e44 (hx.at' j h3.ln)) g2 ha), (h3.trans (Nx.read hl h3.dk)).trans g3, fun e => ?_⟩
    have hn1 := h4 (g3.nn e)
    have hn2 := g4 e
    rw [cn_29 hb ho]
    have n0 : needV ((4 : Nat) : Int) 29 0 = ((5 : Nat) : Int) := rfl
    have n1 : needV ((4 : Nat) : Int) 29 1 = ((5 : Nat) : Int) := rfl
    rw [n0, n1]
    have := pf_mono w (show j ≤ j + 1 by omega)
    omega
theorem lv_3 (hx : Wx s ls n w) (hk : k ≤ n) (ih : IH s ls n w k) (h : T49 s ls n w 4 k) : T49 s ls n w 3 k := by
  intro ds hd
  by_cases hw : (w k).2 = [110, 111, 116]
  · have hl := hx.lt hk (by decide) hw
    obtain ⟨V, i, fs, g1, g2, g3, g4⟩ := ih (k + 1) (by omega) (by omega) 3 (by omega) (by omega) ds hd.next
    have := g3.le
    obtain ⟨a, ha⟩ := e45_1 (D := fs.map Dg.pv) (f := k) (k := i) (hx.at' k hk) (by omega) 28 [110, 111, 116] V
    refine ⟨_, i, fs, wf_mk (by simp [g1]), r49_3_1 (e68t (hx.at' k hk) (by decide) hw) g2 ha, (Nx.read hl hd).trans g3, fun e => ?_⟩
    have := g4 e
    have := pf_mono w (show k ≤ k + 1 by omega)
    rw [cn_28 (.inl ⟨rfl, rfl⟩)]
    omega
  · obtain ⟨U, j, es, h1, h2, h3, h4⟩ := h ds hd
    exact ⟨U, j, es, h1, r49_3_2 (e68f (hx.at' k hk) (by decide) hw) h2, h3, fun e => by
      have := h4 e
      have := cL_mono (show ((3 : Nat) : Int) ≤ ((4 : Nat) : Int) by omega) U
      omega⟩
theorem lv_7 (hx : Wx s ls n w) (hk : k ≤ n) (ih : IH s ls n w k) (h : ∀ ds, Dk ls k ds → TR s ls n w 75 [.ref 0 0] (cL 8) k ds) : T49 s ls n w 7 k := by
  intro ds hd
  by_cases hw : (w k).2 = [45]
  · have hl := hx.lt hk (by decide) hw
    obtain ⟨V, i, fs, g1, g2, g3, g4⟩ := ih (k + 1) (by omega) (by omega) 7 (by omega) (by omega) ds hd.next
    have := g3.le
    obtain ⟨a, ha⟩ := e45_1 (D := fs.map Dg.pv) (f := k) (k := i) (hx.at' k hk) (by omega) 28 [45] V
    refine ⟨_, i, fs, wf_mk (by simp [g1]), r49_7_1 (e68t (hx.at' k hk) (by decide) hw) g2 ha, (Nx.read hl hd).trans g3, fun e => ?_⟩
    have := g4 e
    have := pf_mono w (show k ≤ k + 1 by omega)
    rw [cn_28 (.inr ⟨rfl, rfl⟩)]
    omega
  · obtain ⟨U, j, es, h1, h2, h3, h4⟩ := h ds hd
    exact ⟨U, j, es, h1, r49_7_2 (e68f (hx.at' k hk) (by decide) hw) h2, h3, fun e => by
      have := h4 e
      have := cL_mono (show ((7 : Nat) : Int) ≤ 8 by omega) U
      omega⟩
theorem pf_par (h : (w k).2 = [40]) : pf w (k + 1) = pf w k + 1 := by rw [pf, if_pos h]
theorem lp120 (hx : Wx s ls n w) {k0 : Nat} (ih : IH s ls n w k0) : ∀ (r k : Nat) (ts : List Tr) (ds : List Dg), n - k ≤ r → k0 ≤ k → ts.length ≤ k → k ≤ n → Dk ls k ds →
    ∃ (us : List Tr) (j : Nat) (es : List Dg), (∀ u ∈ us, u.wf) ∧ LE m120_0 l120_0 [(0, some (.ref 0 0)), (3, some (.slice true 5 (Tr.pvs ts)))] (pg s ls k ds) (.exit 0) [(0, some (.ref 0 0)), (3, some (.slice true 5 (Tr.pvs (ts ++ us))))] (pg s ls j es) ∧ Nx ls n k j ds es ∧ (es = [] → sL us + pf w k ≤ pf w j) := by
  intro r
  induction r with
  | zero =>
    intro k ts ds hr h0 ht hk hd
    have hf : (w k).2 ≠ [44] := by rw [show k = n by omega, hx.en]; decide
    exact ⟨[], k, ds, by simp, by rw [List.append_nil]; exact r120_l0_out1 (e68f (hx.at' k hk) (by decide) hf), ⟨Nat.le_refl _, hk, hd, id⟩, fun _ => by simp [sL]⟩
  | succ r ihr =>
    intro k ts ds hr h0 ht hk hd
    by_cases hf : (w k).2 = [44]
    · have hl := hx.lt hk (by decide) hf
      have hn := (hx.at' n (Nat.le_refl _)).lt
      obtain ⟨V, j, es, g1, g2, g3, g4⟩ := ih (k + 1) (by omega) (by omega) 1 (by omega) (by omega) ds hd.next
      have h1 := g3.le
      obtain ⟨us, i, fs, q1, q2, q3, q4⟩ := ihr j (ts ++ [V]) es (by omega) (by omega) (by simp; omega) g3.ln g3.dk
      rw [List.append_assoc] at q2
      refine ⟨V :: us, i, fs, by simpa [g1] using q1, r120_l0_next1 (e68t (hx.at' k hk) (by decide) hf) g2 (by simp [maxRow]; omega) q2, ((Nx.read hl hd).trans g3).trans q3, fun e => ?_⟩
      have := q4 e
      have := g4 (q3.nn e)
      have := pf_mono w (show k ≤ k + 1 by omega)
      rw [sL]
      have : cL ((1 : Nat) : Int) V = cL 1 V := rfl
      omega
    · exact ⟨[], k, ds, by simp, by rw [List.append_nil]; exact r120_l0_out1 (e68f (hx.at' k hk) (by decide) hf), ⟨Nat.le_refl _, hk, hd, id⟩, fun _ => by simp [sL]⟩
theorem lp75 (hx : Wx s ls n w) {k0 : Nat} (ih : IH s ls n w k0) : ∀ (r k : Nat) (ts : List Tr) (ds : List Dg), n - k ≤ r → k0 ≤ k → ts.length ≤ k → k ≤ n → Dk ls k ds →
    ∃ (us : List Tr) (j : Nat) (es : List Dg), (∀ u ∈ us, u.wf) ∧ LE m75_0 l75_0 (F75 k0 ts) (pg s ls k ds) (.exit 1) (F75 k0 (ts ++ us)) (pg s ls j es) ∧ Nx ls n k j ds es ∧ (es = [] → sL us + pf w k ≤ pf w j) := by
  intro r
  induction r with
  | zero =>
    intro k ts ds hr h0 ht hk hd
    have hf : (w k).2 ≠ [44] := by rw [show k = n by omega, hx.en]; decide
    exact ⟨[], k, ds, by simp, by rw [List.append_nil]; exact r75_l0_out1 (e68f (hx.at' k hk) (by decide) hf), ⟨Nat.le_refl _, hk, hd, id⟩, fun _ => by simp [sL]⟩
  | succ r ihr =>
    intro k ts ds hr h0 ht hk hd
    by_cases hf : (w k).2 = [44]
    · have hl := hx.lt hk (by decide) hf
      have hn := (hx.at' n (Nat.le_refl _)).lt
      obtain ⟨V, j, es, g1, g2, g3, g4⟩ := ih (k + 1) (by omega) (by omega) 1 (by omega) (by omega) ds hd.next
      have h1 := g3.le
      obtain ⟨us, i, fs, q1, q2, q3, q4⟩ := ihr j (ts ++ [V]) es (by omega) (by omega) (by simp; omega) g3.ln g3.dk
      rw [List.append_assoc] at q2
      refine ⟨V :: us, i, fs, by simpa [g1] using q1, r75_l0_next1 (e68t (hx.at' k hk) (by decide) hf) g2 (by simp [maxRow]; omega) q2, ((Nx.read hl hd).trans g3).trans q3, fun e => ?_⟩
      have := q4 e
      have := g4 (q3.nn e)
      have := pf_mono w (show k ≤ k + 1 by omega)
      rw [sL]
      have : cL ((1 : Nat) : Int) V = cL 1 V := rfl
      omega
    · exact ⟨[], k, ds, by simp, by rw [List.append_nil]; exact r75_l0_out1 (e68f (hx.at' k hk) (by decide) hf), ⟨Nat.le_refl _, hk, hd, id⟩, fun _ => by simp [sL]⟩
theorem x120 (hx : Wx s ls n w) {k0 : Nat} (ih : IH s ls n w k0) (h0 : k0 ≤ k) (hl : k < n) (hd : Dk ls k ds) : ∃ (us : List Tr) (j : Nat) (es : List Dg), (∀ u ∈ us, u.wf) ∧ E 120 [.ref 0 0] (pg s ls k ds) (.slice false 5 (Tr.pvs us)) (pg s ls j es) ∧ Nx ls n (k + 1) j ds es ∧ (es = [] → sL us + pf w (k + 1) ≤ pf w j) := by
  have hr := e44 (D := ds.map Dg.pv) (hx.at' k (by omega))
  by_cases hw : (w (k + 1)).2 = [41]
  · obtain ⟨b, j, es, h1, h2, h3⟩ := x66 hx (show k + 1 ≤ n by omega) hd.next (x := [41]) (by decide)
    exact ⟨[], j, es, by simp, r120_1 hr (e40t (hx.at' _ (by omega)) (by decide) hw) h1, h2, fun e => by have := pf_mono w h2.le; simpa [sL] using this⟩
  · obtain ⟨U, j, es, g1, g2, g3, g4⟩ := ih (k + 1) (by omega) (by omega) 1 (by omega) (by omega) ds hd.next
    have := g3.le
    obtain ⟨us, i, fs, q1, q2, q3, q4⟩ := lp120 hx ih (n - j) j [U] es (by omega) (by omega) (by simp; omega) g3.ln g3.dk
    obtain ⟨b, i2, gs, p1, p2, p3⟩ := x66 hx q3.ln q3.dk (x := [41]) (by decide)
    rw [pvs1] at q2
    refine ⟨[U] ++ us, i2, gs, by simpa [g1] using q1, r120_2 hr (e40f (hx.at' _ (by omega)) (by decide) hw) g2 q2 p1, (g3.trans q3).trans p2, fun e => ?_⟩
    have e1 := p2.nn e
    have := q4 e1
    have := g4 (q3.nn e1)
    have := pf_mono w p2.le
    have : cL ((1 : Nat) : Int) U = cL 1 U := rfl
    rw [sL_app]; simp only [sL]
    omega
theorem x121 (hx : Wx s ls n w) (ih : IH s ls n w k) (hk : k ≤ n) (h0 : (w k).1 = 0) (hd : Dk ls k ds) : TR s ls n w 121 [.ref 0 0] (cL 8) k ds := by
  obtain ⟨U, j, es, h1, h2, h3, h4, h5⟩ := x122 hx hk hd
  have hj := h5 h0
  subst hj
  by_cases ha : (w (k + 1)).2 = [91]
  · have hl := hx.lt h3.ln (by decide) ha
    obtain ⟨V, i, fs, g1, g2, g3, g4⟩ := ih (k + 1 + 1) (by omega) (by omega) 1 (by omega) (by omega) es h3.dk.next
    have := g3.le
    obtain ⟨b, i2, gs, p1, p2, p3⟩ := x66 hx g3.ln g3.dk (x := [93]) (by decide)
    have := p2.le
    obtain ⟨a, hc⟩ := e45_2 (D := gs.map Dg.pv) (f := k) (k := i2) (hx.at' k hk) (by omega) 21 [] U V
    refine ⟨_, i2, gs, wf_mk (by simp [h1, g1]), r121_1 h2 (e68t (hx.at' _ h3.ln) (by decide) ha) g2 p1 hc, ((h3.trans (Nx.read hl h3.dk)).trans g3).trans p2, fun e => ?_⟩
    have e1 := p2.nn e
    have q1 := g4 e1
    have := h4 (g3.nn e1)
    have := pf_mono w (show k + 1 ≤ k + 1 + 1 by omega)
    have := pf_mono w p2.le
    have : cL ((1 : Nat) : Int) V = cL 1 V := rfl
    have := cn_21 (a := a) (e := (en ls i2 : Nat)) (n := false) (U := U) (V := V)
    omega
  · by_cases hb : (w (k + 1)).2 = [46]
    · have hl := hx.lt h3.ln (by decide) hb
      obtain ⟨t, i, fs, g1, g2, g3, g4⟩ := x65 hx (show k + 1 + 1 ≤ n by omega) h3.dk.next
      have := g2.le
      obtain ⟨a, hc⟩ := e45_1 (D := fs.map Dg.pv) (f := k) (k := i) (hx.at' k hk) (by omega) 22 t U
      refine ⟨_, i, fs, wf_mk (by simp [h1]), r121_2 h2 (e68f (hx.at' _ h3.ln) (by decide) ha) (e68t (hx.at' _ h3.ln) (by decide) hb) g1 hc, (h3.trans (Nx.read hl h3.dk)).trans g2, fun e => ?_⟩
      obtain ⟨rfl, rfl⟩ := g3 e
      have := h4 (g2.nn e)
      have := pf_mono w (show k + 1 ≤ k + 1 + 1 by omega)
      have := cn_22 (t := (w (k + 1 + 1)).2) (a := a) (e := (en ls (k + 1 + 1 + 1) : Nat)) (n := false) (U := U)
      have hp : pf w (k + 1 + 1 + 1) = pf w (k + 1 + 1) + (if (w (k + 1 + 1)).2 = [40] then 1 else 0) := rfl
      omega
    · exact ⟨U, k + 1, es, h1, r121_3 h2 (e68f (hx.at' _ h3.ln) (by decide) ha) (e68f (hx.at' _ h3.ln) (by decide) hb), h3, h4⟩
theorem x75 (hx : Wx s ls n w) (ih : IH s ls n w k) (hk : k ≤ n) (hd : Dk ls k ds) : TR s ls n w 75 [.ref 0 0] (cL 8) k ds := by
  have hA := hx.at' k hk
  have q1 := e39 (D := ds.map Dg.pv) hA
  have hnx : ∀ h : k < n, Nx ls n k (k + 1) ds ds := fun h => Nx.read h hd
  by_cases h2 : (w k).1 = 2
  · have hl := hx.lt0 hk (by omega)
    have hn := hx.num k hl h2
    simp only [numOk, Bool.and_eq_true] at hn
    obtain ⟨t, ht, h40⟩ := x118 _ hn.2
    obtain ⟨a, ha⟩ := e45n (D := ds.map Dg.pv) (f := k) (k := k + 1) hA (by omega) 24 t
    refine ⟨_, k + 1, ds, wf_nil, r75_1 q1 (by omega) (e44 hA) (r118 ht) ha, hnx hl, fun _ => ?_⟩
    rw [cn_24, if_neg h40]
    have := pf_mono w (show k ≤ k + 1 by omega)
    omega
  have h2' : (((w k).1 : Nat) : Int) ≠ 2 := by omega
  by_cases ht : (w k).2 = [116, 114, 117, 101]
  · have hl := hx.lt hk (by decide) ht
    obtain ⟨a, ha⟩ := e45n (D := ds.map Dg.pv) (f := k) (k := k + 1) hA (by omega) 25 (w k).2
    refine ⟨_, k + 1, ds, wf_nil, r75_2 q1 h2' (e40t hA (by decide) ht) (e44 hA) ha, hnx hl, fun _ => ?_⟩
    rw [cn_25, if_neg (by rw [ht]; decide)]
    have := pf_mono w (show k ≤ k + 1 by omega)
    omega
  have t1 := e40f (D := ds.map Dg.pv) hA (by decide) ht
  by_cases hf : (w k).2 = [102, 97, 108, 115, 101]
  · have hl := hx.lt hk (by decide) hf
    obtain ⟨a, ha⟩ := e45n (D := ds.map Dg.pv) (f := k) (k := k + 1) hA (by omega) 25 (w k).2
    refine ⟨_, k + 1, ds, wf_nil, r75_3 q1 h2' t1 (e40t hA (by decide) hf) (e44 hA) ha, hnx hl, fun _ => ?_⟩
    rw [cn_25, if_neg (by rw [hf]; decide)]
    have := pf_mono w (show k ≤ k + 1 by omega)
    omega
  have f1 := e40f (D := ds.map Dg.pv) hA (by decide) hf
  by_cases h0 : (w k).1 = 0
  · have hl := hx.lt0 hk (by omega)
    have hb := e119 (D := ds.map Dg.pv) hA.lt (hx.at' (k + 1) (by omega))
    by_cases hp : (w (k + 1)).2 = [40]
    · have hl2 := hx.lt (show k + 1 ≤ n by omega) (by decide) hp
      obtain ⟨us, j, es, g1, g2, g3, g4⟩ := x120 hx ih (show k ≤ k + 1 by omega) hl2 hd.next
      have := g3.le
      obtain ⟨a, ha⟩ := e45 (D := es.map Dg.pv) (f := k) (k := j) hA (by omega) 27 (w k).2 us
      refine ⟨_, j, es, wf_mk g1, r75_4 q1 h2' t1 f1 q1 (by omega) hb hp (e44 hA) g2 ha, ((hnx hl).trans (Nx.read hl2 hd.next)).trans g3, fun e => ?_⟩
      have := g4 e
      have e1 := pf_par hp
      have e2 : pf w (k + 1) = pf w k + (if (w k).2 = [40] then 1 else 0) := rfl
      rw [cn_27]
      omega
    · obtain ⟨U, j, es, g1, g2, g3, g4⟩ := x121 hx ih hk h0 hd
      exact ⟨U, j, es, g1, r75_6 q1 h2' t1 f1 q1 (by omega) hb hp q1 (by omega) g2, g3, g4⟩
  have h0' : (((w k).1 : Nat) : Int) ≠ 0 := by omega
  by_cases hb : (w k).2 = [91]
  · have hl := hx.lt hk (by decide) hb
    obtain ⟨U, j, es, g1, g2, g3, g4⟩ := ih (k + 1) (by omega) (by omega) 1 (by omega) (by omega) ds hd.next
    have := g3.le
    obtain ⟨us, i, fs, p1, p2, p3, p4⟩ := lp75 hx ih (n - j) j [U] es (by omega) (by omega) (by simp; omega) g3.ln g3.dk
    obtain ⟨b, i2, gs, o1, o2, o3⟩ := x66 hx p3.ln p3.dk (x := [93]) (by decide)
    have := p3.le
    have := o2.le
    obtain ⟨a, ha⟩ := e45 (D := gs.map Dg.pv) (f := k) (k := i2) hA (by omega) 26 [] ([U] ++ us)
    unfold F75 at p2
    rw [pvs1] at p2
    refine ⟨_, i2, gs, wf_mk (by simpa [g1] using p1), r75_7 q1 h2' t1 f1 q1 h0' q1 h0' (e68t hA (by decide) hb) g2 p2 o1 ha, (((hnx hl).trans g3).trans p3).trans o2, fun e => ?_⟩
    have e1 := o2.nn e
    have := p4 e1
    have := g4 (p3.nn e1)
    have := pf_mono w (show k ≤ k + 1 by omega)
    have := pf_mono w o2.le
    have : cL ((1 : Nat) : Int) U = cL 1 U := rfl
    rw [cn_26, sL_app]; simp only [sL]
    omega
  have b1 := e68f (D := ds.map Dg.pv) hA (by decide) hb
  by_cases hn : (w k).2 = [108, 101, 110]
  · have hl := hx.lt hk (by decide) hn
    obtain ⟨c1, j1, d1, a1, a2, a3⟩ := x66 hx (show k + 1 ≤ n by omega) hd.next (x := [40]) (by decide)
    obtain ⟨U, j, es, g1, g2, g3, g4, _⟩ := x122 hx a2.ln a2.dk
    obtain ⟨c2, i2, gs, o1, o2, o3⟩ := x66 hx g3.ln g3.dk (x := [41]) (by decide)
    have := a2.le
    have := g3.le
    have := o2.le
    obtain ⟨a, ha⟩ := e45_1 (D := gs.map Dg.pv) (f := k) (k := i2) hA (by omega) 23 [] U
    refine ⟨_, i2, gs, wf_mk (by simp [g1]), r75_9 q1 h2' t1 f1 q1 h0' q1 h0' b1 (e68t hA (by decide) hn) a1 g2 o1 ha, (((hnx hl).trans a2).trans g3).trans o2, fun e => ?_⟩
    have e1 := o2.nn e
    have := g4 e1
    obtain ⟨rfl, h40⟩ := a3 (g3.nn e1)
    have := pf_par h40
    have := pf_mono w (show k ≤ k + 1 by omega)
    have := pf_mono w o2.le
    have := cn_23 (a := a) (e := (en ls i2 : Nat)) (n := false) (U := U)
    omega
  have n1 := e68f (D := ds.map Dg.pv) hA (by decide) hn
  by_cases hp : (w k).2 = [40]
  · have hl := hx.lt hk (by decide) hp
    obtain ⟨U, j, es, g1, g2, g3, g4⟩ := ih (k + 1) (by omega) (by omega) 1 (by omega) (by omega) ds hd.next
    obtain ⟨c2, i2, gs, o1, o2, o3⟩ := x66 hx g3.ln g3.dk (x := [41]) (by decide)
    refine ⟨U, i2, gs, g1, r75_11 q1 h2' t1 f1 q1 h0' q1 h0' b1 n1 (e68t hA (by decide) hp) g2 o1, ((hnx hl).trans g3).trans o2, fun e => ?_⟩
    have := g4 (o2.nn e)
    have := pf_par hp
    have := pf_mono w o2.le
    have := cL_le 8 U
    have := le_cL ((1 : Nat) : Int) U
    omega
  · obtain ⟨es, h1, h2, h3⟩ := x43 hx hk hd 5 []
    obtain ⟨a, ha⟩ := e45f hx hk (Nat.le_refl k) 1 [] (D := es.map Dg.pv)
    exact ⟨_, k, es, wf_nil, r75_12 q1 h2' t1 f1 q1 h0' q1 h0' b1 n1 (e68f hA (by decide) hp) h1 ha, h3, fun e => absurd e h2⟩
theorem total (hx : Wx s ls n w) : ∀ (r k : Nat), n - k ≤ r → k ≤ n → ∀ L, 1 ≤ L → L ≤ 7 → T49 s ls n w L k := by
  intro r
  induction r using Nat.strongRecOn with
  | _ r ihr =>
    intro k hr hk
    have ih : IH s ls n w k := fun k' h1 h2 L hL hL' => ihr (n - k') (by omega) k' (Nat.le_refl _) h2 L hL hL'
    have l7 := lv_7 hx hk ih fun ds hd => x75 hx ih hk hd
    have l6 := lv_op hx (L := 6) (by omega) ih l7
    have l5 := lv_op hx (L := 5) (by omega) ih l6
    have l4 := lv_4 hx ih l5
    have l3 := lv_3 hx hk ih l4
    have l2 := lv_op hx (L := 2) (by omega) ih l3
    have l1 := lv_op hx (L := 1) (by omega) ih l2
    intro L hL hL'
    match L, hL, hL' with
    | 1, _, _ => exact l1
    | 2, _, _ => exact l2
    | 3, _, _ => exact l3
    | 4, _, _ => exact l4
    | 5, _, _ => exact l5
    | 6, _, _ => exact l6
    | 7, _, _ => exact l7
end
end Go.Abs.Z
