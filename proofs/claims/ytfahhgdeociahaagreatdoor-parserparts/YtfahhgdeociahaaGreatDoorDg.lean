/- A part of the proof: D19 D20 D21 D22 D23. -/
import Derived.Test.YtfahhgdeociahaaGreatDoorWe
import Derived.Test.YtfahhgdeociahaaGreatDoorDa
import Derived.Test.YtfahhgdeociahaaGreatDoorDf
import Derived.Test.YtfahhgdeociahaaGreatDoorWf

set_option linter.unusedVariables false
set_option linter.unusedSimpArgs false
namespace Go.Abs.Z
open Go.Proofs Go.RowKit
def kdE (kd : Nat) : Bool := kd == 6 || kd == 11 || kd == 19 || kd == 27
mutual

def trR (ls : List Tk) : AT → Tr
  | .mk kd tx f k b ks => .mk kd tx (match trRs ls ks with | [] => if f < k then (tA ls f : Nat) else (en ls k : Nat) | u :: _ => min (if f < k then ((tA ls f : Nat) : Int) else (en ls k : Nat)) u.st) (en ls k : Nat) (ks.isEmpty && !(b && kdE kd)) (trRs ls ks)
def trRs (ls : List Tk) : List AT → List Tr
  | [] => []
  | x :: xs => trR ls x :: trRs ls xs
end
theorem BzF (ls : List Tk) : ∀ xs : List AT, trRs ls xs = xs.map (trR ls)
  | [] => rfl
  | x :: xs => by rw [trRs, BzF ls xs]; rfl
theorem trRs_snoc (ls : List Tk) (xs : List AT) (x : AT) : trRs ls (xs ++ [x]) = trRs ls xs ++ [trR ls x] := by simp [BzF]
theorem trRs_len (ls : List Tk) (xs : List AT) : (trRs ls xs).length = xs.length := by simp [BzF]
def RS4 (s : List UInt8) (ls : List Tk) (k : Nat) (D : List AD) : Sto := [qc s ls k (en ls k) (D.map (dgp ls))]
section
variable {s : List UInt8} {ls : List Tk} {m : Nat} {k f : Nat} {D : List AD}
theorem ldK : semR (.ld 1 false) [.ref 0 2] (RS4 s ls k D) = some [some (N k)] := rfl
theorem u25 (H : Toks s ls m) (h : k ≤ m) : E 25 [rf] (RS4 s ls k D) (N (wAt s ls k).1) (RS4 s ls k D) := by
  obtain ⟨t, ht⟩ := H.at h;rw [AjI ht];exact r25 ht
theorem u65 (H : Toks s ls m) {i : Nat} {t : Tk} (ht : ls[i]? = some t) : E 65 [.str s, t.pv] [] (.str (wd s t)) [] := by
  obtain ⟨h1, h2⟩ := H.ord i t ht;exact r65 (p_ssl s t.a t.e h1 h2)
theorem u56 (H : Toks s ls m) (h : k ≤ m) : E 56 [rf] (RS4 s ls k D) (.str (wAt s ls k).2) (RS4 s ls k D) := by
  obtain ⟨t, ht⟩ := H.at h;rw [AjI ht];exact r56 ht (u65 H ht)
theorem H5 (H : Toks s ls m) (h : k ≤ m) (h5 : (wAt s ls k).1 = 5) : k = m := by
  rcases Nat.lt_or_ge k m with h' | h'
  · obtain ⟨t, ht⟩ := H.at h;have := H.kd k t ht h';rw [AjI ht] at h5
    simp only at h5
    omega
  · omega
theorem isR (H : Toks s ls m) (hk : k ≤ m) (w : List UInt8) {b : Bool} (hb : [w].contains (wAt s ls k).2 = b) (hw : w ≠ [] := by simp) : E 26 [rf, .str w] (RS4 s ls k D) (.bool b) (RS4 s ls k D) := by
  by_cases h5 : (wAt s ls k).1 = 5
  · have := H5 H hk h5;subst this;rw [H.end'] at hb
    have : b = false := by
      rw [← hb];simp only [List.contains_cons, List.contains_nil, Bool.or_false, beq_eq_false_iff_ne];exact fun e => hw e.symm
    rw [this];exact r26_2 (u25 H hk) (by omega)
  · have h := r26_1 (w := w) (u25 (D := D) H hk) (by omega) (u56 H hk)
    have e : ((wAt s ls k).2 == w) = b := by rw [← hb]; simp only [List.contains_cons, List.contains_nil, Bool.or_false]
    rwa [e] at h
theorem u30 (H : Toks s ls m) (h : k < m) : E 30 [rf] (RS4 s ls k D) (.str (wAt s ls k).2) (RS4 s ls (k + 1) D) := by
  obtain ⟨t, ht⟩ := H.at (Nat.le_of_lt h);have := H.big;have h2 := r30 (u56 (D := D) H (Nat.le_of_lt h)) ht (by omega)
  have e : en ls (k + 1) = t.e := tE_eq ht;unfold RS4;rw [e]; exact h2
theorem u29 (H : Toks s ls m) (h : k ≤ m) (hD : Dok k D) (c : Nat) (x : List UInt8) : E 29 [rf, N c, .str x] (RS4 s ls k D) (.tuple []) (RS4 s ls k (rp D c k x)) := by
  obtain ⟨t, ht⟩ := H.at h;have hb := H.big;have hl := hD.small
  have e4 : dgp ls ⟨c, k, x⟩ = (.agg [N c, N t.a, N t.e, .str x, .nils]) := by
    show (Dg.mk c (tA ls k) (tE ls k) x).pv = _;rw [tA_eq ht, tE_eq ht]; rfl
  have hm : (D.map (dgp ls)).length + 1 ≤ Aq8 := by rw [List.length_map]; unfold Aq8; omega
  have hsn : D.map (dgp ls) ++ [.agg [N c, N t.a, N t.e, .str x, .nils]] = (D ++ [(⟨c, k, x⟩ : AD)]).map (dgp ls) := by rw [List.map_append, ← e4]; rfl
  unfold rp;rcases Nat.eq_zero_or_pos D.length with h0 | h0
  · have hD0 := List.length_eq_zero_iff.1 h0;subst hD0;have := r29_1 (s := s) (ls := ls) (k := k) (l := en ls k) (es := ([] : List AD).map (dgp ls)) (c := c) (tx := x) ht (by simp) hm
    rw [hsn] at this;exact this
  · have hlast : D[D.length - 1]? = some D[D.length - 1] := List.getElem?_eq_getElem (by omega)
    have hg : (D.map (dgp ls))[(D.map (dgp ls)).length - 1]? = some (dgA ls D[D.length - 1]).pv := by
      rw [List.length_map, List.getElem?_map, hlast]; rfl
    have hi := hD.2 _ (List.getElem_mem (by omega : D.length - 1 < D.length))
    obtain ⟨u, hu⟩ := H.at (k := D[D.length - 1].i) (by omega)
    have ea : (dgA ls D[D.length - 1]).a = u.a := tA_eq hu;have hgl : D.getLast? = some D[D.length - 1] := by rw [List.getLast?_eq_getElem?]; exact hlast
    rw [hgl, Option.map_some];by_cases hc : D[D.length - 1].i = k
    · rw [if_pos (by rw [hc])]
      rw [hc] at hu;rw [ht] at hu;cases hu;exact r29_2 ht (by rw [List.length_map]; omega) (by rw [List.length_map]; omega) (by rw [List.length_map]; omega) hg (by omega)
    · rw [if_neg (fun e => hc (Option.some.inj e))]
      have hlt := (H.inc _ _ _ _ hu ht (by omega)).1
      have := r29_3 (s := s) (l := en ls k) (c := c) (tx := x) ht (by rw [List.length_map]; omega) (by rw [List.length_map]; omega) (by rw [List.length_map]; omega) hg (by omega) hm
      rw [hsn] at this;exact this
theorem ndR0 (H : Toks s ls m) (hf : f ≤ k) (hk : k ≤ m) (kd : Nat) (tx : List UInt8) (b : Bool) (hb : (b && kdE kd) = false := by rfl) : E 31 [rf, N f, N kd, .str tx, .nils] (RS4 s ls k D) (trR ls (.mk kd tx f k b [])).pv (RS4 s ls k D) := by
  by_cases h : f < k
  · obtain ⟨t, ht⟩ := H.at (k := f) (by omega)
    have := r31n_1 (s := s) (l := en ls k) (es := D.map (dgp ls)) (kd := (kd : Int)) (tx := tx) (k := k) (by omega) ht
    have e : (trR ls (.mk kd tx f k b [])).pv = .agg [N kd, .str tx, N t.a, N (en ls k), .nils] := by
      rw [trR]; simp only [trRs, if_pos h, tA_eq ht, hb]; rfl
    rw [e]; exact this
  · have := r31n_2 (s := s) (ls := ls) (l := en ls k) (es := D.map (dgp ls)) (kd := (kd : Int)) (tx := tx) (k := k) (fi := f) (by omega)
    have e : (trR ls (.mk kd tx f k b [])).pv = .agg [N kd, .str tx, N (en ls k), N (en ls k), .nils] := by
      rw [trR]; simp only [trRs, if_neg h, hb]; rfl
    rw [e]; exact this
theorem ndRe (H : Toks s ls m) (hf : f ≤ k) (hk : k ≤ m) (kd : Nat) (tx : List UInt8) (hb : kdE kd = true := by rfl) : E 31 [rf, N f, N kd, .str tx, .slice false 5 []] (RS4 s ls k D) (trR ls (.mk kd tx f k true [])).pv (RS4 s ls k D) := by
  by_cases h : f < k
  · obtain ⟨t, ht⟩ := H.at (k := f) (by omega)
    have := r31_1 (s := s) (l := en ls k) (es := D.map (dgp ls)) (kd := (kd : Int)) (tx := tx) (k := k) (us := []) (by omega) ht (by simp)
    have e : (trR ls (.mk kd tx f k true [])).pv = .agg [N kd, .str tx, N t.a, N (en ls k), .slice false 5 (Tr.pvs [])] := by
      rw [trR]; simp only [trRs, if_pos h, tA_eq ht, hb]; rfl
    rw [e]; exact this
  · have := r31_2 (s := s) (ls := ls) (l := en ls k) (es := D.map (dgp ls)) (kd := (kd : Int)) (tx := tx) (k := k) (fi := f) (us := []) (by omega) (by simp)
    have e : (trR ls (.mk kd tx f k true [])).pv = .agg [N kd, .str tx, N (en ls k), N (en ls k), .slice false 5 (Tr.pvs [])] := by
      rw [trR]; simp only [trRs, if_neg h, hb]; rfl
    rw [e]; exact this
theorem ndR1 (H : Toks s ls m) (hf : f ≤ k) (hk : k ≤ m) (kd : Nat) (tx : List UInt8) (b : Bool) (us : List AT) (hu : us ≠ []) : E 31 [rf, N f, N kd, .str tx, .slice false 5 (Tr.pvs (trRs ls us))] (RS4 s ls k D) (trR ls (.mk kd tx f k b us)).pv (RS4 s ls k D) := by
  cases us with
  | nil => exact absurd rfl hu
  | cons u us =>
    have hl : (((trRs ls (u :: us)).length : Nat) : Int) > 0 := by simp [trRs]
    have h0 : (trRs ls (u :: us))[0]? = some (trR ls u) := rfl
    have e (x : Int) (hx : x = min (if f < k then ((tA ls f : Nat) : Int) else (en ls k : Nat)) (trR ls u).st) : (trR ls (.mk kd tx f k b (u :: us))).pv = .agg [N kd, .str tx, I x, N (en ls k), .slice false 5 (Tr.pvs (trRs ls (u :: us)))] := by
      subst hx;rw [trR]; rfl
    by_cases h : f < k
    · obtain ⟨t, ht⟩ := H.at (k := f) (by omega)
      rw [if_pos h, tA_eq ht] at e;by_cases hc : (trR ls u).st < ((t.a : Nat) : Int)
      · rw [e (trR ls u).st (by omega)]
        exact r31_3 (by omega) ht hl h0 hc h0
      · rw [e ((t.a : Nat) : Int) (by omega)]
        exact r31_4 (by omega) ht hl h0 hc
    · rw [if_neg h] at e;by_cases hc : (trR ls u).st < ((en ls k : Nat) : Int)
      · rw [e (trR ls u).st (by omega)]
        exact r31_5 (by omega) hl h0 hc h0
      · rw [e ((en ls k : Nat) : Int) (by omega)]
        exact r31_6 (by omega) hl h0 hc
end
theorem dgt_cons (c : UInt8) (x : List UInt8) : dgt (c :: x) = if c = 48 then (if x = [] then [48] else dgt x) else c :: x := by
  unfold dgt;by_cases h : c = 48
  · subst h;cases x with
    | nil => simp
    | cons d x => simp
  · simp [h]
theorem e120 (x : List UInt8) (hx : x.length < 1000000) : E 120 [.str x] [] (.str (dgt x)) [] := by
  refine r120 ?_
  have key : ∀ (n : Nat) (x : List UInt8), x.length = n → n < 1000000 → LE BxM BxR [(0, some (.str x))] [] (.exit 0) [(0, some (.str (dgt x)))] [] := by
    intro n
    induction n with
    | zero =>
      intro x hx _;have : x = [] := List.length_eq_zero_iff.1 hx;subst this;exact AjT (by simp)
    | succ n ih =>
      intro x hx hn;cases x with
      | nil => simp at hx
      | cons c x =>
        rw [dgt_cons];by_cases hc : c = 48
        · subst hc;rw [if_pos rfl];cases x with
          | nil => exact AjT (by simp)
          | cons d x =>
            rw [if_neg (by simp)]
            refine BjJ (c2 := 48) (s2 := d :: x) (by simp; omega) rfl rfl ?_ (ih (d :: x) (by simpa using hx) (by omega))
            have h1 : (1 : Int) ≤ ((((48 : UInt8) :: d :: x).length : Nat) : Int) := by simp; omega
            simp [semP, cutB, h1];simpa using h1
        · rw [if_neg hc];by_cases hl : x = []
          · subst hl; exact AjT (by simp)
          · have := List.length_pos_iff.2 hl;refine r120_l0_out2 (c2 := c) (by simp; omega) rfl ?_
            intro e;apply hc;have : c.toNat = 48 := by omega
            exact UInt8.toNat_inj.1 this
  exact key _ x rfl hx
theorem e114 (ws : List (List UInt8)) (x : List UInt8) (hl : ws.length < 1000) : E 114 [.slice false 1 (ws.map PV.str), .str x] [] (.bool (ws.contains x)) [] := by
  have key : ∀ (n j : Nat), j + n = ws.length → (∀ i, i < j → ws[i]? ≠ some x) →
      (LE Aw3 Aw7 [(0, some (.slice false 1 (ws.map PV.str))), (1, some (.str x)), (5, some (N j))] [] .ret [(4, some (.bool true))] [] ∧ ws.contains x = true) ∨
      (LE Aw3 Aw7 [(0, some (.slice false 1 (ws.map PV.str))), (1, some (.str x)), (5, some (N j))] [] (.exit 0) [] [] ∧ ws.contains x = false) := by
    intro n
    induction n with
    | zero =>
      intro j hj h;refine .inr ⟨r114_l0_out1 (by omega), ?_⟩
      rw [← Bool.not_eq_true, List.contains_iff_mem, List.mem_iff_getElem?]
      rintro ⟨i, hi⟩
      have := (List.getElem?_eq_some_iff.1 hi).1
      exact h i (by omega) hi
    | succ n ih =>
      intro j hj h;have hlt : j < ws.length := by omega
      have hg := List.getElem?_eq_getElem hlt
      by_cases hx : ws[j] = x
      · refine .inl ⟨r114_l0_out2 (by omega) hg hx, ?_⟩
        rw [List.contains_iff_mem, ← hx]; exact List.getElem_mem hlt
      · rcases ih (j + 1) (by omega) (fun i hi => by
          rcases Nat.lt_or_ge i j with h' | h'
          · exact h i h'
          · have : i = j := by omega
            subst this; rw [hg]; intro e; exact hx (Option.some.inj e)) with ⟨h1, h2⟩ | ⟨h1, h2⟩
        · exact .inl ⟨AkW (by omega) hg hx (by omega) h1, h2⟩
        · exact .inr ⟨AkW (by omega) hg hx (by omega) h1, h2⟩
  rcases key ws.length 0 (by omega) (fun i h => by omega) with ⟨h1, h2⟩ | ⟨h1, h2⟩
  · rw [h2]; exact r114_2 h1
  · rw [h2]; exact r114_1 h1
section
variable {s : List UInt8} {ls : List Tk} {m : Nat} {k f : Nat} {D : List AD} {c : NT → Nat → List AD → Ans3} {r : Rs × Nat × List AD} {p q : Pg}
theorem v29 (H : Toks s ls m) {e : Nat} {t : List UInt8} (h : G4 s ls m c r (.report e t p) k D) : E 29 [rf, N e, .str t] (RS4 s ls k D) (.tuple []) (RS4 s ls k (rp D e k t)) ∧ G4 s ls m c r p k (rp D e k t) :=
  ⟨u29 H h.le h.ok e t, h.rep⟩
theorem vread (H : Toks s ls m) (h : G4 s ls m c r (.read p) k D) : E 30 [rf] (RS4 s ls k D) (.str (wAt s ls k).2) (RS4 s ls (k + 1) D) ∧ G4 s ls m c r p (k + 1) D := by
  obtain ⟨h1, h2⟩ := h.read (w5 H);exact ⟨u30 H h1, h2⟩
theorem vrd (H : Toks s ls m) {g : List UInt8 → Pg} (h : G4 s ls m c r (Pg.rd g) k D) : E 30 [rf] (RS4 s ls k D) (.str (wAt s ls k).2) (RS4 s ls (k + 1) D) ∧ G4 s ls m c r (g (wAt s ls k).2) (k + 1) D := by
  obtain ⟨h1, h2⟩ := h.rd (w5 H);exact ⟨u30 H h1, h2⟩
theorem acT (H : Toks s ls m) (hk : k < m) (x : List UInt8) (hc : [x].contains (wAt s ls k).2 = true) (hx : x ≠ [] := by simp) : E 60 [rf, .str x] (RS4 s ls k D) (.bool true) (RS4 s ls (k + 1) D) :=
  r60_1 (isR H (Nat.le_of_lt hk) x hc hx) (u30 H hk)
theorem acF (H : Toks s ls m) (hk : k ≤ m) (x : List UInt8) (hc : [x].contains (wAt s ls k).2 = false) (hx : x ≠ [] := by simp) : E 60 [rf, .str x] (RS4 s ls k D) (.bool false) (RS4 s ls k D) :=
  r60_2 (isR H hk x hc hx)
theorem vac (H : Toks s ls m) (x : List UInt8) (h : G4 s ls m c r (Pg.ifW [x] (.read p) q) k D) (hx : x ≠ [] := by simp) :
    (E 60 [rf, .str x] (RS4 s ls k D) (.bool true) (RS4 s ls (k + 1) D) ∧ G4 s ls m c r p (k + 1) D ∧ [x].contains (wAt s ls k).2 = true) ∨ (E 60 [rf, .str x] (RS4 s ls k D) (.bool false) (RS4 s ls k D) ∧ G4 s ls m c r q k D ∧ [x].contains (wAt s ls k).2 = false) := by
  rcases h.ifW with ⟨hc, h⟩ | ⟨hc, h⟩
  · have h2 := (h.read (w5 H));exact .inl ⟨acT H h2.1 x hc hx, h2.2, hc⟩
  · exact .inr ⟨acF H h.le x hc hx, h, hc⟩
theorem vxp (H : Toks s ls m) (x : List UInt8) (h : G4 s ls m c r (Pg.xp x p) k D) (hx : x ≠ [] := by simp) :
    ∃ k1 D1 b, k ≤ k1 ∧ E 58 [rf, .str x] (RS4 s ls k D) (.bool b) (RS4 s ls k1 D1) ∧ G4 s ls m c r p k1 D1 := by
  rcases vac H x h hx with ⟨h1, h2, _⟩ | ⟨h1, h2, _⟩
  · exact ⟨_, _, _, by omega, r58_1 h1, h2⟩
  · obtain ⟨h3, h4⟩ := v29 H h2;exact ⟨_, _, _, Nat.le_refl _, r58_2 h1 h3, h4⟩
theorem vnm (H : Toks s ls m) {g : List UInt8 → Pg} (h : G4 s ls m c r (Pg.nm g) k D) : ∃ x k1 D1, k ≤ k1 ∧ E 57 [rf] (RS4 s ls k D) (.str x) (RS4 s ls k1 D1) ∧ G4 s ls m c r (g x) k1 D1 := by
  rcases h.ifK with ⟨hc, h⟩ | ⟨hc, h⟩
  · obtain ⟨h1, h2⟩ := vrd H h;exact ⟨_, _, _, by omega, r57_1 (u25 H (by have := h2.le; omega)) (by omega) h1, h2⟩
  · obtain ⟨h3, h4⟩ := v29 H h;exact ⟨_, _, _, Nat.le_refl _, r57_2 (u25 H h.le) (by omega) h3, h4⟩
theorem eq_w {x y : List UInt8} (h : [x].contains y = true) : y = x := by simpa using h
theorem ne_w {x y z : List UInt8} (h : [x].contains z = true) (hxy : [y].contains x = false) : [y].contains z = false := by rw [eq_w h]; exact hxy
theorem vwr (H : Toks s ls m) {g : AT → Pg} (h : G4 s ls m c r (written g) k D) : ∃ x k1 D1, k ≤ k1 ∧ E 62 [rf] (RS4 s ls k D) (trR ls x).pv (RS4 s ls k1 D1) ∧ G4 s ls m c r (g x) k1 D1 := by
  rcases vac H [58] h with ⟨a1, h, _⟩ | ⟨a1, h, _⟩
  · have hk1 : k + 1 ≤ m := h.le;have h := h.mrk;have hok := h.ok;rcases vac H wInt h with ⟨a2, h, b2⟩ | ⟨a2, h, b2⟩
    · have a0 := acF (D := D) H hk1 wBool (ne_w b2 (by decide))
      rcases vac H [91] h with ⟨a3, h, _⟩ | ⟨a3, h, _⟩
      · rcases G3.ifK (show G4 s ls m c r (Pg.ifK 2 (Pg.rd fun x => Pg.xp [93] (Pg.bd 10 (dgt x) (k + 1) false [] g)) (.report 4 wNumber (Pg.xp [93] (Pg.bd 10 [] (k + 1) false [] g)))) (k + 1 + 1 + 1) D from h) with ⟨hc, h⟩ | ⟨hc, h⟩
        · have hk3 := h.le;obtain ⟨a4, h⟩ := vrd H h;obtain ⟨k2, D2, b, l2, a5, h⟩ := vxp H [93] h;exact ⟨_, _, _, by omega, r62_1 a1 (r110_5 ldK a0 a2 a3 (u25 H hk3) (by omega) a4 (e120 _ (wd_len H _)) a5 (ndR0 H (by omega) h.le 10 _ false)), h.bd⟩
        · obtain ⟨a4, h4⟩ := v29 H h;obtain ⟨k2, D2, b, l2, a5, h5⟩ := vxp H [93] h4;exact ⟨_, _, _, by omega, r62_1 a1 (r110_6 ldK a0 a2 a3 (u25 H h.le) (by omega) a4 a5 (ndR0 H (by omega) h5.le 10 _ false)), h5.bd⟩
      · exact ⟨_, _, _, by omega, r62_1 a1 (r110_2 ldK a0 a2 a3 (ndR0 H (by omega) h.le 9 wInt false)), h.bd⟩
    · rcases vac H wBool h with ⟨a3, h, _⟩ | ⟨a3, h, _⟩
      · exact ⟨_, _, _, by omega, r62_1 a1 (r110_1 ldK a3 (ndR0 H (by omega) h.le 9 wBool false)), h.bd⟩
      · rcases h.ifK with ⟨hc, h⟩ | ⟨hc, h⟩
        · obtain ⟨a4, h⟩ := vrd H h;exact ⟨_, _, _, by omega, r62_1 a1 (r110_3 ldK a3 a2 (u25 H hk1) (by omega) a4 (ndR0 H (by omega) h.le 9 _ false)), h.bd⟩
        · obtain ⟨a4, h4⟩ := v29 H h;exact ⟨_, _, _, by omega, r62_1 a1 (r110_4 ldK a3 a2 (u25 H hk1) (by omega) a4 (ndR0 H (Nat.le_refl _) hk1 1 [] false)), h4.mrk.bd⟩
  · exact ⟨_, _, _, Nat.le_refl _, r62_2 a1 ldK (ndR0 H (Nat.le_refl _) h.le 0 [] false), h.mrk.bd⟩
theorem not_two {x y z : List UInt8} (h : [x, y].contains z = false) : [x].contains z = false ∧ [y].contains z = false := by
  simp only [List.contains_cons, List.contains_nil, Bool.or_false, Bool.or_eq_false_iff] at h ⊢;exact h
theorem is_two {x y z : List UInt8} (h : [x, y].contains z = true) (h1 : [x].contains z = false) : [y].contains z = true := by
  simp only [List.contains_cons, List.contains_nil, Bool.or_false, Bool.or_eq_true] at h h1 ⊢;rw [h1] at h; simpa using h
theorem vfield (H : Toks s ls m) {g : AT → Pg} (h : G4 s ls m c r (fieldP g) k D) : ∃ x k1 D1, k ≤ k1 ∧ E 59 [rf] (RS4 s ls k D) (trR ls x).pv (RS4 s ls k1 D1) ∧ G4 s ls m c r (g x) k1 D1 := by
  obtain ⟨x, k1, D1, l1, a1, h⟩ := vnm H h.mrk;obtain ⟨k2, D2, b, l2, a2, h⟩ := vxp H [58] h;have hk2 := h.le;rcases h.ifW with ⟨hc, h⟩ | ⟨hc, h⟩
  · obtain ⟨a3, h⟩ := vrd H h.mrk;cases hi : [wInt].contains (wAt s ls k2).2 with
    | true => exact ⟨_, _, _, by omega, r59_1 ldK a1 a2 ldK (isR H hk2 wInt hi) a3 (ndR0 H (by omega) h.le 9 _ false) (ndR1 H (by omega) h.le 4 x false [_] (by simp)), h.bd.bd⟩
    | false => exact ⟨_, _, _, by omega, r59_2 ldK a1 a2 ldK (isR H hk2 wInt hi) (isR H hk2 wBool (is_two hc hi)) a3 (ndR0 H (by omega) h.le 9 _ false) (ndR1 H (by omega) h.le 4 x false [_] (by simp)), h.bd.bd⟩
  · obtain ⟨b1, b2⟩ := not_two hc;obtain ⟨a3, h⟩ := v29 H h;exact ⟨_, _, _, by omega, r59_3 ldK a1 a2 ldK (isR H hk2 wInt b1) (isR H hk2 wBool b2) a3 (ndR0 H (Nat.le_refl _) h.le 1 [] false) (ndR1 H (by omega) h.le 4 x false [_] (by simp)), h.mrk.bd.bd⟩
theorem vparam (H : Toks s ls m) {g : AT → Pg} (h : G4 s ls m c r (paramP g) k D) : ∃ x k1 D1, k ≤ k1 ∧ E 109 [rf] (RS4 s ls k D) (trR ls x).pv (RS4 s ls k1 D1) ∧ G4 s ls m c r (g x) k1 D1 := by
  rcases vac H wVar h.mrk with ⟨a1, h, _⟩ | ⟨a1, h, _⟩
  · obtain ⟨x, k1, D1, l1, a2, h⟩ := vnm H h;obtain ⟨t, k2, D2, l2, a3, h⟩ := vwr H h;exact ⟨_, _, _, by omega, r109_1 ldK a1 a2 a3 (ndR1 H (by omega) h.le 8 x false [_] (by simp)), h.bd⟩
  · obtain ⟨x, k1, D1, l1, a2, h⟩ := vnm H h;obtain ⟨t, k2, D2, l2, a3, h⟩ := vwr H h;exact ⟨_, _, _, by omega, r109_2 ldK a1 a2 a3 (ndR1 H (by omega) h.le 7 x false [_] (by simp)), h.bd⟩
theorem vvar (H : Toks s ls m) {g : AT → Pg} (h : G4 s ls m c r (AzZ g) k D) : ∃ x k1 D1, k ≤ k1 ∧ E 121 [rf] (RS4 s ls k D) (trR ls x).pv (RS4 s ls k1 D1) ∧ G4 s ls m c r (g x) k1 D1 := by
  obtain ⟨x, k1, D1, l1, a1, h⟩ := vnm H h.mrk;exact ⟨_, _, _, by omega, r121 ldK a1 (ndR0 H (by omega) h.le 20 x false), h.bd⟩
end
end Go.Abs.Z

namespace Go.Abs.Z
open Go.Proofs Go.RowKit
abbrev slO (us : List Tr) : PV := .slice true 5 (Tr.pvs us)
def ER (s : List UInt8) (ls : List Tk) (n : Nat) : NT → Nat → List AD → Rs → Nat → List AD → Prop
  | .ex L, k, D, v, k1, D1 => (L = 1 ∨ L = 2 ∨ L = 3 ∨ L = 5 ∨ L = 6 ∨ L = 7) → E 36 [rf, N L] (RS4 s ls k D) (trR ls v.1).pv (RS4 s ls k1 D1)
  | .lp L f x, k, D, v, k1, D1 => (L = 1 ∨ L = 2 ∨ L = 5 ∨ L = 6) → f ≤ k →
      LE m36_0 l36_0 [(0, some rf), (1, some (N L)), (4, some Z0), (5, some (N f)), (8, some (trR ls x).pv)] (RS4 s ls k D) (.exit 1)
        [(0, some rf), (1, some (N L)), (4, some Z0), (5, some (N f)), (8, some (trR ls v.1).pv)] (RS4 s ls k1 D1)
  | .tl e acc, k, D, v, k1, D1 => acc ≠ [] → acc.length + n ≤ big4 → v.2 ≠ [] ∧ match e with
    | .ex => (∀ a : Nat, LE m71_0 l71_0 [(0, some rf), (2, some Z0), (3, some (N a)), (6, some (slO (trRs ls acc)))] (RS4 s ls k D) (.exit 1) [(0, some rf), (2, some Z0), (3, some (N a)), (6, some (slO (trRs ls v.2)))] (RS4 s ls k1 D1)) ∧
        LE m86_0 l86_0 [(0, some rf), (3, some (slO (trRs ls acc)))] (RS4 s ls k D) (.exit 0) [(0, some rf), (3, some (slO (trRs ls v.2)))] (RS4 s ls k1 D1)
    | .fd => ∀ (a : Nat) (x : List UInt8), LE m27_0 l27_0 [(0, some rf), (2, some Z0), (3, some (N a)), (4, some (.str x)), (5, some (slO (trRs ls acc)))] (RS4 s ls k D) (.exit 0) [(0, some rf), (2, some Z0), (3, some (N a)), (4, some (.str x)), (5, some (slO (trRs ls v.2)))] (RS4 s ls k1 D1)
    | .pa => ∀ a : Nat, LE m61_0 l61_0 [(0, some rf), (2, some Z0), (3, some (N a)), (4, some (slO (trRs ls acc)))] (RS4 s ls k D) (.exit 0) [(0, some rf), (2, some Z0), (3, some (N a)), (4, some (slO (trRs ls v.2)))] (RS4 s ls k1 D1)
  | .bk, k, D, v, k1, D1 => E 63 [rf] (RS4 s ls k D) (trR ls v.1).pv (RS4 s ls k1 D1)
  | .sts acc, k, D, v, k1, D1 => acc.length + n ≤ big4 → ∀ a : Nat,
      LE m63_0 l63_0 [(0, some rf), (2, some Z0), (3, some (N a)), (4, some (slO (trRs ls acc)))] (RS4 s ls k D) (.exit 0) [(0, some rf), (2, some Z0), (3, some (N a)), (4, some (slO (trRs ls v.2)))] (RS4 s ls k1 D1)
  | .st, k, D, v, k1, D1 => E 39 [rf] (RS4 s ls k D) (trR ls v.1).pv (RS4 s ls k1 D1)
  | .br, k, D, v, k1, D1 => [wIf].contains (wAt s ls k).2 = true → E 83 [rf] (RS4 s ls k D) (trR ls v.1).pv (RS4 s ls k1 D1)
  | .sk f, k, D, _, k1, D1 => LE m88_0 l88_0 [(0, some rf), (2, some Z0), (3, some (N f))] (RS4 s ls k D) (.exit 0) [(0, some rf), (2, some Z0), (3, some (N f))] (RS4 s ls k1 D1)
  | .sp, k, D, _, k1, D1 => ∀ (a : Nat) (us : List Tr),
      LE m9_1 l9_1 [(0, some (.str s)), (2, some Z0), (5, some rf), (6, some (slO us)), (7, some (N a))] (RS4 s ls k D) (.exit 3) [(0, some (.str s)), (2, some Z0), (5, some rf), (6, some (slO us)), (7, some (N a))] (RS4 s ls k1 D1)
  | .pg acc, k, D, v, k1, D1 => acc.length + n ≤ big4 →
      LE m9_0 l9_0 [(0, some (.str s)), (2, some Z0), (5, some rf), (6, some (slO (trRs ls acc)))] (RS4 s ls k D) (.exit 0) [(0, some (.str s)), (2, some Z0), (5, some rf), (6, some (slO (trRs ls v.2)))] (RS4 s ls k1 D1)
def OkR (s : List UInt8) (ls : List Tk) (m : Nat) (n : Nat) (c : NT → Nat → List AD → Ans3) : Prop :=
  OkI m c ∧ ∀ x k D v k1 D1, c x k D = some (v, k1, D1) → k ≤ m → Dok k D → ER s ls n x k D v k1 D1
section
variable {s : List UInt8} {ls : List Tk} {m n : Nat} {k f : Nat} {D : List AD} {c : NT → Nat → List AD → Ans3} {r : Rs × Nat × List AD} {p q : Pg}
theorem vex (hc : OkR s ls m n c) (L : Nat) (hL : L = 1 ∨ L = 2 ∨ L = 3 ∨ L = 5 ∨ L = 6 ∨ L = 7) {g : AT → Pg} (h : G4 s ls m c r (Pg.cl (.ex L) g) k D) :
    ∃ x k1 D1, k ≤ k1 ∧ E 36 [rf, N L] (RS4 s ls k D) (trR ls x).pv (RS4 s ls k1 D1) ∧ G4 s ls m c r (g x) k1 D1 := by
  obtain ⟨v, k1, D1, h1, h2, h3⟩ := h.cl hc.1;exact ⟨v.1, k1, D1, h2, hc.2 _ _ _ _ _ _ h1 h.le h.ok hL, h3⟩
theorem ve1 (hc : OkR s ls m n c) {g : AT → Pg} (h : G4 s ls m c r (Pg.cl (.ex 1) g) k D) :
    ∃ x k1 D1, k ≤ k1 ∧ E 36 [rf, I 1] (RS4 s ls k D) (trR ls x).pv (RS4 s ls k1 D1) ∧ G4 s ls m c r (g x) k1 D1 := vex hc 1 (by simp) h
theorem vbk (hc : OkR s ls m n c) {g : AT → Pg} (h : G4 s ls m c r (Pg.cl .bk g) k D) :
    ∃ x k1 D1, k ≤ k1 ∧ E 63 [rf] (RS4 s ls k D) (trR ls x).pv (RS4 s ls k1 D1) ∧ G4 s ls m c r (g x) k1 D1 := by
  obtain ⟨v, k1, D1, h1, h2, h3⟩ := h.cl hc.1;exact ⟨v.1, k1, D1, h2, hc.2 _ _ _ _ _ _ h1 h.le h.ok, h3⟩
theorem vlist (hc : OkR s ls m n c) (hn : n + 1 ≤ big4) {g : List AT → Pg} (h : G4 s ls m c r (listP .ex g) k D) :
    ∃ U l k1 D1 k2 D2, k ≤ k1 ∧ k1 ≤ k2 ∧ l ≠ [] ∧ E 36 [rf, I 1] (RS4 s ls k D) (trR ls U).pv (RS4 s ls k1 D1) ∧
      ((∀ a : Nat, LE m71_0 l71_0 [(0, some rf), (2, some Z0), (3, some (N a)), (6, some (slO (trRs ls [U])))] (RS4 s ls k1 D1) (.exit 1) [(0, some rf), (2, some Z0), (3, some (N a)), (6, some (slO (trRs ls l)))] (RS4 s ls k2 D2)) ∧
        LE m86_0 l86_0 [(0, some rf), (3, some (slO (trRs ls [U])))] (RS4 s ls k1 D1) (.exit 0) [(0, some rf), (3, some (slO (trRs ls l)))] (RS4 s ls k2 D2)) ∧ G4 s ls m c r (g l) k2 D2 := by
  obtain ⟨x, k1, D1, l1, a1, h⟩ := ve1 hc (g := fun x => .call (.tl .ex [x]) fun r => g r.2) h
  obtain ⟨v, k2, D2, h1, h2, h3⟩ := h.call hc.1;obtain ⟨b1, b2⟩ := hc.2 _ _ _ _ _ _ h1 h.le h.ok (by simp) (by simp; omega)
  exact ⟨x, v.2, k1, D1, k2, D2, l1, h2, b1, a1, b2, h3⟩
theorem vargs (H : Toks s ls m) (hc : OkR s ls m n c) (hn : n + 1 ≤ big4) {g : List AT → Pg} (h : G4 s ls m c r (argsP g) k D) :
    ∃ l k1 D1, k ≤ k1 ∧ E 86 [rf] (RS4 s ls k D) (.slice false 5 (Tr.pvs (trRs ls l))) (RS4 s ls k1 D1) ∧ G4 s ls m c r (g l) k1 D1 := by
  obtain ⟨a1, h⟩ := vread H h;have hk1 := h.le;rcases h.ifW with ⟨hb, h⟩ | ⟨hb, h⟩
  · obtain ⟨k2, D2, b, l2, a3, h⟩ := vxp H [41] h;exact ⟨[], k2, D2, by omega, r86_1 a1 (isR H hk1 [41] hb) a3, h⟩
  · obtain ⟨U, l, k2, D2, k3, D3, l2, l3, hl, a3, a4, h⟩ := vlist hc hn h;obtain ⟨k4, D4, b, l4, a5, h⟩ := vxp H [41] h;exact ⟨l, k4, D4, by omega, r86_2 a1 (isR H hk1 [41] hb) a3 a4.2 a5, h⟩
theorem vplace (H : Toks s ls m) (hc : OkR s ls m n c) {g : AT → Pg} (h : G4 s ls m c r (BxB g) k D) :
    ∃ x k1 D1, k ≤ k1 ∧ E 87 [rf] (RS4 s ls k D) (trR ls x).pv (RS4 s ls k1 D1) ∧ G4 s ls m c r (g x) k1 D1 := by
  obtain ⟨v, k1, D1, l1, a1, h⟩ := vvar H h.mrk;rcases vac H [91] h with ⟨a2, h, _⟩ | ⟨a2, h, _⟩
  · obtain ⟨y, k2, D2, l2, a3, h⟩ := ve1 hc h;obtain ⟨k3, D3, b, l3, a4, h⟩ := vxp H [93] h;exact ⟨_, _, _, by omega, r87_1 ldK a1 a2 a3 a4 (ndR1 H (by omega) h.le 21 [] false [_, _] (by simp)), h.bd⟩
  · rcases vac H [46] h with ⟨a3, h, _⟩ | ⟨a3, h, _⟩
    · obtain ⟨x, k2, D2, l2, a4, h⟩ := vnm H h;exact ⟨_, _, _, by omega, r87_2 ldK a1 a2 a3 a4 (ndR1 H (by omega) h.le 22 x false [_] (by simp)), h.bd⟩
    · exact ⟨_, _, _, by omega, r87_3 ldK a1 a2 a3, h⟩
theorem vrecord (H : Toks s ls m) (hc : OkR s ls m n c) (hn : n + 1 ≤ big4) {g : AT → Pg} (h : G4 s ls m c r (BzO g) k D) :
    ∃ x k1 D1, k ≤ k1 ∧ E 27 [rf] (RS4 s ls k D) (trR ls x).pv (RS4 s ls k1 D1) ∧ G4 s ls m c r (g x) k1 D1 := by
  obtain ⟨a1, h⟩ := vread H h.mrk;obtain ⟨x, k1, D1, l1, a2, h⟩ := vnm H h;obtain ⟨k2, D2, b, l2, a3, h⟩ := vxp H [123] h;obtain ⟨U, k3, D3, l3, a4, h⟩ := vfield (g := fun x => .call (.tl .fd [x]) fun r => _) H h
  obtain ⟨v, k4, D4, h1, l4, h3⟩ := h.call hc.1;obtain ⟨b1, b2⟩ := hc.2 _ _ _ _ _ _ h1 h.le h.ok (by simp) (by simp; omega)
  obtain ⟨k5, D5, b, l5, a5, h⟩ := vxp H [125] h3;exact ⟨_, _, _, by omega, r27 ldK a1 a2 a3 a4 (b2 k x) a5 (ndR1 H (by omega) h.le 3 x false v.2 b1), h.bd⟩
theorem vparams (H : Toks s ls m) (hc : OkR s ls m n c) (hn : n + 1 ≤ big4) {g : AT → Pg} (h : G4 s ls m c r (BjO g) k D) :
    ∃ x k1 D1, k ≤ k1 ∧ E 61 [rf] (RS4 s ls k D) (trR ls x).pv (RS4 s ls k1 D1) ∧ G4 s ls m c r (g x) k1 D1 := by
  obtain ⟨k1, D1, b, l1, a1, h⟩ := vxp H [40] h.mrk;have hk1 := h.le;rcases h.ifW with ⟨hb, h⟩ | ⟨hb, h⟩
  · obtain ⟨k2, D2, b, l2, a2, h⟩ := vxp H [41] h;exact ⟨_, _, _, by omega, r61_1 ldK a1 (isR H hk1 [41] hb) a2 (ndRe H (by omega) h.le 6 []), h.bd⟩
  · obtain ⟨U, k3, D3, l3, a4, h⟩ := vparam (g := fun x => .call (.tl .pa [x]) fun r => _) H h
    obtain ⟨v, k4, D4, h1, l4, h3⟩ := h.call hc.1;obtain ⟨b1, b2⟩ := hc.2 _ _ _ _ _ _ h1 h.le h.ok (by simp) (by simp; omega)
    obtain ⟨k5, D5, b, l5, a5, h⟩ := vxp H [41] h3;exact ⟨_, _, _, by omega, r61_2 ldK a1 (isR H hk1 [41] hb) a4 (b2 k) a5 (ndR1 H (by omega) h.le 6 [] true v.2 b1), h.bd⟩
theorem vproc (H : Toks s ls m) (hc : OkR s ls m n c) (hn : n + 1 ≤ big4) {g : AT → Pg} (h : G4 s ls m c r (procP g) k D) :
    ∃ x k1 D1, k ≤ k1 ∧ E 28 [rf] (RS4 s ls k D) (trR ls x).pv (RS4 s ls k1 D1) ∧ G4 s ls m c r (g x) k1 D1 := by
  obtain ⟨a1, h⟩ := vread H h.mrk;obtain ⟨x, k1, D1, l1, a2, h⟩ := vnm H h;obtain ⟨a, k2, D2, l2, a3, h⟩ := vparams H hc hn h;obtain ⟨t, k3, D3, l3, a4, h⟩ := vwr H h;obtain ⟨b, k4, D4, l4, a5, h⟩ := vbk hc h;exact ⟨_, _, _, by omega, r28 ldK a1 a2 a3 a4 a5 (ndR1 H (by omega) h.le 5 x false [_, _, _] (by simp)), h.bd⟩
theorem vnode0 (H : Toks s ls m) (hf : f ≤ k) {kd : Nat} {tx : List UInt8} (h : G4 s ls m c r (Pg.nod kd tx f []) k D) (hb : kdE kd = false := by rfl) : ∃ x, r = ((x, []), k, D) ∧ E 31 [rf, N f, N kd, .str tx, .nils] (RS4 s ls k D) (trR ls x).pv (RS4 s ls k D) :=
  ⟨_, h.bd.ret, ndR0 H hf h.le kd tx true (by rw [hb]; rfl)⟩
theorem vnodeE (H : Toks s ls m) (hf : f ≤ k) {kd : Nat} {tx : List UInt8} {us : List AT} (h : G4 s ls m c r (Pg.nod kd tx f us) k D) (hb : kdE kd = true := by rfl) : ∃ x, r = ((x, []), k, D) ∧ E 31 [rf, N f, N kd, .str tx, .slice false 5 (Tr.pvs (trRs ls us))] (RS4 s ls k D) (trR ls x).pv (RS4 s ls k D) := by
  refine ⟨_, h.bd.ret, ?_⟩
  cases us with
  | nil => exact ndRe H hf h.le kd tx hb
  | cons u us => exact ndR1 H hf h.le kd tx true (u :: us) (by simp)
theorem AzG (H : Toks s ls m) (hf : f ≤ k) {kd : Nat} {tx : List UInt8} {us : List AT} (hu : us ≠ []) (h : G4 s ls m c r (Pg.nod kd tx f us) k D) :
    ∃ x, r = ((x, []), k, D) ∧ E 31 [rf, N f, N kd, .str tx, .slice false 5 (Tr.pvs (trRs ls us))] (RS4 s ls k D) (trR ls x).pv (RS4 s ls k D) :=
  ⟨_, h.bd.ret, ndR1 H hf h.le kd tx true us hu⟩
theorem v72 (H : Toks s ls m) (hk : k ≤ m) (L : Nat) (hL : L = 1 ∨ L = 2 ∨ L = 4 ∨ L = 5 ∨ L = 6) {b : Bool} (hb : (opL L).contains (wAt s ls k).2 = b) : E 72 [rf, N L] (RS4 s ls k D) (.bool b) (RS4 s ls k D) := by
  have a1 := u25 (D := D) H hk;have a2 := u56 (D := D) H hk;have a3 := e114 (opL L) (wAt s ls k).2 (by rcases hL with rfl | rfl | rfl | rfl | rfl <;> decide)
  rw [hb] at a3;by_cases h5 : (wAt s ls k).1 = 5
  · have := H5 H hk h5;subst this;rw [H.end'] at hb;have : b = false := by rw [← hb]; rcases hL with rfl | rfl | rfl | rfl | rfl <;> rfl
    rw [this];rcases hL with rfl | rfl | rfl | rfl | rfl
    · exact r72_1_2 a1 (by omega)
    · exact r72_2_2 a1 (by omega)
    · exact r72_4_2 a1 (by omega)
    · exact r72_5_2 a1 (by omega)
    · exact r72_6_2 a1 (by omega)
  · rcases hL with rfl | rfl | rfl | rfl | rfl
    · exact r72_1_1 a1 (by omega) a2 a3
    · exact r72_2_1 a1 (by omega) a2 a3
    · exact r72_4_1 a1 (by omega) a2 a3
    · exact r72_5_1 a1 (by omega) a2 a3
    · exact r72_6_1 a1 (by omega) a2 a3
theorem vlv4 (H : Toks s ls m) (hc : OkR s ls m n c) (h : G4 s ls m c r lv4P k D) : E 36 [rf, I 4] (RS4 s ls k D) (trR ls r.1.1).pv (RS4 s ls r.2.1 r.2.2) := by
  obtain ⟨x, k1, D1, l1, a1, h⟩ := vex hc 5 (by simp) h.mrk
  have hk1 := h.le;rcases h.ifW with ⟨hw, h⟩ | ⟨hw, h⟩
  · obtain ⟨a2, h⟩ := vrd H h;obtain ⟨y, k2, D2, l2, a3, h⟩ := vex hc 5 (by simp) h
    obtain ⟨x9, e9, n9⟩ := AzG H (f := k) (by omega) (by simp) h
    rw [e9]; exact r36_4_2 ldK a1 (BzS (v72 H hk1 4 (by simp) hw) a2 a3 n9)
  · have e := h.ret;rw [e]; exact r36_4_1 ldK a1 (BzR (v72 H hk1 4 (by simp) hw))
theorem v85 (H : Toks s ls m) (hk : k < m) : E 85 [rf] (RS4 s ls k D) (.str (wAt s ls (k + 1)).2) (RS4 s ls k D) := by
  obtain ⟨t, ht⟩ := H.at (k := k + 1) (by omega)
  have := H.big;have := H.len;rw [AjI ht];exact r85_2 (by omega) (by omega) ht (u65 H ht)
theorem vprim (H : Toks s ls m) (hc : OkR s ls m n c) (hn : n + 1 ≤ big4) (h : G4 s ls m c r primP k D) : E 71 [rf] (RS4 s ls k D) (trR ls r.1.1).pv (RS4 s ls r.2.1 r.2.2) := by
  have hk := h.le;have a1 := u25 (D := D) H hk;rcases h.mrk.ifK with ⟨k2, h⟩ | ⟨k2, h⟩
  · obtain ⟨a2, h⟩ := vrd H h;obtain ⟨x9, e9, n9⟩ := vnode0 H (f := k) (by omega) h
    rw [e9]; exact r71_1 ldK a1 (by omega) a2 (e120 _ (wd_len H k)) n9
  rcases h.ifW with ⟨hb, h⟩ | ⟨hb, h⟩
  · obtain ⟨a2, h⟩ := vrd H h;obtain ⟨x9, e9, n9⟩ := vnode0 H (f := k) (by omega) h
    rw [e9];cases hi : [wTrue].contains (wAt s ls k).2 with
    | true => exact r71_2 ldK a1 (by omega) (isR H hk wTrue hi) a2 n9
    | false => exact r71_3 ldK a1 (by omega) (isR H hk wTrue hi) (isR H hk Az0 (is_two hb hi)) a2 n9
  obtain ⟨b1, b2⟩ := not_two hb;have a2 := isR (D := D) H hk wTrue b1;have a3 := isR (D := D) H hk Az0 b2;have h := h.look;by_cases hk0 : (wAt s ls k).1 = 0
  · have hlt := H.lt hk (by omega)
    have a5 := v85 (D := D) H hlt;by_cases hp : (wAt s ls (k + 1)).2 = [40]
    · rw [if_pos ⟨hk0, hp⟩] at h;obtain ⟨a6, h⟩ := vrd H h;obtain ⟨l, k3, D3, l3, a7, h⟩ := vargs H hc hn h;obtain ⟨x9, e9, n9⟩ := vnodeE H (f := k) (by omega) h
      rw [e9]; exact r71_4 ldK a1 (by omega) a2 a3 (by omega) a5 hp a6 a7 n9
    · rw [if_neg (fun x => hp x.2), if_pos hk0] at h
      obtain ⟨x, k3, D3, l3, a6, h⟩ := vplace H hc h;have e := h.ret;rw [e]; exact r71_5 ldK a1 (by omega) a2 a3 (by omega) a5 hp a6
  · rw [if_neg (fun x => hk0 x.1), if_neg hk0] at h
    rcases vac H [91] h with ⟨a5, h, _⟩ | ⟨a5, h, _⟩
    · obtain ⟨U, l, k2, D2, k3, D3, l2, l3, hl, a6, a7, h⟩ := vlist hc hn h;obtain ⟨k4, D4, b, l4, a8, h⟩ := vxp H [93] h;obtain ⟨x9, e9, n9⟩ := AzG H (f := k) (by omega) hl h
      rw [e9]; exact r71_6 ldK a1 (by omega) a2 a3 (by omega) a5 a6 (a7.1 k) a8 n9
    · rcases vac H wLen h with ⟨a6, h, _⟩ | ⟨a6, h, _⟩
      · obtain ⟨k3, D3, b, l3, a7, h⟩ := vxp H [40] h;obtain ⟨v, k4, D4, l4, a8, h⟩ := vvar H h;obtain ⟨k5, D5, b, l5, a9, h⟩ := vxp H [41] h;obtain ⟨x9, e9, n9⟩ := AzG H (f := k) (by omega) (by simp) h
        rw [e9]; exact r71_7 ldK a1 (by omega) a2 a3 (by omega) a5 a6 a7 a8 a9 n9
      · rcases vac H [40] h with ⟨a7, h, _⟩ | ⟨a7, h, _⟩
        · obtain ⟨x, k3, D3, l3, a8, h⟩ := ve1 hc h;obtain ⟨k4, D4, b, l4, a9, h⟩ := vxp H [41] h;have e := h.ret;rw [e]; exact r71_8 ldK a1 (by omega) a2 a3 (by omega) a5 a6 a7 a8 a9
        · obtain ⟨a8, h⟩ := v29 H h;have hle := h.le;have e := h.mrk.bd.ret;rw [e]; exact r71_9 ldK a1 (by omega) a2 a3 (by omega) a5 a6 a7 a8 (ndR0 H (Nat.le_refl _) hle 1 [] false)
end
end Go.Abs.Z

namespace Go.Abs.Z
open Go.Proofs Go.RowKit
section
variable {s : List UInt8} {ls : List Tk} {m n : Nat} {k f : Nat} {D : List AD} {c : NT → Nat → List AD → Ans3} {r : Rs × Nat × List AD} {p q : Pg}
theorem v111 (H : Toks s ls m) (hk : k ≤ m) {b : Bool} (hb : (decide ((wAt s ls k).1 = 5) || stopW.contains (wAt s ls k).2) = b) : E 111 [rf] (RS4 s ls k D) (.bool b) (RS4 s ls k D) := by
  have a1 := u25 (D := D) H hk;by_cases h5 : (wAt s ls k).1 = 5
  · have : b = true := by rw [← hb, decide_eq_true h5]; rfl
    rw [this]; exact r111_1 a1 (by omega)
  · rw [decide_eq_false h5, Bool.false_or] at hb;cases h1 : [[125]].contains (wAt s ls k).2 with
    | true =>
      have : b = true := by rw [← hb, eq_w h1]; rfl
      rw [this]; exact r111_2 a1 (by omega) (isR H hk [125] h1)
    | false =>
      cases h2 : [wProc].contains (wAt s ls k).2 with
      | true =>
        have : b = true := by rw [← hb, eq_w h2]; rfl
        rw [this]; exact r111_3 a1 (by omega) (isR H hk [125] h1) (isR H hk wProc h2)
      | false =>
        refine r111_4 a1 (by omega) (isR H hk [125] h1) (isR H hk wProc h2) (isR H hk wRec ?_)
        rw [← hb];simp only [stopW, List.contains_cons, List.contains_nil, Bool.or_false] at h1 h2 ⊢;rw [h1, h2]; rfl
theorem v129 (H : Toks s ls m) (hk : k ≤ m) {b : Bool} (hb : begK.contains (wAt s ls k).2 = b) : E 129 [rf] (RS4 s ls k D) (.bool b) (RS4 s ls k D) := by
  have a1 := u25 (D := D) H hk;by_cases h1 : (wAt s ls k).1 = 1
  · have a3 := e114 begK (wAt s ls k).2 (by decide)
    rw [hb] at a3;exact r129_1 a1 (by omega) (u56 H hk) a3
  · have : b = false := by
      rw [← hb];cases hc : begK.contains (wAt s ls k).2 with
      | false => rfl
      | true =>
        obtain ⟨t, ht⟩ := H.at hk;rw [AjI ht] at hc h1;exact absurd (H.kw k t ht hc) h1
    rw [this]; exact r129_2 a1 (by omega)
theorem stops_split {w : List UInt8} (h : stopW.contains w = false) : AvV.contains w = begK.contains w := by
  simp only [AvV, stopW, begK, List.contains_cons, List.contains_nil, Bool.or_false] at h ⊢;simp only [Bool.or_eq_false_iff] at h;rw [h.1, h.2.1, h.2.2]; simp
theorem stops_left {w : List UInt8} (h : AvV.contains w = false) : stopW.contains w = false ∧ begK.contains w = false := by
  simp only [AvV, stopW, begK, List.contains_cons, List.contains_nil, Bool.or_false, Bool.or_eq_false_iff] at h ⊢;exact ⟨⟨h.1, h.2.1, h.2.2.1⟩, h.2.2.2⟩
theorem v84 (H : Toks s ls m) (hk : k ≤ m) {b : Bool} (hb : ((wAt s ls k).1 == 0 || (wAt s ls k).1 == 2 || [wTrue, Az0, wLen, [40], [91]].contains (wAt s ls k).2) = b) : E 84 [rf] (RS4 s ls k D) (.bool b) (RS4 s ls k D) := by
  have a1 := u25 (D := D) H hk;by_cases h0 : (wAt s ls k).1 = 0
  · have : b = true := by rw [← hb, h0]; rfl
    rw [this]; exact r84_1 a1 (by omega)
  by_cases h2 : (wAt s ls k).1 = 2
  · have : b = true := by rw [← hb, h2]; rfl
    rw [this]; exact r84_2 a1 (by omega) (by omega)
  have e0 : ((wAt s ls k).1 == 0) = false := by simpa using h0
  have e2 : ((wAt s ls k).1 == 2) = false := by simpa using h2
  rw [e0, e2, Bool.false_or, Bool.false_or] at hb;cases h3 : [wTrue].contains (wAt s ls k).2 with
  | true =>
    have : b = true := by rw [← hb, eq_w h3]; rfl
    rw [this]; exact r84_3 a1 (by omega) (by omega) (isR H hk wTrue h3)
  | false =>
  cases h4 : [Az0].contains (wAt s ls k).2 with
  | true =>
    have : b = true := by rw [← hb, eq_w h4]; rfl
    rw [this]; exact r84_4 a1 (by omega) (by omega) (isR H hk wTrue h3) (isR H hk Az0 h4)
  | false =>
  cases h5 : [wLen].contains (wAt s ls k).2 with
  | true =>
    have : b = true := by rw [← hb, eq_w h5]; rfl
    rw [this]; exact r84_5 a1 (by omega) (by omega) (isR H hk wTrue h3) (isR H hk Az0 h4) (isR H hk wLen h5)
  | false =>
  cases h6 : [[40]].contains (wAt s ls k).2 with
  | true =>
    have : b = true := by rw [← hb, eq_w h6]; rfl
    rw [this]; exact r84_6 a1 (by omega) (by omega) (isR H hk wTrue h3) (isR H hk Az0 h4) (isR H hk wLen h5) (isR H hk [40] h6)
  | false =>
    refine r84_7 a1 (by omega) (by omega) (isR H hk wTrue h3) (isR H hk Az0 h4) (isR H hk wLen h5) (isR H hk [40] h6) (isR H hk [91] ?_)
    rw [← hb];simp only [List.contains_cons, List.contains_nil, Bool.or_false] at h3 h4 h5 h6 ⊢;rw [h3, h4, h5, h6]; rfl
theorem beg_split (a : Wd) : begE a = ((a.1 == 0 || a.1 == 2 || [wTrue, Az0, wLen, [40], [91]].contains a.2) || ([wNot].contains a.2 || [[45]].contains a.2)) := by
  simp only [begE, begW, List.contains_cons, List.contains_nil, Bool.or_false];cases a.1 == 0 <;> cases a.1 == 2 <;> cases a.2 == wTrue <;> cases a.2 == Az0 <;> cases a.2 == wNot <;> cases a.2 == wLen <;> cases a.2 == [45] <;> cases a.2 == [40] <;> cases a.2 == [91] <;> rfl
theorem vst (H : Toks s ls m) (hc : OkR s ls m n c) (hn : n + 1 ≤ big4) (h : G4 s ls m c r (prog .st) k D) : E 39 [rf] (RS4 s ls k D) (trR ls r.1.1).pv (RS4 s ls r.2.1 r.2.2) := by
  have hk := h.le;rcases h.ifW with ⟨b1, h⟩ | ⟨b1, h⟩
  · have h := (h.mrk.read (w5 H));have x0 := acT (D := D) H h.1 wVar b1;obtain ⟨x, k1, D1, l1, x1, h⟩ := vnm H h.2;obtain ⟨t, k2, D2, l2, x2, h⟩ := vwr H h;obtain ⟨k3, D3, b3, l3, x3, h⟩ := vxp H [61] h;obtain ⟨v, k4, D4, l4, x4, h⟩ := ve1 hc h;obtain ⟨k5, D5, b5, l5, x5, h⟩ := vxp H [59] h;obtain ⟨y, e, x6⟩ := AzG H (f := k) (by omega) (by simp) h
    rw [e]; exact r39_1 ldK x0 x1 x2 x3 x4 x5 x6
  have a1 := acF (D := D) H hk wVar b1;rcases h.ifW with ⟨b2, h⟩ | ⟨b2, h⟩
  · exact r39_2 ldK a1 (isR H hk wIf b2) (hc.2 _ _ _ _ _ _ h.lst h.le h.ok b2)
  have a2 := isR (D := D) H hk wIf b2;rcases h.ifW with ⟨b3, h⟩ | ⟨b3, h⟩
  · have h := (h.mrk.read (w5 H));have x0 := acT (D := D) H h.1 AkM b3;obtain ⟨u, k1, D1, l1, x2, h⟩ := ve1 hc h.2;obtain ⟨b, k2, D2, l2, x3, h⟩ := vbk hc h;obtain ⟨y, e, x4⟩ := AzG H (f := k) (by omega) (by simp) h
    rw [e]; exact r39_3 ldK a1 a2 x0 x2 x3 x4
  have a3 := acF (D := D) H hk AkM b3;rcases h.ifW with ⟨b4, h⟩ | ⟨b4, h⟩
  · have h := (h.mrk.read (w5 H));have x0 := acT (D := D) H h.1 wFor b4;obtain ⟨x, k1, D1, l1, x1, h⟩ := vnm H h.2;obtain ⟨k2, D2, b, l2, x2, h⟩ := vxp H [61] h;obtain ⟨u, k3, D3, l3, x3, h⟩ := ve1 hc h;obtain ⟨k4, D4, b', l4, x4, h⟩ := vxp H wTo h;obtain ⟨v, k5, D5, l5, x5, h⟩ := ve1 hc h;obtain ⟨b, k6, D6, l6, x6, h⟩ := vbk hc h;obtain ⟨y, e, x7⟩ := AzG H (f := k) (by omega) (by simp) h
    rw [e]; exact r39_4 ldK a1 a2 a3 x0 x1 x2 x3 x4 x5 x6 x7
  have a4 := acF (D := D) H hk wFor b4;rcases h.ifW with ⟨b5, h⟩ | ⟨b5, h⟩
  · have h := (h.mrk.read (w5 H));have x0 := acT (D := D) H h.1 AxL b5;have h := h.2;have hk1 := h.le;have h := h.look;have hs := beg_split (wAt s ls (k + 1));have xn := ndR0 (D := D) H (f := k + 1) (k := k + 1) (Nat.le_refl _) hk1 0 [] false;cases hbg : begE (wAt s ls (k + 1)) with
    | true =>
      rw [hbg, if_pos rfl] at h;rw [hbg] at hs;obtain ⟨x, k2, D2, l2, x2, h⟩ := ve1 hc h;obtain ⟨k3, D3, b, l3, x3, h⟩ := vxp H [59] h;obtain ⟨y, e, x4⟩ := AzG H (f := k) (by omega) (by simp) h
      rw [e];cases h84 : ((wAt s ls (k + 1)).1 == 0 || (wAt s ls (k + 1)).1 == 2 || [wTrue, Az0, wLen, [40], [91]].contains (wAt s ls (k + 1)).2) with
      | true => exact r39_5 ldK a1 a2 a3 a4 x0 ldK xn (v84 H hk1 h84) x2 x3 x4
      | false =>
        rw [h84, Bool.false_or] at hs;cases hnt : [wNot].contains (wAt s ls (k + 1)).2 with
        | true => exact r39_7 ldK a1 a2 a3 a4 x0 ldK xn (v84 H hk1 h84) (isR H hk1 wNot hnt) x2 x3 x4
        | false =>
          rw [hnt, Bool.false_or] at hs;exact r39_9 ldK a1 a2 a3 a4 x0 ldK xn (v84 H hk1 h84) (isR H hk1 wNot hnt) (isR H hk1 [45] hs.symm) x2 x3 x4
    | false =>
      rw [hbg, if_neg (by simp)] at h
      rw [hbg] at hs;obtain ⟨hs1, hs2⟩ := Bool.or_eq_false_iff.1 hs.symm;obtain ⟨hs2, hs3⟩ := Bool.or_eq_false_iff.1 hs2;have h := h.mrk.bd;obtain ⟨k3, D3, b, l3, x3, h⟩ := vxp H [59] h;obtain ⟨y, e, x4⟩ := AzG H (f := k) (by omega) (by simp) h
      rw [e];exact r39_10 ldK a1 a2 a3 a4 x0 ldK xn (v84 H hk1 hs1) (isR H hk1 wNot hs2) (isR H hk1 [45] hs3) x3 x4
  have a5 := acF (D := D) H hk AxL b5;rcases h.ifW with ⟨b6, h⟩ | ⟨b6, h⟩
  · have h := (h.mrk.read (w5 H));have x0 := acT (D := D) H h.1 AzU b6;obtain ⟨x, k2, D2, l2, x2, h⟩ := ve1 hc h.2;obtain ⟨k3, D3, b, l3, x3, h⟩ := vxp H [59] h;obtain ⟨y, e, x4⟩ := AzG H (f := k) (by omega) (by simp) h
    rw [e]; exact r39_6 ldK a1 a2 a3 a4 a5 x0 x2 x3 x4
  have a6 := acF (D := D) H hk AzU b6;have a7 := u25 (D := D) H hk;rcases h.ifK with ⟨b7, h⟩ | ⟨b7, h⟩
  · have hlt := H.lt hk (by omega)
    have h := h.mrk.look;have a8 := v85 (D := D) H hlt;by_cases hp : (wAt s ls (k + 1)).2 = [40]
    · rw [if_pos hp] at h;obtain ⟨x2, h⟩ := vrd H h;obtain ⟨l, k3, D3, l3, x3, h⟩ := vargs H hc hn h;obtain ⟨k4, D4, b, l4, x4, h⟩ := vxp H [59] h;obtain ⟨y, e, x5⟩ := vnodeE H (f := k) (by omega) h
      rw [e]; exact r39_11 ldK a1 a2 a3 a4 a5 a6 a7 (by omega) a8 hp x2 x3 x4 x5
    · rw [if_neg hp] at h;obtain ⟨x, k2, D2, l2, x2, h⟩ := vplace H hc h;obtain ⟨k3, D3, b, l3, x3, h⟩ := vxp H [61] h;obtain ⟨v, k4, D4, l4, x4, h⟩ := ve1 hc h;obtain ⟨k5, D5, b', l5, x5, h⟩ := vxp H [59] h;obtain ⟨y, e, x6⟩ := AzG H (f := k) (by omega) (by simp) h
      rw [e]; exact r39_12 ldK a1 a2 a3 a4 a5 a6 a7 (by omega) a8 hp x2 x3 x4 x5 x6
  obtain ⟨x6, h⟩ := v29 H h;obtain ⟨v, k1, D1, h1, l1, h2⟩ := h.mrk.call hc.1;obtain ⟨y, e, x4⟩ := vnode0 H (f := k) (by omega) h2
  rw [e]; exact r39_8 ldK a1 a2 a3 a4 a5 a6 a7 (by omega) (r88 ldK x6 (hc.2 _ _ _ _ _ _ h1 h.le h.ok) x4)
theorem tl_low {L : Nat} (hL : L = 1 ∨ L = 2 ∨ L = 5 ∨ L = 6) {f : Nat} {x : PV} {σ σ' : Sto} {U V : Tr} {w : List UInt8} {σ1 σ2 : Sto} {W : Tr}
    (a1 : E 72 [rf, N L] σ (.bool true) σ) (a2 : E 30 [rf] σ (.str w) σ1) (a3 : E 36 [rf, N (L + 1)] σ1 V.pv σ2) (a4 : E 31 [rf, N f, N 29, .str w, .slice false 5 [U.pv, V.pv]] σ2 W.pv σ2)
    (hl : LE m36_0 l36_0 [(0, some rf), (1, some (N L)), (4, some Z0), (5, some (N f)), (8, some W.pv)] σ2 (.exit 1) [(0, some rf), (1, some (N L)), (4, some Z0), (5, some (N f)), (8, some x)] σ') :
    LE m36_0 l36_0 [(0, some rf), (1, some (N L)), (4, some Z0), (5, some (N f)), (8, some U.pv)] σ (.exit 1) [(0, some rf), (1, some (N L)), (4, some Z0), (5, some (N f)), (8, some x)] σ' := by
  rcases hL with rfl | rfl | rfl | rfl
  · exact Bx1 a1 a2 a3 a4 hl
  · exact Bx0 a1 a2 a3 a4 hl
  · exact BqZ a1 a2 a3 a4 hl
  · exact BqY a1 a2 a3 a4 hl
theorem tl_out {L : Nat} (hL : L = 1 ∨ L = 2 ∨ L = 5 ∨ L = 6) {f : Nat} {σ : Sto} {U : Tr} (a1 : E 72 [rf, N L] σ (.bool false) σ) :
    LE m36_0 l36_0 [(0, some rf), (1, some (N L)), (4, some Z0), (5, some (N f)), (8, some U.pv)] σ (.exit 1) [(0, some rf), (1, some (N L)), (4, some Z0), (5, some (N f)), (8, some U.pv)] σ := by
  rcases hL with rfl | rfl | rfl | rfl
  · exact BzU a1
  · exact BzT a1
  · exact BzQ a1
  · exact BzP a1
theorem AxU (acc : List AT) (x : AT) : Tr.pvs (trRs ls (acc ++ [x])) = Tr.pvs (trRs ls acc ++ [trR ls x]) := by rw [trRs_snoc]
theorem okR (H : Toks s ls m) : ∀ n, n ≤ big4 → OkR s ls m n (runN (wAt s ls) n)
  | 0, _ => ⟨AxE (w5 H) 0, fun x k D v k1 D1 h => by cases h⟩
  | n + 1, hn => by
    have hc := okR H n (by omega)
    refine ⟨AxE (w5 H) (n + 1), fun x k D v k1 D1 hrun hk hD => ?_⟩
    have h : G4 s ls m (runN (wAt s ls) n) (v, k1, D1) (prog x) k D := ⟨hrun, hk, hD⟩;clear hrun;have hmx : ∀ acc : List AT, acc.length + (n + 1) ≤ big4 → (trRs ls acc).length + 1 ≤ Aq8 := fun acc h => by rw [trRs_len]; unfold big4 at h; unfold Aq8; omega
    cases x with
    | ex L =>
      intro hL
      have low : ∀ (L : Nat), (L = 1 ∨ L = 2 ∨ L = 5 ∨ L = 6) → G4 s ls m (runN (wAt s ls) n) (v, k1, D1) (Pg.mrk fun f => Pg.cl (.ex (L + 1)) fun x => Pg.lst (.lp L f x)) k D →
          ∃ U1 : Tr, ∃ k2 D2, E 36 [rf, N (L + 1)] (RS4 s ls k D) U1.pv (RS4 s ls k2 D2) ∧
            LE m36_0 l36_0 [(0, some rf), (1, some (N L)), (4, some Z0), (5, some (N k)), (8, some U1.pv)] (RS4 s ls k2 D2) (.exit 1)
              [(0, some rf), (1, some (N L)), (4, some Z0), (5, some (N k)), (8, some (trR ls v.1).pv)] (RS4 s ls k1 D1) := by
        intro L hL h;obtain ⟨x, k2, D2, l2, a1, h⟩ := vex hc (L + 1) (by omega) h.mrk
        exact ⟨_, _, _, a1, hc.2 _ _ _ _ _ _ h.lst h.le h.ok hL l2⟩
      rcases hL with rfl | rfl | rfl | rfl | rfl | rfl
      · obtain ⟨U, k2, D2, a1, a2⟩ := low 1 (by simp) h
        exact r36_1_1 ldK a1 a2
      · obtain ⟨U, k2, D2, a1, a2⟩ := low 2 (by simp) h
        exact r36_2_1 ldK a1 a2
      · rcases vac H wNot h.mrk with ⟨a1, h, _⟩ | ⟨a1, h, _⟩
        · obtain ⟨x, k2, D2, l2, a2, h⟩ := vex hc 3 (by simp) h
          obtain ⟨y, e, a3⟩ := AzG H (f := k) (by omega) (by simp) h
          cases e; exact r36_3_1 ldK a1 a2 a3
        · exact r36_3_2 ldK a1 (vlv4 H hc h)
      · obtain ⟨U, k2, D2, a1, a2⟩ := low 5 (by simp) h
        exact r36_5_1 ldK a1 a2
      · obtain ⟨U, k2, D2, a1, a2⟩ := low 6 (by simp) h
        exact r36_6_1 ldK a1 a2
      · rcases vac H [45] h.mrk with ⟨a1, h, _⟩ | ⟨a1, h, _⟩
        · obtain ⟨x, k2, D2, l2, a2, h⟩ := vex hc 7 (by simp) h
          obtain ⟨y, e, a3⟩ := AzG H (f := k) (by omega) (by simp) h
          cases e; exact r36_7_1 ldK a1 a2 a3
        · exact r36_7_2 ldK a1 (vprim H hc hn h)
    | lp L f x =>
      intro hL hf;rcases G3.ifW (show G4 s ls m (runN (wAt s ls) n) (v, k1, D1) (Pg.ifW (opL L) (Pg.rd fun o => Pg.cl (.ex (L + 1)) fun y => Pg.bd 29 o f false [x, y] fun z => Pg.lst (.lp L f z)) (.ret (x, []))) k D from h) with ⟨hb, h⟩ | ⟨hb, h⟩
      · have a1 := v72 (D := D) H hk L (by omega) hb
        obtain ⟨a2, h⟩ := vrd H h;obtain ⟨y, k2, D2, l2, a3, h⟩ := vex hc (L + 1) (by omega) h
        have h := h.bd;exact tl_low hL a1 a2 a3 (ndR1 H (by omega) h.le 29 _ false [x, y] (by simp)) (hc.2 _ _ _ _ _ _ h.lst h.le h.ok hL (by omega))
      · have e := h.ret;cases e;exact tl_out hL (v72 (D := D) H hk L (by omega) hb)
    | tl e acc =>
      intro hne hl;have hm := hmx acc hl;rcases vac H [44] h with ⟨a1, h, _⟩ | ⟨a1, h, _⟩
      · cases e with
        | ex =>
          obtain ⟨x, k2, D2, l2, a2, h⟩ := ve1 hc (g := fun x => Pg.lst (.tl .ex (acc ++ [x]))) h
          obtain ⟨b1, b2, b3⟩ := hc.2 _ _ _ _ _ _ h.lst h.le h.ok (by simp) (by simp; omega)
          simp only [slO, AxU] at b2 b3;exact ⟨b1, fun a => r71_l0_next1 a1 a2 hm (b2 a), r86_l0_next1 a1 a2 hm b3⟩
        | fd =>
          obtain ⟨x, k2, D2, l2, a2, h⟩ := vfield (g := fun x => Pg.lst (.tl .fd (acc ++ [x]))) H h
          obtain ⟨b1, b2⟩ := hc.2 _ _ _ _ _ _ h.lst h.le h.ok (by simp) (by simp; omega)
          simp only [slO, AxU] at b2;exact ⟨b1, fun a x => r27_l0_next1 a1 a2 hm (b2 a x)⟩
        | pa =>
          obtain ⟨x, k2, D2, l2, a2, h⟩ := vparam (g := fun x => Pg.lst (.tl .pa (acc ++ [x]))) H h
          obtain ⟨b1, b2⟩ := hc.2 _ _ _ _ _ _ h.lst h.le h.ok (by simp) (by simp; omega)
          simp only [slO, AxU] at b2;exact ⟨b1, fun a => r61_l0_next1 a1 a2 hm (b2 a)⟩
      · have e2 := h.ret;cases e2;refine ⟨hne, ?_⟩
        cases e with
        | ex => exact ⟨fun a => r71_l0_out1 a1, r86_l0_out1 a1⟩
        | fd => exact fun a x => r27_l0_out1 a1
        | pa => exact fun a => r61_l0_out1 a1
    | bk =>
      rcases vac H [123] h.mrk with ⟨a1, h, _⟩ | ⟨a1, h, _⟩
      · obtain ⟨u, k2, D2, h1, l2, h⟩ := h.call hc.1;have a2 := hc.2 _ _ _ _ _ _ h1 (by have := h.le; omega) (hD.le (by omega)) (by simp; omega) k
        obtain ⟨k3, D3, b, l3, a3, h⟩ := vxp H [125] h;obtain ⟨y, e, a4⟩ := vnodeE H (f := k) (by omega) h
        cases e;exact r63_1 ldK (r58_1 a1) a2 a3 a4
      · obtain ⟨a2, h⟩ := v29 H h;have hle := h.le;have e := h.bd.ret;cases e;exact r63_2 ldK (r58_2 a1 a2) (ndR0 H (Nat.le_refl _) hle 11 [] false)
    | sts acc =>
      intro hl a;rcases h.ifW with ⟨hb, h⟩ | ⟨hb, h⟩
      · have e := h.ret;cases e;exact Bq7 (v111 H hk (by rw [hb, Bool.or_true]))
      · rcases h.ifK with ⟨h5, h⟩ | ⟨h5, h⟩
        · have e := h.ret;cases e;exact Bq7 (v111 H hk (by rw [decide_eq_true h5, Bool.true_or]))
        · obtain ⟨u, k2, D2, h1, l2, h⟩ := h.cl hc.1;have a1 := hc.2 _ _ _ _ _ _ h1 hk hD;have a2 := hc.2 _ _ _ _ _ _ h.lst h.le h.ok (by simp; omega) a
          simp only [slO, AxU] at a2;exact r63_l0_next1 (v111 H hk (by rw [hb, decide_eq_false h5, Bool.false_or])) a1 (hmx acc hl) a2
    | st => exact vst H hc hn h
    | br =>
      intro hb;obtain ⟨a1, h⟩ := vread H h.mrk;obtain ⟨u, k2, D2, l2, a2, h⟩ := ve1 hc h;obtain ⟨b, k3, D3, l3, a3, h⟩ := vbk hc h;have xn := ndR0 (D := D3) H (f := k3) (k := k3) (Nat.le_refl _) h.le 0 [] false;rcases vac H wElse h with ⟨a4, h, _⟩ | ⟨a4, h, _⟩
      · have hk4 := h.le;have ok4 := h.ok;rcases h.ifW with ⟨b5, h⟩ | ⟨b5, h⟩
        · obtain ⟨o, k5, D5, h1, l5, h⟩ := h.cl hc.1;have a5 := hc.2 _ _ _ _ _ _ h1 hk4 ok4 b5;obtain ⟨y, e, a6⟩ := AzG H (f := k) (by omega) (by simp) h
          cases e; exact r83_2 ldK a1 a2 a3 ldK xn a4 (isR H hk4 wIf b5) a5 a6
        · obtain ⟨o, k5, D5, l5, a5, h⟩ := vbk hc h;obtain ⟨y, e, a6⟩ := AzG H (f := k) (by omega) (by simp) h
          cases e; exact r83_3 ldK a1 a2 a3 ldK xn a4 (isR H hk4 wIf b5) a5 a6
      · have h := h.mrk.bd;obtain ⟨y, e, a6⟩ := AzG H (f := k) (by omega) (by simp) h
        cases e; exact r83_1 ldK a1 a2 a3 ldK xn a4 a6
    | sk f =>
      rcases h.ifK with ⟨h5, h⟩ | ⟨h5, h⟩
      · have e := h.ret;cases e;exact AkJ (v111 H hk (by rw [decide_eq_true h5, Bool.true_or]))
      · have h := h.mrk;by_cases hf : k = f
        · rw [if_pos hf] at h;rcases h.ifW with ⟨hb, h⟩ | ⟨hb, h⟩
          · have e := h.ret;cases e;exact AkJ (v111 H hk (by rw [hb, Bool.or_true]))
          · have a1 := v111 (D := D) H hk (b := false) (by rw [hb, decide_eq_false h5, Bool.false_or])
            obtain ⟨a2, h⟩ := vrd H h;by_cases hs : (wAt s ls k).2 = [59]
            · rw [if_pos hs] at h;have e := h.ret;cases e;exact r88_l0_out2 a1 ldK (by omega) a2 hs
            · rw [if_neg hs] at h;exact r88_l0_next1 a1 ldK (by omega) a2 hs (hc.2 _ _ _ _ _ _ h.lst h.le h.ok)
        · rw [if_neg hf] at h;rcases h.ifW with ⟨hb, h⟩ | ⟨hb, h⟩
          · have e := h.ret;cases e;cases hst : stopW.contains (wAt s ls k).2 with
            | true => exact AkJ (v111 H hk (by rw [hst, Bool.or_true]))
            | false => exact r88_l0_out3 (v111 H hk (by rw [hst, decide_eq_false h5, Bool.false_or])) ldK (by omega) (v129 H hk (by rw [← stops_split hst]; exact hb))
          · obtain ⟨c1, c2⟩ := stops_left hb;have a1 := v111 (D := D) H hk (b := false) (by rw [c1, decide_eq_false h5, Bool.false_or])
            have a0 := v129 (D := D) H hk c2;obtain ⟨a2, h⟩ := vrd H h;by_cases hs : (wAt s ls k).2 = [59]
            · rw [if_pos hs] at h;have e := h.ret;cases e;exact r88_l0_out4 a1 ldK (by omega) a0 a2 hs
            · rw [if_neg hs] at h;exact r88_l0_next2 a1 ldK (by omega) a0 a2 hs (hc.2 _ _ _ _ _ _ h.lst h.le h.ok)
    | sp =>
      intro a us;have a0 := u25 (D := D) H hk;rcases h.ifK with ⟨h5, h⟩ | ⟨h5, h⟩
      · have e := h.ret;cases e;exact r9_l1_out1 a0 (by omega)
      · rcases h.ifW with ⟨hb, h⟩ | ⟨hb, h⟩
        · have e := h.ret;cases e;cases hr : [wRec].contains (wAt s ls k).2 with
          | true => exact r9_l1_out2 a0 (by omega) (isR H hk wRec hr)
          | false =>
            refine r9_l1_out3 a0 (by omega) (isR H hk wRec hr) (isR H hk wProc ?_)
            simp only [List.contains_cons, List.contains_nil, Bool.or_false, Bool.or_eq_true] at hb hr ⊢;rw [hr] at hb; simpa using hb
        · obtain ⟨b1, b2⟩ := not_two hb;obtain ⟨a2, h⟩ := vread H h;exact Bq6 a0 (by omega) (isR H hk wRec b2) (isR H hk wProc b1) a2 (hc.2 _ _ _ _ _ _ h.lst h.le h.ok a us)
    | pg acc =>
      intro hl;have a0 := u25 (D := D) H hk;have hm := hmx acc hl;rcases h.ifK with ⟨h5, h⟩ | ⟨h5, h⟩
      · have e := h.ret;cases e;exact r9_l0_out1 a0 (by omega)
      · rcases h.ifW with ⟨hb, h⟩ | ⟨hb, h⟩
        · obtain ⟨x, k2, D2, l2, a2, h⟩ := vrecord H hc (by omega) h
          have a3 := hc.2 _ _ _ _ _ _ h.lst h.le h.ok (by simp; omega)
          simp only [slO, AxU] at a3;exact r9_l0_next1 a0 (by omega) (isR H hk wRec hb) a2 hm a3
        · have a2 := isR (D := D) H hk wRec hb;rcases h.ifW with ⟨hb2, h⟩ | ⟨hb2, h⟩
          · obtain ⟨x, k2, D2, l2, a3, h⟩ := vproc H hc (by omega) h
            have a4 := hc.2 _ _ _ _ _ _ h.lst h.le h.ok (by simp; omega)
            simp only [slO, AxU] at a4;exact r9_l0_next2 a0 (by omega) a2 (isR H hk wProc hb2) a3 hm a4
          · have a3 := isR (D := D) H hk wProc hb2;obtain ⟨a4, h⟩ := v29 H h;have a0' := u25 (D := rp D 7 k []) H hk;have a2' := isR (D := rp D 7 k []) H hk wRec hb;have a3' := isR (D := rp D 7 k []) H hk wProc hb2;obtain ⟨a5, h⟩ := vread H h.mrk;obtain ⟨u, k2, D2, h1, l2, h2⟩ := h.call hc.1;have a6 := hc.2 _ _ _ _ _ _ h1 h.le h.ok k (trRs ls acc);have a7 := Bq6 a0' (by omega) a2' a3' a5 a6
            have h3 := h2.bd;have a8 := hc.2 _ _ _ _ _ _ h3.lst h3.le h3.ok (by simp; omega)
            simp only [slO, AxU] at a8;exact r9_l0_next3 a0 (by omega) a2 a3 ldK a4 a7 (ndR0 H (by omega) h3.le 1 [] false) hm a8
end
end Go.Abs.Z

namespace Go.Abs.Z
open Go.Proofs Go.RowKit
theorem f89 (c : UInt8) : E 89 [.int .u8 ((c.toNat : Nat) : Int)] [] (.bool (whB c)) [] := by
  unfold whB;by_cases h1 : c = 9
  · subst h1; exact r89_1 rfl
  by_cases h2 : c = 10
  · subst h2; exact r89_2 (by decide) rfl
  by_cases h3 : c = 13
  · subst h3; exact r89_3 (by decide) (by decide) rfl
  have e : (((c.toNat : Nat) : Int) == 32) = (c == 32) := by
    by_cases h4 : c = 32
    · subst h4; rfl
    · rw [beq_eq_false_iff_ne.2 h4, beq_eq_false_iff_ne];exact fun h => h4 ((u8i c 32).1 h)
  have := r89_4 (c := c) (fun h => h1 ((u8i c 9).1 h)) (fun h => h2 ((u8i c 10).1 h)) (fun h => h3 ((u8i c 13).1 h))
  rw [e] at this;rw [beq_eq_false_iff_ne.2 h1, beq_eq_false_iff_ne.2 h2, beq_eq_false_iff_ne.2 h3];simpa using this
theorem f90 (c : UInt8) : E 90 [.int .u8 ((c.toNat : Nat) : Int)] [] (.bool (leB c)) [] := by
  unfold leB;by_cases h : 97 ≤ c.toNat
  · have := r90_1 (c := c) (by omega)
    rw [decide_eq_true h, Bool.true_and];have e : decide (((c.toNat : Nat) : Int) ≤ 122) = decide (c.toNat ≤ 122) := by by_cases h2 : c.toNat ≤ 122 <;> simp [h2] <;> omega
    rwa [e] at this
  · rw [decide_eq_false h, Bool.false_and];exact r90_2 (by omega)
theorem f91 (c : UInt8) : E 91 [.int .u8 ((c.toNat : Nat) : Int)] [] (.bool (diB c)) [] := by
  unfold diB;by_cases h : 48 ≤ c.toNat
  · have := r91_1 (c := c) (by omega)
    rw [decide_eq_true h, Bool.true_and];have e : decide (((c.toNat : Nat) : Int) ≤ 57) = decide (c.toNat ≤ 57) := by by_cases h2 : c.toNat ≤ 57 <;> simp [h2] <;> omega
    rwa [e] at this
  · rw [decide_eq_false h, Bool.false_and];exact r91_2 (by omega)
theorem f92 (w : List UInt8) : E 92 [.str w] [] (.bool (kwL.contains w)) [] := r92 (e114 kwL w (by decide))
def syL2 : List (List UInt8) := [[61, 61], [33, 61], [60, 61], [62, 61]]
theorem sy2 (c d : UInt8) : syL2.contains [c, d] = decide (d = 61 ∧ (c = 61 ∨ c = 33 ∨ c = 60 ∨ c = 62)) := by
  have h : ∀ x y : UInt8, (([c, d] : List UInt8) == [x, y]) = (decide (c = x) && decide (d = y)) := by
    intro x y;by_cases h1 : c = x <;> by_cases h2 : d = y <;> simp [h1, h2]
  simp only [syL2, List.contains_cons, List.contains_nil, Bool.or_false, h];by_cases h1 : d = 61 <;> by_cases h2 : c = 61 <;> by_cases h3 : c = 33 <;> by_cases h4 : c = 60 <;> by_cases h5 : c = 62 <;> simp [h1, h2, h3, h4, h5]
theorem sy1 (c : UInt8) : ∀ l : List UInt8, (l.map fun x => [x]).contains [c] = l.contains c
  | [] => rfl
  | x :: l => by
    rw [List.map_cons, List.contains_cons, List.contains_cons, sy1 c l];congr 1;by_cases h : c = x <;> simp [h]
theorem f93 (s : List UInt8) (hs : s.length < 1000000) (i : Nat) (hi : i < s.length) : E 93 [.str s, N i] [] (N (symN (s.drop i))) [] := by
  obtain ⟨c, l, h1, h2, h3⟩ := getc hi;have x1 := p_ssl s i (i + 1) (by omega) (by omega)
  rw [h1, show i + 1 - i = 1 by omega] at x1
  have a1 := e114 (symL.map fun x => [x]) [c] (by decide)
  rw [sy1] at a1;rw [h1];rcases Nat.lt_or_ge (i + 1) s.length with hlt | hge
  · obtain ⟨d, l', g1, g2, g3⟩ := getc hlt;rw [h3] at g1;subst g1;have x2 := p_ssl s i (i + 2) (by omega) (by omega)
    rw [h1, show i + 2 - i = 2 by omega] at x2
    have a2 := e114 syL2 [c, d] (by decide)
    rw [sy2] at a2;by_cases hh : d = 61 ∧ (c = 61 ∨ c = 33 ∨ c = 60 ∨ c = 62)
    · rw [decide_eq_true hh] at a2;have : symN (c :: d :: l') = 2 := by rw [symN, if_pos ⟨by rw [hh.1]; rfl, hh.2⟩]
      rw [this]; exact r93_1 (by omega) (by omega) x2 a2
    · rw [decide_eq_false hh] at a2;have e : symN (c :: d :: l') = if symL.contains c then 1 else 0 := by rw [symN, if_neg (fun h => hh ⟨Option.some.inj h.1, h.2⟩)]
      rw [e];cases hy : symL.contains c with
      | true => rw [hy] at a1; exact r93_4 (by omega) (by omega) x2 a2 x1 a1
      | false => rw [hy] at a1; exact r93_5 (by omega) (by omega) x2 a2 x1 a1
  · have hl : l = [] := by rw [← h3, List.drop_eq_nil_iff]; omega
    subst hl;have e : symN [c] = if symL.contains c then 1 else 0 := by rw [symN, if_neg (by simp)]
    rw [e];cases hy : symL.contains c with
    | true => rw [hy] at a1; exact r93_2 (by omega) (by omega) x1 a1
    | false => rw [hy] at a1; exact r93_3 (by omega) (by omega) x1 a1
theorem f94 (s : List UInt8) (hs : s.length < 1000000) (i : Nat) {c : UInt8} {l : List UInt8} (h1 : s.drop i = c :: l) (h2 : s[i]? = some c) (hi : i < s.length) : E 94 [.str s, N i] [] (.bool (leB c || diB c || symN (c :: l) != 0)) [] := by
  have a1 := f90 c;have a2 := f91 c;cases hl : leB c with
  | true => rw [hl] at a1; exact r94_1 h2 a1
  | false =>
    rw [hl] at a1;cases hd : diB c with
    | true => rw [hd] at a2; exact r94_2 h2 a1 a2
    | false =>
      rw [hd] at a2;have a3 := f93 s hs i hi;rw [h1] at a3;have := r94_3 h2 a1 a2 a3
      have e : decide (((symN (c :: l) : Nat) : Int) > 0) = (symN (c :: l) != 0) := by
        by_cases h : symN (c :: l) = 0
        · rw [h]; rfl
        · rw [decide_eq_true (by omega), bne_iff_ne.2 h]
      rw [e] at this;simpa using this
theorem f40 (s : List UInt8) (hs : s.length < 1000000) (i : Nat) (hi : i ≤ s.length) : E 40 [.str s, N i] [] (N (i + skN false (s.drop i))) [] := by
  have com : ∀ (a : Nat) (n j : Nat), j ≤ s.length → s.length - j = n →
      LE m40_1 l40_1 [(0, some (.str s)), (1, some (N j)), (10, some (.str s)), (11, some (N a)), (12, some (.int .u8 (((35 : UInt8).toNat : Nat) : Int))), (13, some (.bool false)), (14, some (.bool false)), (15, some (.str s)), (16, some (N a)), (17, some (.int .u8 (((35 : UInt8).toNat : Nat) : Int))), (18, some (.bool true)), (19, some (.bool true))] [] (.exit 2)
        [(0, some (.str s)), (1, some (N (j + runL (· != 10) (s.drop j)))), (10, some (.str s)), (11, some (N a)), (12, some (.int .u8 (((35 : UInt8).toNat : Nat) : Int))), (13, some (.bool false)), (14, some (.bool false)), (15, some (.str s)), (16, some (N a)), (17, some (.int .u8 (((35 : UInt8).toNat : Nat) : Int))), (18, some (.bool true)), (19, some (.bool true))] [] := by
    intro a n
    induction n with
    | zero =>
      intro j hj hn;have : s.drop j = [] := by rw [List.drop_eq_nil_iff]; omega
      rw [this];exact r40_l1_out1 (by omega)
    | succ n ih =>
      intro j hj hn;obtain ⟨c, l, h1, h2, h3⟩ := getc (s := s) (i := j) (by omega)
      rw [h1];by_cases hc : c = 10
      · have e : runL (· != 10) (c :: l) = 0 := by subst hc; simp [runL]
        rw [e]; subst hc; exact r40_l1_out2 (by omega) h2 rfl
      · have e : runL (· != 10) (c :: l) = 1 + runL (· != 10) l := by simp [runL, List.takeWhile_cons, hc]; omega
        have := ih (j + 1) (by omega) (by omega)
        rw [h3] at this;rw [e, show j + (1 + runL (fun x => x != 10) l) = j + 1 + runL (fun x => x != 10) l by omega]
        exact r40_l1_next1 (by omega) h2 (fun h => hc ((u8i c 10).1 h)) (by omega) this
  refine r40 ?_
  have key : ∀ (n i : Nat), i ≤ s.length → s.length - i ≤ n → LE m40_0 l40_0 [(0, some (.str s)), (1, some (N i))] [] (.exit 0) [(1, some (N (i + skN false (s.drop i))))] [] := by
    intro n
    induction n with
    | zero =>
      intro i hi hn;have : s.drop i = [] := by rw [List.drop_eq_nil_iff]; omega
      rw [this];exact Bq8 (by omega)
    | succ n ih =>
      intro i hi hn;rcases Nat.lt_or_ge i s.length with hlt | hge
      · obtain ⟨c, l, h1, h2, h3⟩ := getc hlt;have hc := f89 c;rw [h1];cases hw : whB c with
        | true =>
          rw [hw] at hc
          have n35 : ((c.toNat : Nat) : Int) ≠ 35 := fun h => by
            have := (u8i c 35).1 h;subst this; exact absurd hw (by decide)
          have e : i + skN false (c :: l) = i + 1 + skN false (s.drop (i + 1)) := by rw [h3, skN, if_pos hw]; omega
          rw [e];exact r40_l0_next2 (by omega) h2 hc n35 (by omega) (ih (i + 1) (by omega) (by omega))
        | false =>
          rw [hw] at hc;by_cases h35 : c = 35
          · subst h35;have h134 := com i _ i hi rfl;have hr : runL (· != 10) (s.drop i) = 1 + runL (· != 10) l := by rw [h1]; simp [runL, List.takeWhile_cons]; omega
            have hle := AjQ (· != 10) l;have hll : l.length = s.length - (i + 1) := by rw [← h3, List.length_drop]
            have e : i + skN false ((35 : UInt8) :: l) = i + runL (· != 10) (s.drop i) + skN false (s.drop (i + runL (· != 10) (s.drop i))) := by
              rw [hr, skN, if_neg (by rw [hw]; simp), if_pos rfl, sk_com, ← h3, List.drop_drop, h3]
              rw [show i + 1 + runL (fun x => x != 10) l = i + (1 + runL (fun x => x != 10) l) by omega]; omega
            rw [e];exact r40_l0_next3 (by omega) h2 hc rfl h134 (ih (i + runL (· != 10) (s.drop i)) (by omega) (by omega))
          · have e : skN false (c :: l) = 0 := by rw [skN, if_neg (by rw [hw]; simp), if_neg h35]
            rw [e];exact r40_l0_out2 (by omega) h2 hc (fun h => h35 ((u8i c 35).1 h))
      · have : s.drop i = [] := by rw [List.drop_eq_nil_iff]; omega
        rw [this];exact Bq8 (by omega)
  exact key _ i hi (Nat.le_refl _)
theorem f41a (s : List UInt8) (hs : s.length < 1000000) (i0 : Nat) : ∀ (n i : Nat), i ≤ s.length → s.length - i = n → LE m41_0 l41_0 [(0, some (.str s)), (1, some (N i0)), (6, some (N i))] [] (.exit 1) [(0, some (.str s)), (1, some (N i0)), (6, some (N (i + runL woB (s.drop i))))] [] := by
  intro n
  induction n with
  | zero =>
    intro i hi hn;have : s.drop i = [] := by rw [List.drop_eq_nil_iff]; omega
    rw [this];exact r41_l0_out1 (by omega)
  | succ n ih =>
    intro i hi hn;obtain ⟨c, l, h1, h2, h3⟩ := getc (s := s) (i := i) (by omega)
    have a1 := f90 c;have a2 := f91 c;have ih := ih (i + 1) (by omega) (by omega)
    rw [h3] at ih;rw [h1];have go : woB c = true → i + runL woB (c :: l) = i + 1 + runL woB l := fun h => by simp [runL, List.takeWhile_cons, h]; omega
    cases hl : leB c with
    | true =>
      rw [hl] at a1;rw [go (by simp [woB, hl])]; exact r41_l0_next1 (by omega) h2 a1 (by omega) ih
    | false =>
      rw [hl] at a1;cases hd : diB c with
      | true =>
        rw [hd] at a2;rw [go (by simp [woB, hd])]; exact r41_l0_next2 (by omega) h2 a1 a2 (by omega) ih
      | false =>
        rw [hd] at a2;by_cases h95 : c = 95
        · rw [go (by simp [woB, h95])]; subst h95; exact r41_l0_next3 (by omega) h2 a1 a2 rfl (by omega) ih
        · have e : runL woB (c :: l) = 0 := by simp [runL, List.takeWhile_cons, woB, hl, hd, h95]
          rw [e]; exact r41_l0_out2 (by omega) h2 a1 a2 (fun h => h95 ((u8i c 95).1 h))
theorem f41b (s : List UInt8) (hs : s.length < 1000000) (i0 : Nat) : ∀ (n i : Nat), i ≤ s.length → s.length - i = n → LE m41_1 l41_1 [(0, some (.str s)), (1, some (N i0)), (6, some (N i))] [] (.exit 3) [(0, some (.str s)), (1, some (N i0)), (6, some (N (i + runL diB (s.drop i))))] [] := by
  intro n
  induction n with
  | zero =>
    intro i hi hn;have : s.drop i = [] := by rw [List.drop_eq_nil_iff]; omega
    rw [this];exact r41_l1_out1 (by omega)
  | succ n ih =>
    intro i hi hn;obtain ⟨c, l, h1, h2, h3⟩ := getc (s := s) (i := i) (by omega)
    have a2 := f91 c;have ih := ih (i + 1) (by omega) (by omega)
    rw [h3] at ih;rw [h1];cases hd : diB c with
    | true =>
      rw [hd] at a2;have e : i + runL diB (c :: l) = i + 1 + runL diB l := by simp [runL, List.takeWhile_cons, hd]; omega
      rw [e]; exact r41_l1_next1 (by omega) h2 a2 (by omega) ih
    | false =>
      rw [hd] at a2;have e : runL diB (c :: l) = 0 := by simp [runL, List.takeWhile_cons, hd]
      rw [e]; exact r41_l1_out2 (by omega) h2 a2
theorem f41c (s : List UInt8) (hs : s.length < 1000000) (i0 : Nat) : ∀ (n i : Nat), i ≤ s.length → s.length - i = n → LE m41_2 l41_2 [(0, some (.str s)), (1, some (N i0)), (6, some (N i))] [] (.exit 5) [(0, some (.str s)), (1, some (N i0)), (6, some (N (i + wrN (s.drop i))))] [] := by
  intro n
  induction n with
  | zero =>
    intro i hi hn;have : s.drop i = [] := by rw [List.drop_eq_nil_iff]; omega
    rw [this];exact r41_l2_out1 (by omega)
  | succ n ih =>
    intro i hi hn;obtain ⟨c, l, h1, h2, h3⟩ := getc (s := s) (i := i) (by omega)
    have a1 := f89 c;have a4 := f94 s hs i h1 h2 (by omega)
    have ih := ih (i + 1) (by omega) (by omega)
    rw [h3] at ih;rw [h1];have stop : stopB c l = true → wrN (c :: l) = 0 := fun h => by rw [wrN, if_pos h]
    cases hw : whB c with
    | true => rw [hw] at a1; rw [stop (by simp [stopB, hw])]; exact r41_l2_out2 (by omega) h2 a1
    | false =>
      rw [hw] at a1;by_cases h35 : c = 35
      · rw [stop (by simp [stopB, h35])]; subst h35; exact r41_l2_out3 (by omega) h2 a1 rfl
      have n35 : ((c.toNat : Nat) : Int) ≠ 35 := fun h => h35 ((u8i c 35).1 h)
      cases hb : (leB c || diB c || symN (c :: l) != 0) with
      | true =>
        rw [hb] at a4;rw [stop (by unfold stopB; rw [Bool.or_assoc, Bool.or_assoc, ← Bool.or_assoc (leB c), hb]; simp)]; exact r41_l2_out4 (by omega) h2 a1 n35 a4
      | false =>
        rw [hb] at a4
        have e : wrN (c :: l) = 1 + wrN l := by
          rw [wrN, if_neg];unfold stopB;rw [Bool.or_assoc, Bool.or_assoc, ← Bool.or_assoc (leB c), hb, hw];simp [h35]
        rw [e, show i + (1 + wrN l) = i + 1 + wrN l by omega]
        exact r41_l2_next1 (by omega) h2 a1 n35 a4 (by omega) ih
theorem f41 (s : List UInt8) (hs : s.length < 1000000) (i : Nat) {c : UInt8} {l : List UInt8} (h1 : s.drop i = c :: l) (hw : whB c = false) (h35 : c ≠ 35) : E 41 [.str s, N i] [] (.tuple [N (tokN (s.drop i)).1, N (i + (tokN (s.drop i)).2)]) [] := by
  have hi : i < s.length := by
    rcases Nat.lt_or_ge i s.length with h | h
    · exact h
    · rw [List.drop_eq_nil_of_le h] at h1; cases h1
  obtain ⟨c', l', h1', h2, h3⟩ := getc hi;rw [h1] at h1';obtain ⟨rfl, rfl⟩ := List.cons.inj h1';have a2 := f90 c;have a3 := f91 c;unfold tokN;have hh : (s.drop i).headD 0 = c := by rw [h1]; rfl
  have ht : (s.drop i).tail = l := by rw [h1]; rfl
  rw [hh, ht];cases hl : leB c with
  | true =>
    rw [hl] at a2;have a4 := f41a s hs i _ i (by omega) rfl
    have hle := AjQ woB (s.drop i);rw [List.length_drop] at hle;have a5 := p_ssl s i (i + runL woB (s.drop i)) (by omega) (by omega)
    rw [show i + runL woB (s.drop i) - i = runL woB (s.drop i) by omega] at a5
    have a6 := f92 ((s.drop i).take (runL woB (s.drop i)));simp only [if_true];cases hk : kwL.contains ((s.drop i).take (runL woB (s.drop i))) with
    | true => rw [hk] at a6; exact r41_1 h2 a2 a4 a5 a6
    | false => rw [hk] at a6; exact r41_2 h2 a2 a4 a5 a6
  | false =>
    rw [hl] at a2;simp only [Bool.false_eq_true, if_false];cases hd : diB c with
    | true =>
      rw [hd] at a3;simp only [if_true];exact r41_3 h2 a2 a3 (f41b s hs i _ i (by omega) rfl)
    | false =>
      rw [hd] at a3;simp only [Bool.false_eq_true, if_false];have a4 := f93 s hs i hi;have := BzH (s.drop i);rw [List.length_drop] at this;by_cases hy : 0 < symN (s.drop i)
      · rw [if_pos hy]; exact r41_4 h2 a2 a3 a4 (by omega) a4 (by omega) (by omega)
      · rw [if_neg hy];have a5 := f41c s hs i _ i (by omega) rfl
        have e : wrN (s.drop i) = 1 + wrN l := by
          rw [h1, wrN, if_neg];rw [h1] at hy;have : symN (c :: l) = 0 := by omega
          simp [stopB, hw, h35, hl, hd, this]
        rw [e] at a5;exact r41_5 h2 a2 a3 a4 (by omega) a5
theorem AwY : ∀ (b : Bool) (l : List UInt8) {c : UInt8} {r : List UInt8}, l.drop (skN b l) = c :: r → whB c = false ∧ c ≠ 35
  | b, [], c, r, h => by cases b <;> simp [skN] at h
  | true, d :: l, c, r, h => by
    rw [skN] at h;by_cases h10 : d = 10
    · rw [if_pos h10, Nat.add_comm, List.drop_succ_cons] at h; exact AwY false l h
    · rw [if_neg h10, Nat.add_comm, List.drop_succ_cons] at h; exact AwY true l h
  | false, d :: l, c, r, h => by
    rw [skN] at h;by_cases hw : whB d = true
    · rw [if_pos hw, Nat.add_comm, List.drop_succ_cons] at h; exact AwY false l h
    · rw [if_neg hw] at h;by_cases h35 : d = 35
      · rw [if_pos h35, Nat.add_comm, List.drop_succ_cons] at h; exact AwY true l h
      · rw [if_neg h35, List.drop_zero] at h;cases h;exact ⟨by simpa using hw, h35⟩
theorem sc18 (s : List UInt8) (hs : s.length < 1000000) : ∀ (n f : Nat) (tl : List Tk), f ≤ s.length → s.length - f < n → tl.length + n ≤ 2000000 →
    LE m18_0 l18_0 [(0, some (.str s)), (4, some (.slice true 4 (tl.map Tk.pv))), (5, some (N f))] [] .ret [(2, some (.slice true 4 ((tl ++ scanF n (s.drop f) f).map Tk.pv))), (3, some (I 0))] []
  | 0, f, tl, _, h, _ => by omega
  | n + 1, f, tl, hf, h, hn => by
    have a1 := f40 s hs f hf;have hk := AwZ false (s.drop f);rw [List.length_drop] at hk;have hm : tl.length + 1 ≤ Aq8 := by unfold Aq8; omega
    rw [scanF];by_cases he : (s.drop f).drop (skN false (s.drop f)) = []
    · simp only [he, if_true];rw [List.drop_drop, List.drop_eq_nil_iff] at he;exact r18_l0_out1 (m2 := f + skN false (s.drop f)) a1 (by omega) hm
    · have hcr : ∃ c r, (s.drop f).drop (skN false (s.drop f)) = c :: r := by
        cases hx : (s.drop f).drop (skN false (s.drop f)) with
        | nil => exact absurd hx he
        | cons c r => exact ⟨c, r, rfl⟩
      obtain ⟨c, r, hcr⟩ := hcr;obtain ⟨w1, w2⟩ := AwY false _ hcr;simp only [he, if_false];rw [List.drop_drop] at he hcr
      have hlt : f + skN false (s.drop f) < s.length := by
        rcases Nat.lt_or_ge (f + skN false (s.drop f)) s.length with h' | h'
        · exact h'
        · exact absurd (List.drop_eq_nil_iff.2 (by omega)) he
      have a2 := f41 s hs (f + skN false (s.drop f)) hcr w1 w2;have ht := tokN_le he;rw [List.length_drop] at ht;have := sc18 s hs n (f + skN false (s.drop f) + (tokN (s.drop (f + skN false (s.drop f)))).2) (tl ++ [⟨(tokN (s.drop (f + skN false (s.drop f)))).1, f, f + skN false (s.drop f), f + skN false (s.drop f) + (tokN (s.drop (f + skN false (s.drop f)))).2⟩]) (by omega) (by omega) (by simp; omega)
      rw [List.append_assoc] at this;simp only [List.drop_drop];exact r18_l0_next1 a1 (by omega) a2 hm this
theorem f18 (s : List UInt8) (hs : s.length ≤ 4096) : E 18 [.str s] [] (.tuple [.slice false 4 ((scanT s).map Tk.pv), I 0]) [] :=
  r18_2 (by omega) (sc18 s (by omega) (s.length + 1) 0 [] (by omega) (by omega) (by simp; omega))
theorem n64 (w : List UInt8) (hw : w.length ≤ 9) : ∀ (n j : Nat) (z : Int), j + n = w.length →
    (∃ z', w.length ≤ j + runL diB (w.drop j) ∧ LE m64_0 l64_0 [(0, some (.str w)), (4, some (I z)), (5, some (N j))] [] (.exit 0) [(0, some (.str w)), (4, some (I z'))] []) ∨
    (j + runL diB (w.drop j) < w.length ∧ LE m64_0 l64_0 [(0, some (.str w)), (4, some (I z)), (5, some (N j))] [] .ret [(2, some (I 0)), (3, some (.bool false))] [])
  | 0, j, z, h => .inl ⟨z, by omega, r64_l0_out1 (by omega)⟩
  | n + 1, j, z, h => by
    obtain ⟨c, l, h1, h2, h3⟩ := getc (s := w) (i := j) (by omega)
    have a2 := f91 c;rw [h1];cases hd : diB c with
    | true =>
      rw [hd] at a2;have e : j + runL diB (c :: l) = j + 1 + runL diB l := by simp [runL, List.takeWhile_cons, hd]; omega
      rw [e];rcases n64 w hw n (j + 1) _ (by omega) with ⟨z', h4, h5⟩ | ⟨h4, h5⟩
      · rw [h3] at h4; exact .inl ⟨z', h4, AvW (by omega) h2 a2 rfl rfl rfl rfl (by omega) h5⟩
      · rw [h3] at h4; exact .inr ⟨h4, AvW (by omega) h2 a2 rfl rfl rfl rfl (by omega) h5⟩
    | false =>
      rw [hd] at a2;have e : runL diB (c :: l) = 0 := by simp [runL, List.takeWhile_cons, hd]
      rw [e];exact .inr ⟨by omega, r64_l0_out2 (by omega) h2 a2⟩
theorem f64 (w : List UInt8) : ∃ z, E 64 [.str w] [] (.tuple [I z, .bool (numB w)]) [] := by
  by_cases h1 : w.length < 1
  · have : numB w = false := by
      have : w = [] := List.length_eq_zero_iff.1 (by omega)
      subst this; rfl
    rw [this]; exact ⟨0, r64_1 (by omega)⟩
  · by_cases h2 : 9 < w.length
    · have : numB w = false := by simp [numB]; omega
      rw [this]; exact ⟨0, r64_2 (by omega) (by omega)⟩
    · have hne : w ≠ [] := fun h => h1 (by rw [h]; simp)
      rcases n64 w (by omega) w.length 0 0 (by omega) with ⟨z', h4, h5⟩ | ⟨h4, h5⟩
      · rw [List.drop_zero, Nat.zero_add] at h4;have : numB w = true := by simp [numB]; exact ⟨hne, by omega, by omega⟩
        rw [this]; exact ⟨z', r64_3 (by omega) (by omega) h5⟩
      · rw [List.drop_zero, Nat.zero_add] at h4;have : numB w = false := by simp [numB]; omega
        rw [this]; exact ⟨0, r64_4 (by omega) (by omega) h5⟩
end Go.Abs.Z

namespace Go.Abs.Z
open Go.Proofs Go.RowKit
theorem Sd.cons_left {a : Dg} {A B R : List Dg} (h : Sd (A ++ B) R) (ha : ∀ x ∈ A ++ B, a.a ≤ x.a) : Sd ((a :: A) ++ B) (a :: R) := by
  refine ⟨List.pairwise_cons.2 ⟨fun x hx => ha x (h.mem.1 hx), h.asc⟩, h.perm.cons a, fun k => ?_⟩
  have := h.keep k;simp only [fk, List.cons_append, List.filter_cons] at this ⊢;rw [this]
theorem Sd.Bz4 {b : Dg} {A B R : List Dg} (h : Sd (A ++ B) R) (ha : ∀ x ∈ A, b.a < x.a) (hb : ∀ x ∈ B, b.a ≤ x.a) : Sd (A ++ b :: B) (b :: R) := by
  have e : A ++ b :: B = (A ++ [b]) ++ B := by simp
  refine ⟨List.pairwise_cons.2 ⟨fun x hx => ?_, h.asc⟩, (h.perm.cons b).trans ?_, fun k => ?_⟩
  · rcases List.mem_append.1 (h.mem.1 hx) with hx | hx
    · exact Nat.le_of_lt (ha x hx)
    · exact hb x hx
  · exact List.perm_middle.symm
  · have h1 := h.keep k
    have h2 := fk_comm (k := k) (u := A) (v := [b]) fun x hx y hy => by
      rw [List.mem_singleton] at hy; subst hy; have := ha x hx; omega
    rw [e, AxK, h2, ← AxK];simp only [fk, List.cons_append, List.nil_append, List.filter_cons] at h1 ⊢;rw [h1]
theorem AwR {a : Dg} {A : List Dg} : Asc (a :: A) ↔ (∀ x ∈ A, a.a ≤ x.a) ∧ Asc A := List.pairwise_cons
theorem BqB : ∀ (n : Nat) (A B acc : List Dg), A.length + B.length = n → acc.length + n < 1000000 → Asc A → Asc B →
    ∃ R, LE m32_0 l32_0 [(0, some (.slice false 5 (A.map Dg.pv))), (1, some (.slice false 5 (B.map Dg.pv))), (5, some (.slice true 5 (acc.map Dg.pv)))] [] (.exit 0) [(5, some (.slice true 5 ((acc ++ R).map Dg.pv)))] [] ∧ Sd (A ++ B) R
  | n, [], [], acc, h, hl, hA, hB => ⟨[], by rw [List.append_nil]; exact r32_l0_out1 (A := []) (B := []) (by simp) (by simp), Sd.refl List.Pairwise.nil⟩
  | 0, a :: A, B, acc, h, hl, hA, hB => by simp at h
  | 0, [], b :: B, acc, h, hl, hA, hB => by simp at h
  | n + 1, a :: A, [], acc, h, hl, hA, hB => by
    simp only [List.length_cons, List.length_nil] at h;obtain ⟨a1, a2⟩ := AwR.1 hA;obtain ⟨R, hL, hS⟩ := BqB n A [] (acc ++ [a]) (by simp <;> omega) (by simp <;> omega) a2 hB
    rw [List.append_assoc] at hL;exact ⟨a :: R, r32_l0_next1 (A := []) (B := []) (by simp <;> omega) (by simp) rfl (by unfold Aq8; omega) (by simp) hL, hS.cons_left (by simpa using a1)⟩
  | n + 1, [], b :: B, acc, h, hl, hA, hB => by
    simp only [List.length_cons, List.length_nil] at h;obtain ⟨a1, a2⟩ := AwR.1 hB;obtain ⟨R, hL, hS⟩ := BqB n [] B (acc ++ [b]) (by simp <;> omega) (by simp <;> omega) hA a2
    rw [List.append_assoc] at hL;exact ⟨b :: R, r32_l0_next5 (A := []) (B := []) (by simp) (by simp <;> omega) (by simp <;> omega) rfl (by unfold Aq8; omega) (by simp) hL, hS.Bz4 (fun x hx => by cases hx) a1⟩
  | n + 1, a :: A, b :: B, acc, h, hl, hA, hB => by
    simp only [List.length_cons] at h;obtain ⟨a1, a2⟩ := AwR.1 hA;obtain ⟨b1, b2⟩ := AwR.1 hB;by_cases hc : a.a ≤ b.a
    · obtain ⟨R, hL, hS⟩ := BqB n A (b :: B) (acc ++ [a]) (by simp <;> omega) (by simp <;> omega) a2 hB
      rw [List.append_assoc] at hL;refine ⟨a :: R, r32_l0_next2 (A := []) (B := []) (by simp <;> omega) (by simp <;> omega) rfl rfl (by omega) rfl (by unfold Aq8; omega) (by simp) hL, hS.cons_left fun x hx => ?_⟩
      rcases List.mem_append.1 hx with hx | hx
      · exact a1 x hx
      · rcases List.mem_cons.1 hx with rfl | hx
        · exact hc
        · exact Nat.le_trans hc (b1 x hx)
    · obtain ⟨R, hL, hS⟩ := BqB n (a :: A) B (acc ++ [b]) (by simp <;> omega) (by simp <;> omega) hA b2
      rw [List.append_assoc] at hL;refine ⟨b :: R, r32_l0_next3 (A := []) (B := []) (by simp <;> omega) (by simp <;> omega) rfl rfl (by omega) rfl (by unfold Aq8; omega) (by simp) hL, hS.Bz4 (fun x hx => ?_) b1⟩
      rcases List.mem_cons.1 hx with rfl | hx
      · omega
      · have := a1 x hx; omega
theorem mg_nil : ∀ (A acc : List Dg), acc.length + A.length < 1000000 →
    LE m32_0 l32_0 [(0, some (.slice false 5 (A.map Dg.pv))), (1, some .nils), (5, some (.slice true 5 (acc.map Dg.pv)))] [] (.exit 0) [(5, some (.slice true 5 ((acc ++ A).map Dg.pv)))] []
  | [], acc, hl => by rw [List.append_nil]; exact r32n_l0_out1 (by simp)
  | a :: A, acc, hl => by
    simp only [List.length_cons] at hl;have hL := mg_nil A (acc ++ [a]) (by simp <;> omega)
    rw [List.append_assoc] at hL;exact BzV (by simp <;> omega) rfl (by unfold Aq8; omega) (by simp) hL
theorem f32 {A B : List Dg} (hA : Asc A) (hB : Asc B) (hl : A.length + B.length < 1000000) : ∃ R, E 32 [.slice false 5 (A.map Dg.pv), accD 5 (B.map Dg.pv)] [] (.slice false 5 (R.map Dg.pv)) [] ∧ Sd (A ++ B) R := by
  cases B with
  | nil => exact ⟨A, r32n (mg_nil A [] (by simpa using hl)), by rw [List.append_nil]; exact Sd.refl hA⟩
  | cons b B =>
    obtain ⟨R, hL, hS⟩ := BqB _ A (b :: B) [] rfl (by simpa using hl) hA hB
    exact ⟨R, r32 hL, hS⟩
theorem lx_loop (s : List UInt8) (hs : s.length ≤ 4096) (all : List Tk) (ha : all.length ≤ 5000) : ∀ (rest done : List Tk), all = done ++ rest → (∀ t ∈ rest, t.a ≤ t.e ∧ t.e ≤ s.length) →
    LE m33_0 l33_0 [(0, some (.str s)), (3, some (.slice true 5 ((lexP s done).map Dg.pv))), (4, some (.slice false 4 (all.map Tk.pv))), (6, some (N done.length))] [] (.exit 0) [(0, some (.str s)), (3, some (.slice true 5 ((lexP s all).map Dg.pv)))] []
  | [], done, e, _ => by
    rw [List.append_nil] at e;subst e;exact r33_l0_out1 (by omega)
  | t :: rest, done, e, hr => by
    have hlen : all.length = done.length + (rest.length + 1) := by rw [e]; simp
    have ih := lx_loop s hs all ha rest (done ++ [t]) (by rw [e]; simp) (fun u hu => hr u (by simp [hu]))
    have g1 : all[done.length]? = some t := by rw [e]; simp
    obtain ⟨h1, h2⟩ := hr t (by simp)
    have x1 : E 65 [.str s, t.pv] [] (.str (wd s t)) [] := r65 (p_ssl s t.a t.e h1 h2);have hw : (wd s t).length = t.e - t.a := by simp only [wd, List.length_take, List.length_drop]; omega
    rw [List.length_append, List.length_singleton] at ih;have hl : (lexP s done).length ≤ done.length := Av4 s done
    have eL : lexP s (done ++ [t]) = if lexC s t = 0 then lexP s done else lexP s done ++ [⟨lexC s t, t.a, t.e, []⟩] := by
      rw [AwN]; simp only [lexP]; split <;> simp
    have hm : (lexP s done).length + 1 ≤ Aq8 := by unfold Aq8; omega
    obtain ⟨z, hz⟩ := f64 (wd s t);rw [eL] at ih;by_cases c4 : t.k = 4
    · have hc : lexC s t = 1 := by simp [lexC, c4]
      rw [hc, if_neg (by decide)] at ih
      exact r33_l0_next1 (by omega) g1 x1 hz g1 (by omega) g1 g1 hm (by omega) ih
    · by_cases c2 : t.k = 2
      · cases hn : numB (wd s t) with
        | true =>
          have hc : lexC s t = 0 := by simp [lexC, c2, hn]
          rw [hc, if_pos rfl] at ih;rw [hn] at hz;exact r33_l0_next4 (by omega) g1 x1 hz g1 (by omega) g1 (by omega) g1 (by omega) (by omega) ih
        | false =>
          have hc : lexC s t = 2 := by simp [lexC, c2, hn]
          rw [hc, if_neg (by decide)] at ih
          rw [hn] at hz;exact r33_l0_next2 (by omega) g1 x1 hz g1 (by omega) g1 (by omega) g1 g1 hm (by omega) ih
      · by_cases c0 : t.k = 0
        · by_cases cl : 16 < (wd s t).length
          · have hc : lexC s t = 3 := by simp [lexC, c0, cl]
            rw [hc, if_neg (by decide)] at ih
            exact r33_l0_next5 (by omega) g1 x1 hz g1 (by omega) g1 (by omega) g1 (by omega) g1 g1 h1 (by omega) (by omega) g1 g1 hm (by omega) ih
          · have hc : lexC s t = 0 := by simp [lexC, c0, cl]
            rw [hc, if_pos rfl] at ih;exact r33_l0_next6 (by omega) g1 x1 hz g1 (by omega) g1 (by omega) g1 (by omega) g1 g1 h1 (by omega) (by omega) (by omega) ih
        · have hc : lexC s t = 0 := by simp [lexC, c0, c2, c4]
          rw [hc, if_pos rfl] at ih;exact r33_l0_next3 (by omega) g1 x1 hz g1 (by omega) g1 (by omega) g1 (by omega) (by omega) ih
theorem f33 (s : List UInt8) (hs : s.length ≤ 4096) : E 33 [.str s] [] (.slice false 5 ((lexs s).map Dg.pv)) [] := by
  have hl : (scanT s).length ≤ s.length + 1 := AzI (s.length + 1) s 0;have hw := (Ak1 s (s.length + 1) 0 (by omega) (by omega)).wf
  exact r33 (f18 s hs) (lx_loop s hs (scanT s) (by omega) (scanT s) [] rfl (fun t ht => ⟨(hw t ht).1.ord.1, (hw t ht).1.ord.2.1⟩))
theorem st24 (s : List UInt8) (all : List Tk) (ha : all.length ≤ 5000) : ∀ (rest done : List Tk), all = done ++ rest →
    LE m24_0 l24_0 [(3, some rf), (4, some (.slice false 4 (all.map Tk.pv))), (6, some (N done.length))] [y0 s (accP 4 ((good done).map Tk.pv))] (.exit 0) [(3, some rf)] [y0 s (accP 4 ((good all).map Tk.pv))]
  | [], done, e => by
    rw [List.append_nil] at e;subst e;exact r24_l0_out1 (by omega)
  | t :: rest, done, e => by
    have hlen : all.length = done.length + (rest.length + 1) := by rw [e]; simp
    have ih := st24 s all ha rest (done ++ [t]) (by rw [e]; simp)
    have g1 : all[done.length]? = some t := by rw [e]; simp
    rw [List.length_append, List.length_singleton] at ih
    have eG : good (done ++ [t]) = if t.k = 4 then good done else good done ++ [t] := by
      unfold good;rw [List.filter_append];by_cases h : t.k = 4
      · simp [h]
      · simp [h]
    have gl : (good done).length ≤ done.length := List.length_filter_le _ _;rw [eG] at ih;by_cases c4 : t.k = 4
    · rw [if_pos c4] at ih;exact r24_l0_next2 (by omega) g1 (by omega) (by omega) ih
    · rw [if_neg c4, List.map_append, List.map_singleton] at ih;exact r24_l0_next1 (by omega) g1 (by omega) g1 (by rw [List.length_map]; unfold Aq8; omega) (by omega) ih
theorem f24 (s : List UInt8) (hs : s.length ≤ 4096) : E 24 [.str s] [] rf (RS4 s (toksT s) 0 []) := by
  have hl : (scanT s).length ≤ s.length + 1 := AzI (s.length + 1) s 0;have h := st24 s (scanT s) (by omega) (scanT s) [] rfl
  have hT := (AzV s (by omega)).len
  have e : [y0 s (accP 4 ((toksT s).map Tk.pv))] = RS4 s (toksT s) 0 [] := by
    cases hg : toksT s with
    | nil => rw [hg] at hT; cases hT
    | cons t ts => rfl
  rw [← e];exact r24 (f18 s hs) h
theorem asc_lex (s : List UInt8) (hs : s.length ≤ 4096) : Asc (lexs s) := by
  have ho := (Ak1 s (s.length + 1) 0 (by omega) (by omega)).ord
  have : ∀ l : List Tk, (l.Pairwise fun t u => t.a < u.a ∧ t.e ≤ u.a) → Asc (lexP s l) ∧ ∀ d ∈ lexP s l, ∃ t ∈ l, t.a = d.a := by
    intro l
    induction l with
    | nil => exact fun _ => ⟨List.Pairwise.nil, fun d h => by cases h⟩
    | cons t l ih =>
      intro h;obtain ⟨h1, h2⟩ := List.pairwise_cons.1 h;obtain ⟨i1, i2⟩ := ih h2;rw [lexP];split
      · exact ⟨i1, fun d hd => by obtain ⟨u, hu, e⟩ := i2 d hd; exact ⟨u, by simp [hu], e⟩⟩
      · refine ⟨List.pairwise_cons.2 ⟨fun d hd => ?_, i1⟩, fun d hd => ?_⟩
        · obtain ⟨u, hu, e⟩ := i2 d hd;have := (h1 u hu).1;show t.a ≤ d.a; omega
        · rcases List.mem_cons.1 hd with rfl | hd
          · exact ⟨t, by simp, rfl⟩
          · obtain ⟨u, hu, e⟩ := i2 d hd; exact ⟨u, by simp [hu], e⟩
  exact (this _ ho).1
theorem tA_mono {s : List UInt8} {ls : List Tk} {m : Nat} (H : Toks s ls m) {i j : Nat} (h : i ≤ j) (hj : j ≤ m) : tA ls i ≤ tA ls j := by
  rcases Nat.lt_or_ge i j with hlt | hge
  · obtain ⟨t, ht⟩ := H.at (k := i) (by omega)
    obtain ⟨u, hu⟩ := H.at (k := j) hj;have := (H.inc _ _ _ _ ht hu hlt).1;rw [tA_eq ht, tA_eq hu]; omega
  · have : i = j := by omega
    subst this; exact Nat.le_refl _
theorem finD_mem {w : Nat → Wd} {k : Nat} {D : List AD} (hD : Dok k D) : ∀ d ∈ finD w k D, d.i ≤ k := by
  unfold finD;split
  · exact hD.2
  · intro d hd;rcases List.mem_append.1 hd with hd | hd
    · exact hD.2 d hd
    · rw [List.mem_singleton] at hd; subst hd; exact Nat.le_refl _
theorem asc_dgs {s : List UInt8} {ls : List Tk} {m : Nat} (H : Toks s ls m) {w : Nat → Wd} {k : Nat} {D : List AD} (hD : Dok k D) (hk : k ≤ m) : Asc (dgs ls (finD w k D)) := by
  have h1 : (finD w k D).Pairwise fun a b => a.i ≤ b.i := by
    have h0 : D.Pairwise fun a b => a.i ≤ b.i := hD.1.imp fun h => Nat.le_of_lt h
    unfold finD;split
    · exact h0
    · refine List.pairwise_append.2 ⟨h0, List.pairwise_singleton _ _, fun a ha b hb => ?_⟩
      rw [List.mem_singleton] at hb; subst hb; exact hD.2 a ha
  have h2 := finD_mem (w := w) hD;show ((finD w k D).map (dgA ls)).Pairwise _;rw [List.pairwise_map];exact h1.imp_of_mem fun {a b} _ hb h => tA_mono H h (Nat.le_trans (h2 _ hb) hk)
section
variable {s : List UInt8}
theorem AwX (_hs : s.length ≤ 4096) : (toksT s).length ≤ s.length + 1 ∧ (lexs s).length ≤ s.length + 1 := by
  have hsc : (scanT s).length ≤ s.length + 1 := AzI (s.length + 1) s 0;exact ⟨Nat.le_trans (List.length_filter_le _ _) hsc, Nat.le_trans (Av4 s _) hsc⟩
theorem fin_len {w : Nat → Wd} {k : Nat} {D : List AD} (hD : Dok k D) : (finD w k D).length ≤ k + 2 := by
  have := hD.small;unfold finD;split
  · omega
  · simp; omega
theorem f37 (hs : s.length ≤ 4096) {k : Nat} {D : List AD} (hk : k ≤ (toksT s).length - 1) (hD : Dok k D) :
    ∃ R σ, Sd (lexs s ++ dgs (toksT s) (finD (wAt s (toksT s)) k D)) R ∧ E 37 [rf] (RS4 s (toksT s) k D) (.slice false 5 (R.map Dg.pv)) σ := by
  have H := AzV s (by omega)
  obtain ⟨l1, l2⟩ := AwX hs;have l3 := fin_len (w := wAt s (toksT s)) hD;obtain ⟨t, ht⟩ := H.at hk;have h25 := u25 (D := D) H hk;have hw := AjI (s := s) ht;obtain ⟨R, hE, hS⟩ := f32 (asc_lex s hs) (asc_dgs H (w := wAt s (toksT s)) hD hk) (by simp only [dgs, List.length_map]; omega)
  have hDl := hD.small;rw [dgs_pv] at hE;by_cases h5 : t.k = 5
  · have e : finD (wAt s (toksT s)) k D = D := by unfold finD; rw [hw, if_pos h5]
    rw [e] at hE;exact ⟨R, _, hS, r37_2 h25 (by rw [hw]; omega) (f33 s hs) hE⟩
  · have e : finD (wAt s (toksT s)) k D = D ++ [⟨4, k, wEnd⟩] := by unfold finD; rw [hw, if_neg h5]
    have ed : dgp (toksT s) ⟨4, k, wEnd⟩ = .agg [I 4, N t.a, N t.e, .str wEnd, .nils] := by
      show (Dg.mk 4 (tA _ k) (tE _ k) wEnd).pv = _;rw [tA_eq ht, tE_eq ht]; rfl
    rw [e, List.map_append, List.map_singleton, ed] at hE;exact ⟨R, _, hS, r37_1 h25 (by rw [hw]; omega) ht (by rw [List.length_map]; unfold Aq8; omega) (f33 s hs) hE⟩
theorem f15 (hs : s.length ≤ 4096) {n : Nat} (hn : n ≤ big4) {v : Rs} {k : Nat} {D : List AD} (h : runN (wAt s (toksT s)) n (.ex 1) 0 [] = some (v, k, D)) :
    ∃ R σ, Sd (lexs s ++ dgs (toksT s) (finD (wAt s (toksT s)) k D)) R ∧ E 15 [.str s] [] (.tuple [(trR (toksT s) v.1).pv, .slice false 5 (R.map Dg.pv), I 0]) σ := by
  have H := AzV s (by omega)
  obtain ⟨ok, ev⟩ := okR H n hn;have hD0 : Dok 0 [] := ⟨List.Pairwise.nil, fun d h => by cases h⟩
  have hL := ev _ _ _ _ _ _ h (Nat.zero_le _) hD0 (.inl rfl);obtain ⟨o1, o2, o3⟩ := ok _ _ _ _ h (Nat.zero_le _) hD0;have o2 : k ≤ (toksT s).length - 1 := o2;have o3 : Dok k D := o3;obtain ⟨R, σ, hS, hE⟩ := f37 hs o2 o3;exact ⟨R, σ, hS, r15_2 (by omega) (f24 s hs) hL hE⟩
theorem f17 (hs : s.length ≤ 4096) {n : Nat} (hn : n ≤ big4) {v : Rs} {k : Nat} {D : List AD} (h : runN (wAt s (toksT s)) n .st 0 [] = some (v, k, D)) :
    ∃ R σ, Sd (lexs s ++ dgs (toksT s) (finD (wAt s (toksT s)) k D)) R ∧ E 17 [.str s] [] (.tuple [(trR (toksT s) v.1).pv, .slice false 5 (R.map Dg.pv), I 0]) σ := by
  have H := AzV s (by omega)
  obtain ⟨ok, ev⟩ := okR H n hn;have hD0 : Dok 0 [] := ⟨List.Pairwise.nil, fun d h => by cases h⟩
  have hL := ev _ _ _ _ _ _ h (Nat.zero_le _) hD0;obtain ⟨o1, o2, o3⟩ := ok _ _ _ _ h (Nat.zero_le _) hD0;have o2 : k ≤ (toksT s).length - 1 := o2;have o3 : Dok k D := o3;obtain ⟨R, σ, hS, hE⟩ := f37 hs o2 o3;exact ⟨R, σ, hS, r17_2 (by omega) (f24 s hs) hL hE⟩
end
end Go.Abs.Z
