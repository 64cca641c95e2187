/- A part of the proof: X1 X2 X3. -/
import Derived.Test.YtkmhldloehaamaaGreatDoorWb
import Derived.Test.YtkmhldloehaamaaGreatDoorVa

set_option linter.unusedVariables false
set_option linter.unusedSimpArgs false
namespace Go.Abs.Z
open Go.Proofs Go.RowKit
theorem shapeCalls (m : Nat) (hm : 101 ≤ m) : AqE (run (m + 5)) :=
  ⟨run107 m hm, run108 (m + 2) (by omega), run28L (m + 4) (by omega), run27 (m + 4), isStm3_run (call := run (m + 4)) (n := m + 4), isType3_run (call := run (m + 4)) (n := m + 4), isPlace3_run (call := run (m + 4)) (n := m + 4)⟩
theorem e60 (T : Tr) (h0 : 0 ≤ T.kind) (h1 : T.kind ≤ 29) : E 41 [T.pv] [] (.bool (Aq5 T.kind T.text)) [] := by
  rw [Tr.pv_nd]; exact ev_at 6 fun m hm => text3_run (call := run (m + 5)) (n := m + 5) (shapeCalls m hm) T.kp_ok h0 h1
theorem e61 (k : Int) (h0 : 0 ≤ k) (h1 : k ≤ 29) : E 42 [.int .i64 k] [] (.tuple [.int .i64 (leastOf k : Nat), .int .i64 (AqD k : Nat)]) [] := ev_at 1 fun m _ => most3_run (call := run m) (n := m) h0 h1
theorem e62 (k : Int) (U : Tr) (i : Nat) (h0 : 0 ≤ k) (h1 : k ≤ 29) (hi : i < AqD k) : E 43 [.int .i64 k, .int .i64 i, U.pv] [] (.bool (kidOk k i U.kind U.text)) [] := by
  rw [Tr.pv_nd]; exact ev_at 6 fun m hm => kid3_run (call := run (m + 5)) (n := m + 5) (shapeCalls m hm) U.kp_ok h0 h1 i hi
def Ax2 (k : Int) : Nat → List Tr → Bool
  | _, [] => true
  | i, U :: us => kidOk k i U.kind U.text && Ax2 k (i + 1) us
def locOk (T : Tr) : Bool := decide (0 ≤ T.kind) && decide (T.kind ≤ 29) && decide (T.kind ≠ 1) && Aq5 T.kind T.text && decide (leastOf T.kind ≤ T.kids.length) && decide (T.kids.length ≤ AqD T.kind) && Ax2 T.kind 0 T.kids
def AjM (T : Tr) : Bool := T.pre.all locOk
theorem pres_flat : ∀ ks : List Tr, (Tr.pres ks).all locOk = ks.all AjM
  | [] => rfl
  | t :: ts => by rw [Tr.pres, List.all_append, pres_flat ts]; rfl
theorem shapeB_eq (T : Tr) : AjM T = (locOk T && T.kids.all AjM) := by
  obtain ⟨k, t, a, e, n, ks⟩ := T;unfold AjM;rw [Tr.pre, List.all_cons, pres_flat]; rfl
def refK (k : Int) : Nat → List Tr → Bool
  | _, [] => true
  | i, U :: us => kidOk k i U.kind U.text && (AjM U && refK k (i + 1) us)
theorem refK_eq (k : Int) : ∀ (us : List Tr) (i : Nat), refK k i us = (Ax2 k i us && us.all AjM)
  | [], i => rfl
  | U :: us, i => by
    rw [refK, Ax2, refK_eq k us (i + 1), List.all_cons];cases kidOk k i U.kind U.text <;> cases AjM U <;> cases Ax2 k (i + 1) us <;> rfl
theorem drop_at {α : Type} {l : List α} {j : Nat} (h : j < l.length) : ∃ x, l[j]? = some x ∧ l.drop j = x :: l.drop (j + 1) :=
  ⟨l[j], by simp [h], List.drop_eq_getElem_cons h⟩
theorem AxZ {T U : Tr} {j : Nat} (h : T.kids[j]? = some U) : U ∈ T.kids := List.mem_of_getElem? h
theorem shape_loop (T : Tr) (hw : T.wf) (h0 : 0 ≤ T.kind) (h1 : T.kind ≤ 29) (hm : T.kids.length ≤ AqD T.kind) (hlen : T.kids.length < 4611686018427387904) (ih : ∀ U ∈ T.kids, E 17 [U.pv] [] (.bool (AjM U)) []) :
    ∀ (r j : Nat), j + r = T.kids.length → Az7 pur run m37_0 l37_0 [(1, some (.vptr T.pv)), (5, some (.int .i64 ((j : Nat) : Int)))] [] (if refK T.kind j (T.kids.drop j) then .exit 0 else .ret) (if refK T.kind j (T.kids.drop j) then [(1, some (.vptr T.pv))] else [(2, some (.bool false))]) [] := by
  intro r
  induction r with
  | zero =>
    intro j hj;rw [List.drop_of_length_le (by omega)]
    exact r37_l0_out1 hw (by omega)
  | succ r ihr =>
    intro j hj;obtain ⟨U, hg, hd⟩ := drop_at (l := T.kids) (j := j) (by omega)
    have hlt : ((j : Nat) : Int) < ((T.kids.length : Nat) : Int) := by omega
    rw [hd, refK];have e1 := e62 T.kind U j h0 h1 (by omega)
    have e2 := ih U (AxZ hg);cases b1 : kidOk T.kind j U.kind U.text with
    | false => rw [b1] at e1; exact r37_l0_out2 hw hlt hg e1
    | true =>
      rw [b1] at e1;cases b2 : AjM U with
      | false => rw [b2] at e2; exact r37_l0_out3 hw hlt hg e1 hg e2
      | true =>
        rw [b2] at e2;exact r37_l0_next1 hw hlt hg e1 hg e2 (by omega) (ihr (j + 1) (by omega))
theorem e37' (T : Tr) (hw : T.wf) (hlen : T.pre.length ≤ Ax1) (ih : ∀ U ∈ T.kids, E 17 [U.pv] [] (.bool (AjM U)) []) : E 17 [T.pv] [] (.bool (AjM T)) [] := by
  have hk : T.kids.length < 4611686018427387904 := by
    have := AjZ T.kids;obtain ⟨k, t, a, e, n, ks⟩ := T;simp [Tr.pre, Ax1] at hlen; simp [Tr.kids] at this ⊢; omega
  rw [shapeB_eq];unfold locOk;by_cases h0 : T.kind < 0
  · have : decide (0 ≤ T.kind) = false := by simp; omega
    rw [this]; exact r37_1 h0
  · have a0 : decide (0 ≤ T.kind) = true := by simp; omega
    by_cases h1 : T.kind = 1
    · have : decide (T.kind ≠ 1) = false := by simp [h1]
      rw [this]; simp only [Bool.and_false, Bool.false_and]; exact r37_2 h0 h1
    · have a1 : decide (T.kind ≠ 1) = true := by simp [h1]
      by_cases h2 : T.kind > 29
      · have : decide (T.kind ≤ 29) = false := by simp; omega
        rw [a0, this]; exact r37_3 h0 h1 h2
      · have a2 : decide (T.kind ≤ 29) = true := by simp; omega
        rw [a0, a1, a2];have e1 := e60 T (by omega) (by omega)
        have e2 := e61 T.kind (by omega) (by omega)
        cases b1 : Aq5 T.kind T.text with
        | false => rw [b1] at e1; exact r37_4 h0 h1 h2 e1
        | true =>
          rw [b1] at e1;by_cases h3 : leastOf T.kind ≤ T.kids.length
          · by_cases h4 : T.kids.length ≤ AqD T.kind
            · have hl := shape_loop T hw (by omega) (by omega) h4 hk ih T.kids.length 0 (by omega)
              rw [List.drop_zero] at hl;have hr := refK_eq T.kind T.kids 0;simp only [h3, h4, decide_true, Bool.true_and];rw [← hr];cases b2 : refK T.kind 0 T.kids with
              | true => rw [b2] at hl; exact r37_7 h0 h1 h2 e1 e2 hw (by omega) (by omega) hl
              | false => rw [b2] at hl; exact r37_8 h0 h1 h2 e1 e2 hw (by omega) (by omega) hl
            · simp only [h3, h4, decide_true, decide_false, Bool.true_and, Bool.false_and];exact r37_6 h0 h1 h2 e1 e2 hw (by omega) (by omega)
          · simp only [h3, decide_false, Bool.true_and, Bool.false_and];exact r37_5 h0 h1 h2 e1 e2 hw (by omega)
theorem e37 : ∀ (n : Nat) (T : Tr), T.pre.length ≤ n → T.wf → T.pre.length ≤ Ax1 → E 17 [T.pv] [] (.bool (AjM T)) []
  | 0, T, h, _, _ => by obtain ⟨k, t, a, e, n, ks⟩ := T; simp [Tr.pre] at h
  | n + 1, T, h, hw, hr => e37' T hw hr fun U hU => by
    have := AzX T U hU;exact e37 n U (by omega) (kid_wf T U hw hU) (by omega)
end Go.Abs.Z

namespace Go.Abs.Z
open Go.Proofs Go.RowKit
theorem fnev {f : FuncId} {cs : List PV} {x r : PV} (h : E f (x :: cs) [] r []) (hp : pur f = true) (hx : x.Aq0 = x) (hxf : x.free = true) (hc : cs.map PV.Aq0 = cs) (hfl : (x :: cs).all PV.flat = true) (hr : r.flat = true) (hd : r.Aq0 = r) : FnEv (.func f [] cs) x r :=
  fun σ => op_wdp h hp (by simp [hx, hc]) (by simp [hxf]) hfl hr hd
theorem beqL (x y : List UInt8) : (x == y) = decide (x = y) := by
  by_cases h : x = y <;> simp [h]
def KindFn (G : PV) (g : Int → Bool) : Prop := Fv G ∧ ∀ x, FnEv G (.int .i64 x) (.bool (g x))
def TextFn (F : PV) (p : List UInt8 → Bool) : Prop := Fv F ∧ ∀ s, FnEv F (.str s) (.bool (p s))
theorem kind_of {f : FuncId} {g : Int → Bool} (h : ∀ x, E f [.int .i64 x] [] (.bool (g x)) []) (hp : pur f = true) : KindFn (.func f [] []) g := ⟨⟨f, [], rfl, rfl⟩, fun x => fnev (h x) hp rfl rfl rfl rfl rfl rfl⟩
theorem text_of {f : FuncId} {g : List UInt8 → Bool} (h : ∀ x, E f [.str x] [] (.bool (g x)) []) (hp : pur f = true) : TextFn (.func f [] []) g := ⟨⟨f, [], rfl, rfl⟩, fun x => fnev (h x) hp rfl rfl rfl rfl rfl rfl⟩
theorem fnName : TextFn (.func 154 [] []) nameB := text_of e123 rfl
theorem AjJ : TextFn (.func 159 [] []) (fun s => s == []) := text_of (fun _ => r128) rfl
theorem fnNumber : TextFn (.func 161 [] []) AxU := text_of e130 rfl
theorem Ak1 : KindFn (.func 100 [] []) Ax0 := kind_of (fun x => ev_at 1 fun m _ => isExpT_run (call := run m) (n := m) x) rfl
theorem fnStm : KindFn (.func 61 [] []) AjF := kind_of (fun x => ev_at 1 fun m _ => isStmT_run (call := run m) (n := m) x) rfl
theorem fnType : KindFn (.func 157 [] []) AqI := kind_of (fun x => ev_at 1 fun m _ => isTypeT_run (call := run m) (n := m) x) rfl
theorem fnPlace : KindFn (.func 162 [] []) AzC := kind_of (fun x => ev_at 1 fun m _ => isPlaceT_run (call := run m) (n := m) x) rfl
theorem e165 (xs : List Int) (x : Int) (hl : xs.length < 4611686018427387904) : ∀ (r j : Nat), j + r = xs.length → (x ∈ xs.drop j → ∃ m : Nat, Az7 pur run m165_0 l165_0 [(0, some (.slice false 1 (xs.map (PV.int .i64)))), (1, some (.int .i64 x)), (7, some (.int .i64 ((xs.length : Nat) : Int))), (8, some (.int .i64 ((j : Nat) : Int)))] [] .ret [(4, some (.int .i64 ((m : Nat) : Int)))] []) ∧
    (x ∉ xs.drop j → Az7 pur run m165_0 l165_0 [(0, some (.slice false 1 (xs.map (PV.int .i64)))), (1, some (.int .i64 x)), (7, some (.int .i64 ((xs.length : Nat) : Int))), (8, some (.int .i64 ((j : Nat) : Int)))] [] (.exit 0) [(0, some (.slice false 1 (xs.map (PV.int .i64))))] []) := by
  intro r
  induction r with
  | zero =>
    intro j hj;rw [List.drop_of_length_le (by omega)]
    exact ⟨fun h => (by cases h), fun _ => r165_l0_out1 (by omega)⟩
  | succ r ih =>
    intro j hj;obtain ⟨z, hg, hd⟩ := drop_at (l := xs) (j := j) (by omega)
    obtain ⟨i1, i2⟩ := ih (j + 1) (by omega)
    rw [hd];by_cases hz : x = z
    · exact ⟨fun _ => ⟨j, r165_l0_out2 (by omega) hg hz⟩, fun h => absurd (by simp [hz]) h⟩
    · exact ⟨fun h => by
        obtain ⟨m, hm⟩ := i1 (by simpa [hz] using h)
        exact ⟨m, r165_l0_next1 (by omega) hg hz (by omega) hm⟩, fun h => r165_l0_next1 (by omega) hg hz (by omega) (i2 (by simpa [hz] using h))⟩
theorem e166 (xs : List (List UInt8)) (x : List UInt8) (hl : xs.length < 4611686018427387904) : ∀ (r j : Nat), j + r = xs.length → (x ∈ xs.drop j → ∃ m : Nat, Az7 pur run m166_0 l166_0 [(0, some (.slice false 1 (xs.map PV.str))), (1, some (.str x)), (7, some (.int .i64 ((xs.length : Nat) : Int))), (8, some (.int .i64 ((j : Nat) : Int)))] [] .ret [(4, some (.int .i64 ((m : Nat) : Int)))] []) ∧
    (x ∉ xs.drop j → Az7 pur run m166_0 l166_0 [(0, some (.slice false 1 (xs.map PV.str))), (1, some (.str x)), (7, some (.int .i64 ((xs.length : Nat) : Int))), (8, some (.int .i64 ((j : Nat) : Int)))] [] (.exit 0) [(0, some (.slice false 1 (xs.map PV.str)))] []) := by
  intro r
  induction r with
  | zero =>
    intro j hj;rw [List.drop_of_length_le (by omega)]
    exact ⟨fun h => (by cases h), fun _ => r166_l0_out1 (by omega)⟩
  | succ r ih =>
    intro j hj;obtain ⟨z, hg, hd⟩ := drop_at (l := xs) (j := j) (by omega)
    obtain ⟨i1, i2⟩ := ih (j + 1) (by omega)
    rw [hd];by_cases hz : x = z
    · exact ⟨fun _ => ⟨j, r166_l0_out2 (by omega) hg hz⟩, fun h => absurd (by simp [hz]) h⟩
    · exact ⟨fun h => by
        obtain ⟨m, hm⟩ := i1 (by simpa [hz] using h)
        exact ⟨m, r166_l0_next1 (by omega) hg hz (by omega) hm⟩, fun h => r166_l0_next1 (by omega) hg hz (by omega) (i2 (by simpa [hz] using h))⟩
theorem e155 (xs : List Int) (x : Int) (hl : xs.length < 4611686018427387904) : E 184 [.slice false 1 (xs.map (PV.int .i64)), .int .i64 x] [] (.bool (xs.contains x)) [] := by
  obtain ⟨h1, h2⟩ := e165 xs x hl xs.length 0 (by omega)
  rw [List.drop_zero] at h1 h2;by_cases h : x ∈ xs
  · obtain ⟨m, hm⟩ := h1 h;have := r155 (r165_2 hm);have e : xs.contains x = decide (((m : Nat) : Int) ≥ 0) := by simp [h]
    rw [e]; exact this
  · have := r155 (r165_1 (h2 h));have e : xs.contains x = decide ((-1 : Int) ≥ 0) := by simp [h]
    rw [e]; exact this
theorem e158 (xs : List (List UInt8)) (x : List UInt8) (hl : xs.length < 4611686018427387904) : E 187 [.slice false 1 (xs.map PV.str), .str x] [] (.bool (xs.contains x)) [] := by
  obtain ⟨h1, h2⟩ := e166 xs x hl xs.length 0 (by omega)
  rw [List.drop_zero] at h1 h2;by_cases h : x ∈ xs
  · obtain ⟨m, hm⟩ := h1 h;have := r158 (r166_2 hm);have e : xs.contains x = decide (((m : Nat) : Int) ≥ 0) := by simp [h]
    rw [e]; exact this
  · have := r158 (r166_1 (h2 h));have e : xs.contains x = decide ((-1 : Int) ≥ 0) := by simp [h]
    rw [e]; exact this
theorem fnOne (xs : List Int) (hl : xs.length < 4611686018427387904) : KindFn (.func 183 [] [.vptr (.slice false 1 (xs.map (PV.int .i64)))]) (fun x => xs.contains x) :=
  ⟨⟨183, _, rfl, rfl⟩, fun x => fnev (r154 (e155 xs x hl)) rfl rfl rfl rfl rfl rfl rfl⟩
theorem fnWord (xs : List (List UInt8)) (hl : xs.length < 4611686018427387904) : TextFn (.func 186 [] [.vptr (.slice false 1 (xs.map PV.str))]) (fun x => xs.contains x) :=
  ⟨⟨186, _, rfl, rfl⟩, fun x => fnev (r157 (e158 xs x hl)) rfl rfl rfl rfl rfl rfl rfl⟩
theorem fnOpt {F : PV} {g : Int → Bool} (h : KindFn F g) : KindFn (.func 185 [] [.vptr F]) (fun x => x == 0 || g x) :=
  ⟨⟨185, _, rfl, rfl⟩, fun x => by
    refine fnev ?_ rfl rfl rfl rfl rfl rfl rfl
    by_cases hx : x = 0
    · subst hx; exact r156_1 h.1 rfl
    · have e : (x == 0) = false := by simpa using hx
      dsimp only; rw [e]; exact r156_2 h.1 hx (h.2 x)⟩
theorem fnTyp {F G : PV} {p q : List UInt8 → Bool} (h : TextFn F p) (h' : TextFn G q) : TextFn (.func 160 [] [.vptr F, .vptr G]) (fun s => p s || q s) :=
  ⟨⟨160, _, rfl, rfl⟩, fun x => by
    refine fnev ?_ rfl rfl rfl rfl rfl rfl rfl
    have h1 := h.2 x;cases hb : p x with
    | true => rw [hb] at h1; dsimp only; rw [hb]; exact r129_1 h.1 h'.1 h1
    | false => rw [hb] at h1; dsimp only; rw [hb]; exact r129_2 h.1 h'.1 h1 (h'.2 x)⟩
theorem e83a_loop {F G : PV} {g : Int → Bool} {m : Nat} (hF : Fv F) (hG : KindFn G g) (T : Tr) (hw : T.wf) (hl : T.kids.length < 4611686018427387904) : ∀ (r j : Nat), j + r = T.kids.length →
    Az7 pur run m83_0 l83_0 [(2, some (.vptr (.agg [F, .nils, G, (.int .i64 ((m : Nat) : Int))]))), (42, some T.kp), (43, some (.int .i64 ((T.kids.length : Nat) : Int))), (44, some (.int .i64 ((j : Nat) : Int)))] []
      (if (T.kids.drop j).all (fun U => g U.kind) then .exit 0 else .ret) (if (T.kids.drop j).all (fun U => g U.kind) then [(2, some (.vptr (.agg [F, .nils, G, (.int .i64 ((m : Nat) : Int))]))), (42, some T.kp)] else [(4, some (.bool false))]) [] := by
  intro r
  induction r with
  | zero => intro j hj; rw [List.drop_of_length_le (by omega)]; exact r83a_l0_out1 hF hG.1 (by omega)
  | succ r ih =>
    intro j hj;obtain ⟨U, hg, hd⟩ := drop_at (l := T.kids) (j := j) (by omega)
    rw [hd, List.all_cons];have h1 := hG.2 U.kind;cases hb : g U.kind with
    | true => rw [hb] at h1; exact r83a_l0_next1 hF hG.1 (by omega) hw hg h1 (by omega) (ih (j + 1) (by omega))
    | false => rw [hb] at h1; exact r83a_l0_out2 hF hG.1 (by omega) hw hg h1
theorem e83a {F G : PV} {p : List UInt8 → Bool} {g : Int → Bool} {m : Nat} (hF : TextFn F p) (hG : KindFn G g) (T : Tr) (hw : T.wf) (hl : T.kids.length < 4611686018427387904) :
    E 106 [.agg [F, .nils, G, .int .i64 ((m : Nat) : Int)], T.pv] [] (.bool (p T.text && (decide (m ≤ T.kids.length) && T.kids.all (fun U => g U.kind)))) [] := by
  have h1 := hF.2 T.text;cases hb : p T.text with
  | false => rw [hb] at h1; exact r83a_1 hF.1 hG.1 h1
  | true =>
    rw [hb] at h1;by_cases hm : m ≤ T.kids.length
    · have hl := e83a_loop (m := m) hF.1 hG T hw hl T.kids.length 0 (by omega)
      rw [List.drop_zero] at hl;simp only [hm, decide_true, Bool.true_and];cases ha : T.kids.all (fun U => g U.kind) with
      | true => rw [ha] at hl; exact r83a_3 hF.1 hG.1 h1 hw (by omega) hl
      | false => rw [ha] at hl; exact r83a_4 hF.1 hG.1 h1 hw (by omega) hl
    · simp only [hm, decide_false, Bool.false_and, Bool.and_false];exact r83a_2 hF.1 hG.1 h1 hw (by omega)
theorem e83c {F : PV} {p : List UInt8 → Bool} (hF : TextFn F p) (T : Tr) (hw : T.wf) :
    E 106 [.agg [F, .nils, .nilf, .int .i64 0], T.pv] [] (.bool (p T.text && T.kids.isEmpty)) [] := by
  have h1 := hF.2 T.text;cases hb : p T.text with
  | false => rw [hb] at h1; exact r83c_1 hF.1 h1
  | true =>
    rw [hb] at h1;cases hk : T.kids with
    | nil => 
      have hz : ((T.kids.length : Nat) : Int) = 0 := by simp [hk]
      exact r83c_3 hF.1 h1 hw hz (r83c_l0_out1 (m1 := 0) hF.1 (by omega))
    | cons => exact r83c_2 hF.1 h1 hw (by simp [hk]; omega)
def allK : List (Int → Bool) → List Tr → Bool
  | [], [] => true
  | g :: gs, U :: us => g U.kind && allK gs us
  | _, _ => false
def KFs : List PV → List (Int → Bool) → Prop
  | [], [] => True
  | F :: es, g :: gs => KindFn F g ∧ KFs es gs
  | _, _ => False
theorem KFs.len : ∀ {es : List PV} {gs : List (Int → Bool)}, KFs es gs → es.length = gs.length
  | [], [], _ => rfl
  | _ :: es, _ :: gs, h => by have := KFs.len h.2; simp [this]
  | [], _ :: _, h => h.elim
  | _ :: _, [], h => h.elim
theorem KFs.get : ∀ {es : List PV} {gs : List (Int → Bool)} {j : Nat} {g : Int → Bool}, KFs es gs → gs[j]? = some g → ∃ F, es[j]? = some F ∧ KindFn F g
  | F :: es, g :: gs, 0, g', h, hg => by cases hg; exact ⟨F, rfl, h.1⟩
  | F :: es, g :: gs, j + 1, g', h, hg => by simpa using KFs.get h.2 (by simpa using hg)
  | [], [], j, g', h, hg => by simp at hg
  | [], _ :: _, _, _, h, _ => h.elim
  | _ :: _, [], _, _, h, _ => h.elim
theorem allK_len : ∀ (gs : List (Int → Bool)) (us : List Tr), us.length ≠ gs.length → allK gs us = false
  | [], [], h => absurd rfl h
  | [], _ :: _, _ => rfl
  | _ :: _, [], _ => rfl
  | g :: gs, U :: us, h => by rw [allK, allK_len gs us (by simpa using h), Bool.and_false]
theorem e83b_loop {F : PV} {es : List PV} {gs : List (Int → Bool)} (hF : Fv F) (hK : KFs es gs) (T : Tr) (hw : T.wf) (hl : T.kids.length < 4611686018427387904) (he : T.kids.length = es.length) : ∀ (r j : Nat), j + r = T.kids.length →
    Az7 pur run m83_0 l83_0 [(2, some (.vptr (.agg [F, (.slice false 1 es), .nilf, (.int .i64 0)]))), (42, some T.kp), (43, some (.int .i64 ((T.kids.length : Nat) : Int))), (44, some (.int .i64 ((j : Nat) : Int)))] []
      (if allK (gs.drop j) (T.kids.drop j) then .exit 0 else .ret) (if allK (gs.drop j) (T.kids.drop j) then [(2, some (.vptr (.agg [F, (.slice false 1 es), .nilf, (.int .i64 0)]))), (42, some T.kp)] else [(4, some (.bool false))]) [] := by
  have hlen := hK.len;intro r
  induction r with
  | zero => intro j hj; rw [List.drop_of_length_le (by omega), List.drop_of_length_le (by omega)]; exact r83b_l0_out1 hF (by omega)
  | succ r ih =>
    intro j hj;obtain ⟨U, hg, hd⟩ := drop_at (l := T.kids) (j := j) (by omega)
    obtain ⟨g, hg', hd'⟩ := drop_at (l := gs) (j := j) (by omega)
    obtain ⟨F', hf, hk⟩ := hK.get hg';rw [hd, hd', allK];have h1 := hk.2 U.kind;cases hb : g U.kind with
    | true => rw [hb] at h1; exact r83b_l0_next1 hF (by omega) hw hg hk.1 hf h1 (by omega) (ih (j + 1) (by omega))
    | false => rw [hb] at h1; exact r83b_l0_out2 hF (by omega) hw hg hk.1 hf h1
theorem e83b {F : PV} {p : List UInt8 → Bool} {es : List PV} {gs : List (Int → Bool)} (hF : TextFn F p) (hK : KFs es gs) (T : Tr) (hw : T.wf) (hl : T.kids.length < 4611686018427387904) :
    E 106 [.agg [F, .slice false 1 es, .nilf, .int .i64 0], T.pv] [] (.bool (p T.text && allK gs T.kids)) [] := by
  have h1 := hF.2 T.text;have hlen := hK.len;cases hb : p T.text with
  | false => rw [hb] at h1; exact r83b_1 hF.1 h1
  | true =>
    rw [hb] at h1;by_cases he : T.kids.length = es.length
    · have hl := e83b_loop hF.1 hK T hw hl he T.kids.length 0 (by omega)
      rw [List.drop_zero, List.drop_zero] at hl;cases ha : allK gs T.kids with
      | true => rw [ha] at hl; exact r83b_3 hF.1 h1 hw (by omega) hl
      | false => rw [ha] at hl; exact r83b_4 hF.1 h1 hw (by omega) hl
    · rw [allK_len gs T.kids (by omega)]
      exact r83b_2 hF.1 h1 hw (by omega)
theorem AzP {k : Int} {g : Int → Bool} (h : ∀ i k' t', kidOk k i k' t' = g k') : ∀ (us : List Tr) (i : Nat), Ax2 k i us = us.all (fun U => g U.kind)
  | [], _ => rfl
  | U :: us, i => by rw [Ax2, h, AzP h us (i + 1), List.all_cons]
def AxQ (T : Tr) : Bool := T.kids.all (fun U => (U.text == [105, 110, 116]) || (U.text == [98, 111, 111, 108]))
def AxS (T : Tr) : Prop := ∃ F K G m b, Ok0 F ∧ Ok0 K ∧ Ok0 G ∧ semP (.look (.agg [.nilf, .nils, .nilf, (.int .i64 0)]) true true) [AqL, (.int .i64 T.kind)] = some [some (.tuple [.agg [F, K, G, .int .i64 ((m : Nat) : Int)], .bool true])] ∧
  E 106 [.agg [F, K, G, .int .i64 ((m : Nat) : Int)], T.pv] [] (.bool b) [] ∧ (T.kind ≠ 4 → b = locOk T) ∧ (T.kind = 4 → locOk T = (b && AxQ T) ∧ (b = true → T.kids.length = 1))
theorem prog0 (T : Tr) (hw : T.wf) (hl : T.kids.length ≤ 4096) (hk : T.kind = 0) : AxS T := by
  have hF := AjJ;refine ⟨_, _, _, 0, _, hF.1.ok, Aj8, AxT, by rw [hk]; rfl, e83c hF T hw, fun _ => ?_, fun h => by omega⟩
  unfold locOk;rw [hk];cases T.kids with
  | nil => simp [Aq5, leastOf, AqD, Ax2, kidOk, allK, AqZ, AqI, AxQ]; try simp only [beqL]
  | cons a r => simp [Aq5, leastOf, AqD, Ax2, kidOk, allK, AqZ, AqI, AxQ]
theorem prog2 (T : Tr) (hw : T.wf) (hl : T.kids.length ≤ 4096) (hk : T.kind = 2) : AxS T := by
  have hF := AjJ;have hG := (fnOne [3, 5] (by decide))
  refine ⟨_, _, _, 0, _, hF.1.ok, Aj8, hG.1.ok, by rw [hk]; rfl, e83a (m := 0) hF hG T hw (by omega), fun _ => ?_, fun h => by omega⟩
  unfold locOk;rw [hk];have hkk := AzP (k := 2) (g := fun x => (x == 3 || x == 5)) (fun i k1 t1 => by simp [kidOk, AqI, AjF, Ax0]) T.kids 0
  rw [hkk];simp [Aq5, leastOf, AqD, hl]
  try (simp only [Bool.and_assoc, Bool.or_assoc, Bool.and_comm, Bool.and_left_comm, Bool.or_comm, Bool.or_left_comm])
theorem prog3 (T : Tr) (hw : T.wf) (hl : T.kids.length ≤ 4096) (hk : T.kind = 3) : AxS T := by
  have hF := fnName;have hG := (fnOne [4] (by decide))
  refine ⟨_, _, _, 1, _, hF.1.ok, Aj8, hG.1.ok, by rw [hk]; rfl, e83a (m := 1) hF hG T hw (by omega), fun _ => ?_, fun h => by omega⟩
  unfold locOk;rw [hk];have hkk := AzP (k := 3) (g := fun x => x == 4) (fun i k1 t1 => by simp [kidOk, AqI, AjF, Ax0]) T.kids 0
  rw [hkk];simp [Aq5, leastOf, AqD, hl]
  try (simp only [Bool.and_assoc, Bool.or_assoc, Bool.and_comm, Bool.and_left_comm, Bool.or_comm, Bool.or_left_comm])
theorem prog4 (T : Tr) (hw : T.wf) (hl : T.kids.length ≤ 4096) (hk : T.kind = 4) : AxS T := by
  have hF := fnName;have hK : KFs [.func 183 [] [.vptr (.slice false 1 [.int .i64 9])]] [_] := ⟨(fnOne [9] (by decide)), trivial⟩
  refine ⟨_, _, _, 0, _, hF.1.ok, ok_sl _ _, AxT, by rw [hk]; rfl, e83b hF hK T hw (by omega), fun h => absurd hk h, fun _ => ?_⟩
  unfold locOk;rw [hk];unfold AxQ;rcases T.kids with _ | ⟨a, _ | ⟨b, _ | ⟨c, _ | ⟨d, r⟩⟩⟩⟩ <;> simp [Aq5, leastOf, AqD, Ax2, kidOk, allK, AqZ, AqI, AxQ] <;> (try simp only [beqL]) <;> (try (simp only [Bool.and_assoc, Bool.or_assoc, Bool.and_comm, Bool.and_left_comm, Bool.or_comm, Bool.or_left_comm]))
theorem prog5 (T : Tr) (hw : T.wf) (hl : T.kids.length ≤ 4096) (hk : T.kind = 5) : AxS T := by
  have hF := fnName;have hK : KFs [.func 183 [] [.vptr (.slice false 1 [.int .i64 6])], .func 185 [] [.vptr (.func 157 [] [])], .func 183 [] [.vptr (.slice false 1 [.int .i64 11])]] [_, _, _] := ⟨(fnOne [6] (by decide)), (fnOpt fnType), (fnOne [11] (by decide)), trivial⟩
  refine ⟨_, _, _, 0, _, hF.1.ok, ok_sl _ _, AxT, by rw [hk]; rfl, e83b hF hK T hw (by omega), fun _ => ?_, fun h => by omega⟩
  unfold locOk;rw [hk];rcases T.kids with _ | ⟨a, _ | ⟨b, _ | ⟨c, _ | ⟨d, r⟩⟩⟩⟩ <;> simp [Aq5, leastOf, AqD, Ax2, kidOk, allK, AqZ, AqI, AxQ] <;> (try simp only [beqL]) <;> (try (simp only [Bool.and_assoc, Bool.or_assoc, Bool.and_comm, Bool.and_left_comm, Bool.or_comm, Bool.or_left_comm]))
theorem prog6 (T : Tr) (hw : T.wf) (hl : T.kids.length ≤ 4096) (hk : T.kind = 6) : AxS T := by
  have hF := AjJ;have hG := (fnOne [7, 8] (by decide))
  refine ⟨_, _, _, 0, _, hF.1.ok, Aj8, hG.1.ok, by rw [hk]; rfl, e83a (m := 0) hF hG T hw (by omega), fun _ => ?_, fun h => by omega⟩
  unfold locOk;rw [hk];have hkk := AzP (k := 6) (g := fun x => (x == 7 || x == 8)) (fun i k1 t1 => by simp [kidOk, AqI, AjF, Ax0]) T.kids 0
  rw [hkk];simp [Aq5, leastOf, AqD, hl]
  try (simp only [Bool.and_assoc, Bool.or_assoc, Bool.and_comm, Bool.and_left_comm, Bool.or_comm, Bool.or_left_comm])
theorem prog7 (T : Tr) (hw : T.wf) (hl : T.kids.length ≤ 4096) (hk : T.kind = 7) : AxS T := by
  have hF := fnName;have hK : KFs [.func 185 [] [.vptr (.func 157 [] [])]] [_] := ⟨(fnOpt fnType), trivial⟩;refine ⟨_, _, _, 0, _, hF.1.ok, ok_sl _ _, AxT, by rw [hk]; rfl, e83b hF hK T hw (by omega), fun _ => ?_, fun h => by omega⟩
  unfold locOk;rw [hk];rcases T.kids with _ | ⟨a, _ | ⟨b, _ | ⟨c, _ | ⟨d, r⟩⟩⟩⟩ <;> simp [Aq5, leastOf, AqD, Ax2, kidOk, allK, AqZ, AqI, AxQ] <;> (try simp only [beqL]) <;> (try (simp only [Bool.and_assoc, Bool.or_assoc, Bool.and_comm, Bool.and_left_comm, Bool.or_comm, Bool.or_left_comm]))
theorem prog8 (T : Tr) (hw : T.wf) (hl : T.kids.length ≤ 4096) (hk : T.kind = 8) : AxS T := by
  have hF := fnName;have hK : KFs [.func 185 [] [.vptr (.func 157 [] [])]] [_] := ⟨(fnOpt fnType), trivial⟩;refine ⟨_, _, _, 0, _, hF.1.ok, ok_sl _ _, AxT, by rw [hk]; rfl, e83b hF hK T hw (by omega), fun _ => ?_, fun h => by omega⟩
  unfold locOk;rw [hk];rcases T.kids with _ | ⟨a, _ | ⟨b, _ | ⟨c, _ | ⟨d, r⟩⟩⟩⟩ <;> simp [Aq5, leastOf, AqD, Ax2, kidOk, allK, AqZ, AqI, AxQ] <;> (try simp only [beqL]) <;> (try (simp only [Bool.and_assoc, Bool.or_assoc, Bool.and_comm, Bool.and_left_comm, Bool.or_comm, Bool.or_left_comm]))
theorem prog9 (T : Tr) (hw : T.wf) (hl : T.kids.length ≤ 4096) (hk : T.kind = 9) : AxS T := by
  have hF := (fnTyp (fnWord [[105, 110, 116], [98, 111, 111, 108]] (by decide)) fnName)
  refine ⟨_, _, _, 0, _, hF.1.ok, Aj8, AxT, by rw [hk]; rfl, e83c hF T hw, fun _ => ?_, fun h => by omega⟩
  unfold locOk;rw [hk];cases T.kids with
  | nil => simp [Aq5, leastOf, AqD, Ax2, kidOk, allK, AqZ, AqI, AxQ]; try simp only [beqL]
  | cons a r => simp [Aq5, leastOf, AqD, Ax2, kidOk, allK, AqZ, AqI, AxQ]
theorem prog10 (T : Tr) (hw : T.wf) (hl : T.kids.length ≤ 4096) (hk : T.kind = 10) : AxS T := by
  have hF := fnNumber;refine ⟨_, _, _, 0, _, hF.1.ok, Aj8, AxT, by rw [hk]; rfl, e83c hF T hw, fun _ => ?_, fun h => by omega⟩
  unfold locOk;rw [hk];cases T.kids with
  | nil => simp [Aq5, leastOf, AqD, Ax2, kidOk, allK, AqZ, AqI, AxQ]; try simp only [beqL]
  | cons a r => simp [Aq5, leastOf, AqD, Ax2, kidOk, allK, AqZ, AqI, AxQ]
theorem prog11 (T : Tr) (hw : T.wf) (hl : T.kids.length ≤ 4096) (hk : T.kind = 11) : AxS T := by
  have hF := AjJ;have hG := fnStm;refine ⟨_, _, _, 0, _, hF.1.ok, Aj8, hG.1.ok, by rw [hk]; rfl, e83a (m := 0) hF hG T hw (by omega), fun _ => ?_, fun h => by omega⟩
  unfold locOk;rw [hk];have hkk := AzP (k := 11) (g := fun x => AjF x) (fun i k1 t1 => by simp [kidOk, AqI, AjF, Ax0]) T.kids 0
  rw [hkk];simp [Aq5, leastOf, AqD, hl]
  try (simp only [Bool.and_assoc, Bool.or_assoc, Bool.and_comm, Bool.and_left_comm, Bool.or_comm, Bool.or_left_comm])
theorem prog12 (T : Tr) (hw : T.wf) (hl : T.kids.length ≤ 4096) (hk : T.kind = 12) : AxS T := by
  have hF := fnName;have hK : KFs [.func 185 [] [.vptr (.func 157 [] [])], .func 100 [] []] [_, _] := ⟨(fnOpt fnType), Ak1, trivial⟩;refine ⟨_, _, _, 0, _, hF.1.ok, ok_sl _ _, AxT, by rw [hk]; rfl, e83b hF hK T hw (by omega), fun _ => ?_, fun h => by omega⟩
  unfold locOk;rw [hk];rcases T.kids with _ | ⟨a, _ | ⟨b, _ | ⟨c, _ | ⟨d, r⟩⟩⟩⟩ <;> simp [Aq5, leastOf, AqD, Ax2, kidOk, allK, AqZ, AqI, AxQ] <;> (try simp only [beqL]) <;> (try (simp only [Bool.and_assoc, Bool.or_assoc, Bool.and_comm, Bool.and_left_comm, Bool.or_comm, Bool.or_left_comm]))
theorem prog13 (T : Tr) (hw : T.wf) (hl : T.kids.length ≤ 4096) (hk : T.kind = 13) : AxS T := by
  have hF := AjJ;have hK : KFs [.func 162 [] [], .func 100 [] []] [_, _] := ⟨fnPlace, Ak1, trivial⟩;refine ⟨_, _, _, 0, _, hF.1.ok, ok_sl _ _, AxT, by rw [hk]; rfl, e83b hF hK T hw (by omega), fun _ => ?_, fun h => by omega⟩
  unfold locOk;rw [hk];rcases T.kids with _ | ⟨a, _ | ⟨b, _ | ⟨c, _ | ⟨d, r⟩⟩⟩⟩ <;> simp [Aq5, leastOf, AqD, Ax2, kidOk, allK, AqZ, AqI, AxQ] <;> (try simp only [beqL]) <;> (try (simp only [Bool.and_assoc, Bool.or_assoc, Bool.and_comm, Bool.and_left_comm, Bool.or_comm, Bool.or_left_comm]))
theorem prog14 (T : Tr) (hw : T.wf) (hl : T.kids.length ≤ 4096) (hk : T.kind = 14) : AxS T := by
  have hF := AjJ;have hK : KFs [.func 100 [] [], .func 183 [] [.vptr (.slice false 1 [.int .i64 11])], .func 185 [] [.vptr (.func 183 [] [.vptr (.slice false 1 [.int .i64 11, .int .i64 14])])]] [_, _, _] := ⟨Ak1, (fnOne [11] (by decide)), (fnOpt (fnOne [11, 14] (by decide))), trivial⟩
  refine ⟨_, _, _, 0, _, hF.1.ok, ok_sl _ _, AxT, by rw [hk]; rfl, e83b hF hK T hw (by omega), fun _ => ?_, fun h => by omega⟩
  unfold locOk;rw [hk];rcases T.kids with _ | ⟨a, _ | ⟨b, _ | ⟨c, _ | ⟨d, r⟩⟩⟩⟩ <;> simp [Aq5, leastOf, AqD, Ax2, kidOk, allK, AqZ, AqI, AxQ] <;> (try simp only [beqL]) <;> (try (simp only [Bool.and_assoc, Bool.or_assoc, Bool.and_comm, Bool.and_left_comm, Bool.or_comm, Bool.or_left_comm]))
theorem prog15 (T : Tr) (hw : T.wf) (hl : T.kids.length ≤ 4096) (hk : T.kind = 15) : AxS T := by
  have hF := AjJ;have hK : KFs [.func 100 [] [], .func 183 [] [.vptr (.slice false 1 [.int .i64 11])]] [_, _] := ⟨Ak1, (fnOne [11] (by decide)), trivial⟩
  refine ⟨_, _, _, 0, _, hF.1.ok, ok_sl _ _, AxT, by rw [hk]; rfl, e83b hF hK T hw (by omega), fun _ => ?_, fun h => by omega⟩
  unfold locOk;rw [hk];rcases T.kids with _ | ⟨a, _ | ⟨b, _ | ⟨c, _ | ⟨d, r⟩⟩⟩⟩ <;> simp [Aq5, leastOf, AqD, Ax2, kidOk, allK, AqZ, AqI, AxQ] <;> (try simp only [beqL]) <;> (try (simp only [Bool.and_assoc, Bool.or_assoc, Bool.and_comm, Bool.and_left_comm, Bool.or_comm, Bool.or_left_comm]))
theorem prog16 (T : Tr) (hw : T.wf) (hl : T.kids.length ≤ 4096) (hk : T.kind = 16) : AxS T := by
  have hF := fnName;have hK : KFs [.func 100 [] [], .func 100 [] [], .func 183 [] [.vptr (.slice false 1 [.int .i64 11])]] [_, _, _] := ⟨Ak1, Ak1, (fnOne [11] (by decide)), trivial⟩
  refine ⟨_, _, _, 0, _, hF.1.ok, ok_sl _ _, AxT, by rw [hk]; rfl, e83b hF hK T hw (by omega), fun _ => ?_, fun h => by omega⟩
  unfold locOk;rw [hk];rcases T.kids with _ | ⟨a, _ | ⟨b, _ | ⟨c, _ | ⟨d, r⟩⟩⟩⟩ <;> simp [Aq5, leastOf, AqD, Ax2, kidOk, allK, AqZ, AqI, AxQ] <;> (try simp only [beqL]) <;> (try (simp only [Bool.and_assoc, Bool.or_assoc, Bool.and_comm, Bool.and_left_comm, Bool.or_comm, Bool.or_left_comm]))
theorem prog17 (T : Tr) (hw : T.wf) (hl : T.kids.length ≤ 4096) (hk : T.kind = 17) : AxS T := by
  have hF := AjJ;have hK : KFs [.func 185 [] [.vptr (.func 100 [] [])]] [_] := ⟨(fnOpt Ak1), trivial⟩;refine ⟨_, _, _, 0, _, hF.1.ok, ok_sl _ _, AxT, by rw [hk]; rfl, e83b hF hK T hw (by omega), fun _ => ?_, fun h => by omega⟩
  unfold locOk;rw [hk];rcases T.kids with _ | ⟨a, _ | ⟨b, _ | ⟨c, _ | ⟨d, r⟩⟩⟩⟩ <;> simp [Aq5, leastOf, AqD, Ax2, kidOk, allK, AqZ, AqI, AxQ] <;> (try simp only [beqL]) <;> (try (simp only [Bool.and_assoc, Bool.or_assoc, Bool.and_comm, Bool.and_left_comm, Bool.or_comm, Bool.or_left_comm]))
theorem prog18 (T : Tr) (hw : T.wf) (hl : T.kids.length ≤ 4096) (hk : T.kind = 18) : AxS T := by
  have hF := AjJ;have hK : KFs [.func 100 [] []] [_] := ⟨Ak1, trivial⟩;refine ⟨_, _, _, 0, _, hF.1.ok, ok_sl _ _, AxT, by rw [hk]; rfl, e83b hF hK T hw (by omega), fun _ => ?_, fun h => by omega⟩
  unfold locOk;rw [hk];rcases T.kids with _ | ⟨a, _ | ⟨b, _ | ⟨c, _ | ⟨d, r⟩⟩⟩⟩ <;> simp [Aq5, leastOf, AqD, Ax2, kidOk, allK, AqZ, AqI, AxQ] <;> (try simp only [beqL]) <;> (try (simp only [Bool.and_assoc, Bool.or_assoc, Bool.and_comm, Bool.and_left_comm, Bool.or_comm, Bool.or_left_comm]))
theorem prog19 (T : Tr) (hw : T.wf) (hl : T.kids.length ≤ 4096) (hk : T.kind = 19) : AxS T := by
  have hF := fnName;have hG := Ak1;refine ⟨_, _, _, 0, _, hF.1.ok, Aj8, hG.1.ok, by rw [hk]; rfl, e83a (m := 0) hF hG T hw (by omega), fun _ => ?_, fun h => by omega⟩
  unfold locOk;rw [hk];have hkk := AzP (k := 19) (g := fun x => Ax0 x) (fun i k1 t1 => by simp [kidOk, AqI, AjF, Ax0]) T.kids 0
  rw [hkk];simp [Aq5, leastOf, AqD, hl]
  try (simp only [Bool.and_assoc, Bool.or_assoc, Bool.and_comm, Bool.and_left_comm, Bool.or_comm, Bool.or_left_comm])
theorem prog20 (T : Tr) (hw : T.wf) (hl : T.kids.length ≤ 4096) (hk : T.kind = 20) : AxS T := by
  have hF := fnName;refine ⟨_, _, _, 0, _, hF.1.ok, Aj8, AxT, by rw [hk]; rfl, e83c hF T hw, fun _ => ?_, fun h => by omega⟩
  unfold locOk;rw [hk];cases T.kids with
  | nil => simp [Aq5, leastOf, AqD, Ax2, kidOk, allK, AqZ, AqI, AxQ]; try simp only [beqL]
  | cons a r => simp [Aq5, leastOf, AqD, Ax2, kidOk, allK, AqZ, AqI, AxQ]
theorem prog21 (T : Tr) (hw : T.wf) (hl : T.kids.length ≤ 4096) (hk : T.kind = 21) : AxS T := by
  have hF := AjJ;have hK : KFs [.func 183 [] [.vptr (.slice false 1 [.int .i64 20])], .func 100 [] []] [_, _] := ⟨(fnOne [20] (by decide)), Ak1, trivial⟩
  refine ⟨_, _, _, 0, _, hF.1.ok, ok_sl _ _, AxT, by rw [hk]; rfl, e83b hF hK T hw (by omega), fun _ => ?_, fun h => by omega⟩
  unfold locOk;rw [hk];rcases T.kids with _ | ⟨a, _ | ⟨b, _ | ⟨c, _ | ⟨d, r⟩⟩⟩⟩ <;> simp [Aq5, leastOf, AqD, Ax2, kidOk, allK, AqZ, AqI, AxQ] <;> (try simp only [beqL]) <;> (try (simp only [Bool.and_assoc, Bool.or_assoc, Bool.and_comm, Bool.and_left_comm, Bool.or_comm, Bool.or_left_comm]))
theorem prog22 (T : Tr) (hw : T.wf) (hl : T.kids.length ≤ 4096) (hk : T.kind = 22) : AxS T := by
  have hF := fnName;have hK : KFs [.func 183 [] [.vptr (.slice false 1 [.int .i64 20])]] [_] := ⟨(fnOne [20] (by decide)), trivial⟩
  refine ⟨_, _, _, 0, _, hF.1.ok, ok_sl _ _, AxT, by rw [hk]; rfl, e83b hF hK T hw (by omega), fun _ => ?_, fun h => by omega⟩
  unfold locOk;rw [hk];rcases T.kids with _ | ⟨a, _ | ⟨b, _ | ⟨c, _ | ⟨d, r⟩⟩⟩⟩ <;> simp [Aq5, leastOf, AqD, Ax2, kidOk, allK, AqZ, AqI, AxQ] <;> (try simp only [beqL]) <;> (try (simp only [Bool.and_assoc, Bool.or_assoc, Bool.and_comm, Bool.and_left_comm, Bool.or_comm, Bool.or_left_comm]))
theorem prog23 (T : Tr) (hw : T.wf) (hl : T.kids.length ≤ 4096) (hk : T.kind = 23) : AxS T := by
  have hF := AjJ;have hK : KFs [.func 183 [] [.vptr (.slice false 1 [.int .i64 20])]] [_] := ⟨(fnOne [20] (by decide)), trivial⟩
  refine ⟨_, _, _, 0, _, hF.1.ok, ok_sl _ _, AxT, by rw [hk]; rfl, e83b hF hK T hw (by omega), fun _ => ?_, fun h => by omega⟩
  unfold locOk;rw [hk];rcases T.kids with _ | ⟨a, _ | ⟨b, _ | ⟨c, _ | ⟨d, r⟩⟩⟩⟩ <;> simp [Aq5, leastOf, AqD, Ax2, kidOk, allK, AqZ, AqI, AxQ] <;> (try simp only [beqL]) <;> (try (simp only [Bool.and_assoc, Bool.or_assoc, Bool.and_comm, Bool.and_left_comm, Bool.or_comm, Bool.or_left_comm]))
theorem prog24 (T : Tr) (hw : T.wf) (hl : T.kids.length ≤ 4096) (hk : T.kind = 24) : AxS T := by
  have hF := fnNumber;refine ⟨_, _, _, 0, _, hF.1.ok, Aj8, AxT, by rw [hk]; rfl, e83c hF T hw, fun _ => ?_, fun h => by omega⟩
  unfold locOk;rw [hk];cases T.kids with
  | nil => simp [Aq5, leastOf, AqD, Ax2, kidOk, allK, AqZ, AqI, AxQ]; try simp only [beqL]
  | cons a r => simp [Aq5, leastOf, AqD, Ax2, kidOk, allK, AqZ, AqI, AxQ]
theorem prog25 (T : Tr) (hw : T.wf) (hl : T.kids.length ≤ 4096) (hk : T.kind = 25) : AxS T := by
  have hF := (fnWord [[116, 114, 117, 101], [102, 97, 108, 115, 101]] (by decide))
  refine ⟨_, _, _, 0, _, hF.1.ok, Aj8, AxT, by rw [hk]; rfl, e83c hF T hw, fun _ => ?_, fun h => by omega⟩
  unfold locOk;rw [hk];cases T.kids with
  | nil => simp [Aq5, leastOf, AqD, Ax2, kidOk, allK, AqZ, AqI, AxQ]; try simp only [beqL]
  | cons a r => simp [Aq5, leastOf, AqD, Ax2, kidOk, allK, AqZ, AqI, AxQ]
theorem prog26 (T : Tr) (hw : T.wf) (hl : T.kids.length ≤ 4096) (hk : T.kind = 26) : AxS T := by
  have hF := AjJ;have hG := Ak1;refine ⟨_, _, _, 1, _, hF.1.ok, Aj8, hG.1.ok, by rw [hk]; rfl, e83a (m := 1) hF hG T hw (by omega), fun _ => ?_, fun h => by omega⟩
  unfold locOk;rw [hk];have hkk := AzP (k := 26) (g := fun x => Ax0 x) (fun i k1 t1 => by simp [kidOk, AqI, AjF, Ax0]) T.kids 0
  rw [hkk];simp [Aq5, leastOf, AqD, hl]
  try (simp only [Bool.and_assoc, Bool.or_assoc, Bool.and_comm, Bool.and_left_comm, Bool.or_comm, Bool.or_left_comm])
theorem prog27 (T : Tr) (hw : T.wf) (hl : T.kids.length ≤ 4096) (hk : T.kind = 27) : AxS T := by
  have hF := fnName;have hG := Ak1;refine ⟨_, _, _, 0, _, hF.1.ok, Aj8, hG.1.ok, by rw [hk]; rfl, e83a (m := 0) hF hG T hw (by omega), fun _ => ?_, fun h => by omega⟩
  unfold locOk;rw [hk];have hkk := AzP (k := 27) (g := fun x => Ax0 x) (fun i k1 t1 => by simp [kidOk, AqI, AjF, Ax0]) T.kids 0
  rw [hkk];simp [Aq5, leastOf, AqD, hl]
  try (simp only [Bool.and_assoc, Bool.or_assoc, Bool.and_comm, Bool.and_left_comm, Bool.or_comm, Bool.or_left_comm])
theorem prog28 (T : Tr) (hw : T.wf) (hl : T.kids.length ≤ 4096) (hk : T.kind = 28) : AxS T := by
  have hF := (fnWord [[45], [110, 111, 116]] (by decide))
  have hK : KFs [.func 100 [] []] [_] := ⟨Ak1, trivial⟩;refine ⟨_, _, _, 0, _, hF.1.ok, ok_sl _ _, AxT, by rw [hk]; rfl, e83b hF hK T hw (by omega), fun _ => ?_, fun h => by omega⟩
  unfold locOk;rw [hk];rcases T.kids with _ | ⟨a, _ | ⟨b, _ | ⟨c, _ | ⟨d, r⟩⟩⟩⟩ <;> simp [Aq5, leastOf, AqD, Ax2, kidOk, allK, AqZ, AqI, AxQ] <;> (try simp only [beqL]) <;> (try (simp only [Bool.and_assoc, Bool.or_assoc, Bool.and_comm, Bool.and_left_comm, Bool.or_comm, Bool.or_left_comm]))
theorem prog29 (T : Tr) (hw : T.wf) (hl : T.kids.length ≤ 4096) (hk : T.kind = 29) : AxS T := by
  have hF := (fnWord [[111, 114], [97, 110, 100], [61, 61], [33, 61], [60], [60, 61], [62], [62, 61], [43], [45], [42], [47], [37]] (by decide))
  have hK : KFs [.func 100 [] [], .func 100 [] []] [_, _] := ⟨Ak1, Ak1, trivial⟩;refine ⟨_, _, _, 0, _, hF.1.ok, ok_sl _ _, AxT, by rw [hk]; rfl, e83b hF hK T hw (by omega), fun _ => ?_, fun h => by omega⟩
  unfold locOk;rw [hk];rcases T.kids with _ | ⟨a, _ | ⟨b, _ | ⟨c, _ | ⟨d, r⟩⟩⟩⟩ <;> simp [Aq5, leastOf, AqD, Ax2, kidOk, allK, AqZ, AqI, AxQ] <;> (try simp only [beqL]) <;> (try (simp only [Bool.and_assoc, Bool.or_assoc, Bool.and_comm, Bool.and_left_comm, Bool.or_comm, Bool.or_left_comm]))
theorem prog_all (T : Tr) (hw : T.wf) (hl : T.kids.length ≤ 4096) (h0 : 0 ≤ T.kind) (h29 : T.kind ≤ 29) (h1 : T.kind ≠ 1) : AxS T := by
  rcases kinds30 h0 h29 with h | h | h | h | h | h | h | h | h | h | h | h | h | h | h | h | h | h | h | h | h | h | h | h | h | h | h | h | h | h
  · exact prog0 T hw hl h
  · exact absurd h h1
  · exact prog2 T hw hl h
  · exact prog3 T hw hl h
  · exact prog4 T hw hl h
  · exact prog5 T hw hl h
  · exact prog6 T hw hl h
  · exact prog7 T hw hl h
  · exact prog8 T hw hl h
  · exact prog9 T hw hl h
  · exact prog10 T hw hl h
  · exact prog11 T hw hl h
  · exact prog12 T hw hl h
  · exact prog13 T hw hl h
  · exact prog14 T hw hl h
  · exact prog15 T hw hl h
  · exact prog16 T hw hl h
  · exact prog17 T hw hl h
  · exact prog18 T hw hl h
  · exact prog19 T hw hl h
  · exact prog20 T hw hl h
  · exact prog21 T hw hl h
  · exact prog22 T hw hl h
  · exact prog23 T hw hl h
  · exact prog24 T hw hl h
  · exact prog25 T hw hl h
  · exact prog26 T hw hl h
  · exact prog27 T hw hl h
  · exact prog28 T hw hl h
  · exact prog29 T hw hl h
end Go.Abs.Z

namespace Go.Abs.Z
open Go.Proofs Go.RowKit
theorem look_unknown {k : Int} (h : ¬ (0 ≤ k ∧ k ≤ 29 ∧ k ≠ 1)) : semP (.look (.agg [.nilf, .nils, .nilf, (.int .i64 0)]) true true) [AqL, (.int .i64 k)] = some [some (.tuple [.agg [.nilf, .nils, .nilf, .int .i64 0], .bool false])] := by
  have hne : ∀ j : Nat, j ≤ 29 → j ≠ 1 → ¬ ((j : Int) = k) := fun j h1 h2 => by omega
  unfold AqL;simp only [semP, lookV, kyOf]
  have hf : ∀ vs : List PV, findKey (.i .i64 k) [.i .i64 0, .i .i64 2, .i .i64 3, .i .i64 4, .i .i64 5, .i .i64 6, .i .i64 7, .i .i64 8, .i .i64 9, .i .i64 10, .i .i64 11, .i .i64 12, .i .i64 13, .i .i64 14, .i .i64 15, .i .i64 16, .i .i64 17, .i .i64 18, .i .i64 19, .i .i64 20, .i .i64 21, .i .i64 22, .i .i64 23, .i .i64 24, .i .i64 25, .i .i64 26, .i .i64 27, .i .i64 28, .i .i64 29] vs = none := by
    have key : ∀ (ks : List Ky) (vs : List PV), (∀ x ∈ ks, x ≠ .i .i64 k) → findKey (.i .i64 k) ks vs = none := by
      intro ks
      induction ks with
      | nil => intro vs _; cases vs <;> rfl
      | cons x ks ih =>
        intro vs hx;cases vs with
        | nil => rfl
        | cons v vs =>
          rw [findKey, if_neg (hx x (List.mem_cons_self ..))];exact ih vs fun y hy => hx y (List.mem_cons_of_mem _ hy)
    intro vs;apply key;intro x hx;simp at hx;rcases hx with rfl | rfl | rfl | rfl | rfl | rfl | rfl | rfl | rfl | rfl | rfl | rfl | rfl | rfl | rfl | rfl | rfl | rfl | rfl | rfl | rfl | rfl | rfl | rfl | rfl | rfl | rfl | rfl | rfl <;> (simp; omega)
  rw [hf];rfl
theorem abody_fuel (call : Caller) (a b : Nat) (ff : FF) (σ : Sto) : arunK pur call a abody ff σ = arunK pur call b abody ff σ := by kernel_rfl
theorem round_of {T : Tr} {ok b : Bool} (h : Ax6 pur run abody [(5, some (.vptr T.pv)), (4, some (.ref 0 0)), (3, some (.vptr AqL))] [[.bool ok]] .normal [] [[.bool b]]) : ∃ N, ∀ n, N ≤ n → roundF (run n) AqL ok T.pv = some b := by
  obtain ⟨N, H⟩ := h;refine ⟨N, fun n hn => ?_⟩
  obtain ⟨ff1, h1, _⟩ := H n hn _ (Sub.refl _);unfold roundF;rw [abody_fuel _ 10 n]
  show (match arunK pur (run n) n abody [(5, some (.vptr T.pv)), (4, some (.ref 0 0)), (3, some (.vptr AqL))] [[.bool ok]] with
    | some (.normal, _, [[.bool b]]) => some b
    | _ => none) = _
  rw [h1]
theorem round_ev (T : Tr) (hw : T.wf) (hl : T.kids.length ≤ 4096) (ok : Bool) : ∃ N, ∀ n, N ≤ n → roundF (run n) AqL ok T.pv = some (ok && locOk T) := by
  apply round_of;by_cases hk : 0 ≤ T.kind ∧ T.kind ≤ 29 ∧ T.kind ≠ 1
  · obtain ⟨F, K, G, m, b, hF, hK, hG, hx, he, h1, h2⟩ := prog_all T hw hl hk.1 hk.2.1 hk.2.2;by_cases h4 : T.kind = 4
    · obtain ⟨h3, h5⟩ := h2 h4;cases ok with
      | false => exact rab0_1 hF hK hG hx h4
      | true =>
        rw [h3, Bool.true_and];cases b with
        | false => exact rab1_2 hF hK hG hx he h4
        | true =>
          obtain ⟨U, hU⟩ : ∃ U, T.kids = [U] := by
            have := h5 rfl
            match hT : T.kids, this with
            | [U], _ => exact ⟨U, rfl⟩
          have hg : T.kids[0]? = some U := by rw [hU]; rfl
          have hfb : AxQ T = ((U.text == [105, 110, 116]) || (U.text == [98, 111, 111, 108])) := by simp [AxQ, hU]
          rw [hfb, Bool.true_and];by_cases ht : U.text = [105, 110, 116]
          · rw [beq_of_eq ht]; exact rab1_3 hF hK hG hx he h4 hw hg ht
          · rw [beq_of_ne ht, Bool.false_or]; exact rab1_4 hF hK hG hx he h4 hw hg ht hg
    · rw [← h1 h4];cases ok with
      | false => exact rab0_2 hF hK hG hx h4
      | true => exact rab1_1 hF hK hG hx he h4
  · have hx := look_unknown hk
    have hf : locOk T = false := by
      have : (decide (0 ≤ T.kind) && decide (T.kind ≤ 29) && decide (T.kind ≠ 1)) = false := by
        simp at hk ⊢; omega
      unfold locOk;rw [this]; simp only [Bool.false_and]
    rw [hf, Bool.and_false];by_cases h4 : T.kind = 4
    · cases ok with
      | true => exact rabz1_1 hx h4
      | false => exact rabz0_1 hx h4
    · cases ok with
      | true => exact rabz1_2 hx h4
      | false => exact rabz0_2 hx h4
theorem fold_ev : ∀ ts : List Tr, (∀ T ∈ ts, T.wf ∧ T.kids.length ≤ 4096) → ∃ N, ∀ n, N ≤ n → (∀ ok, foldR (run n) AqL ok ts = some (ok && ts.all locOk)) ∧ ts.all (totalR (run n) AqL) = true
  | [], _ => ⟨0, fun n _ => ⟨fun ok => by simp [foldR], rfl⟩⟩
  | T :: ts, h => by
    obtain ⟨N, hN⟩ := fold_ev ts fun U hU => h U (List.mem_cons_of_mem _ hU)
    obtain ⟨hw, hl⟩ := h T (List.mem_cons_self ..);obtain ⟨N1, h1⟩ := round_ev T hw hl true;obtain ⟨N2, h2⟩ := round_ev T hw hl false;refine ⟨max N (max N1 N2), fun n hn => ?_⟩
    have a1 := h1 n (by omega)
    have a2 := h2 n (by omega)
    obtain ⟨b1, b2⟩ := hN n (by omega)
    refine ⟨fun ok => ?_, ?_⟩
    · cases ok with
      | true => rw [foldR, a1]; dsimp only; rw [b1, List.all_cons, Bool.true_and, Bool.true_and]
      | false => rw [foldR, a2]; dsimp only; rw [b1]; rfl
    · rw [List.all_cons, b2, totalR, a1, a2]; rfl
theorem mapO_ok (f : PV → Option Tr) : ∀ ts : List Tr, (∀ T ∈ ts, f T.pv = some T) → mapO f (Tr.pvs ts) = some ts
  | [], _ => rfl
  | T :: ts, h => by
    rw [Tr.pvs, mapO, h T (List.mem_cons_self ..), mapO_ok f ts fun U hU => h U (List.mem_cons_of_mem _ hU)]
theorem toTr_ok : ∀ (n : Nat) (T : Tr), T.wf → T.pre.length ≤ n → toTr n T.pv = some T
  | 0, T, _, h => by obtain ⟨k, t, a, e, n, ks⟩ := T; simp [Tr.pre] at h
  | n + 1, .mk k t a e nn ks, hw, h => by
    cases nn with
    | true =>
      obtain rfl : ks = [] := hw.1 rfl;rfl
    | false =>
      show (mapO (toTr n) (Tr.pvs ks)).map (Tr.mk k t a e false) = _
      rw [mapO_ok (toTr n) ks fun U hU => toTr_ok n U (Tr.wfs_mem hw.2 U hU) (by
        have := AjW ks U hU;simp [Tr.pre] at h; omega)]
      rfl
theorem pre_wf : ∀ (n : Nat) (T : Tr), T.pre.length ≤ n → T.wf → ∀ U ∈ T.pre, U.wf ∧ U.pre.length ≤ T.pre.length
  | 0, T, h, _, _, _ => by obtain ⟨k, t, a, e, n, ks⟩ := T; simp [Tr.pre] at h
  | n + 1, .mk k t a e nn ks, h, hw, U, hU => by
    rw [Tr.pre] at hU h;rcases List.mem_cons.1 hU with rfl | hU
    · exact ⟨hw, Nat.le_refl _⟩
    · obtain ⟨V, hV, hUV⟩ := mem_pres ks U hU;have h1 := AjW ks V hV;have h2 := pre_wf n V (by simp at h; omega) (Tr.wfs_mem hw.2 V hV) U hUV
      refine ⟨h2.1, ?_⟩
      rw [Tr.pre]; simp; omega
  where
  mem_pres : ∀ (ks : List Tr) (U : Tr), U ∈ Tr.pres ks → ∃ V ∈ ks, U ∈ V.pre
    | [], U, h => by simp [Tr.pres] at h
    | t :: ts, U, h => by
      rw [Tr.pres] at h;rcases List.mem_append.1 h with h | h
      · exact ⟨t, List.mem_cons_self .., h⟩
      · obtain ⟨V, hV, hUV⟩ := mem_pres ts U h;exact ⟨V, List.mem_cons_of_mem _ hV, hUV⟩
theorem Ak0 (T : Tr) : T.kids.length ≤ T.pre.length := by
  have := AjZ T.kids;obtain ⟨k, t, a, e, n, ks⟩ := T;simp [Tr.pre, Tr.kids] at this ⊢; omega
theorem e58 (T : Tr) (hw : T.wf) (hp : T.pre.length ≤ 300) : E 62 [T.pv] [] (.bool (AjM T)) [] := by
  obtain ⟨N, hN⟩ := fold_ev T.pre fun U hU => by
    obtain ⟨h1, h2⟩ := pre_wf _ T (Nat.le_refl _) hw U hU;have := Ak0 U;exact ⟨h1, by omega⟩
  obtain ⟨M, hM⟩ := e81;refine ⟨max N M + 1, fun n hn => ?_⟩
  obtain ⟨n, rfl⟩ : ∃ m, n = m + 1 := ⟨n - 1, by omega⟩
  obtain ⟨h1, h2⟩ := hN n (by omega)
  show pShaped (run n) [T.pv] [] = _;have hT := toTr_ok 300 T hw hp;unfold pShaped;dsimp only;rw [hT]; dsimp only;rw [hM n (by omega)]; dsimp only
  rw [if_pos ⟨rfl, by omega, h2⟩, h1, Bool.true_and]
  rfl
end Go.Abs.Z
