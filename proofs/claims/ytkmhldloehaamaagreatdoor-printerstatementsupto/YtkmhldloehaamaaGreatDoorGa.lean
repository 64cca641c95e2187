/- A part of the proof: G1 G2 W0 W0b G3. -/
import Derived.Test.YtkmhldloehaamaaGreatDoorKj
import Derived.Test.YtkmhldloehaamaaGreatDoorSa
import Derived.Test.YtkmhldloehaamaaGreatDoorUa

set_option linter.unusedVariables false
set_option linter.unusedSimpArgs false
namespace Go.Abs
open Go.RowKit
def Sub (a b : FF) : Prop := ∀ t v, getK a t = some v → getK b t = some v
theorem Sub.refl (a : FF) : Sub a a := fun _ _ h => h
theorem Sub.trans {a b c : FF} (h : Sub a b) (k : Sub b c) : Sub a c := fun t v x => k t v (h t v x)
noncomputable def pickF (ls : List Nat) (ff : FF) : FF := List.rec (motive := fun _ => FF) [] (fun t _ ih => (t, getK ff t) :: ih) ls
theorem pickF_sub : ∀ (ls : List Nat) (ff : FF), Sub (pickF ls ff) ff
  | [], _, _, _, h => by cases h
  | s :: ls, ff, t, v, h => by
    have h' : cond (Nat.beq s t) (getK ff s) (getK (pickF ls ff) t) = some v := h;cases hb : Nat.beq s t with
    | true => rw [hb] at h'; rw [← Nat.eq_of_beq_eq_true hb]; exact h'
    | false => rw [hb] at h'; exact pickF_sub ls ff t v h'
section
variable (pur : FuncId → Bool) (R : Nat → Caller)
def OpEv (k : AK) (vs : List PV) (σ : Sto) (rs : List (Option PV)) (σ' : Sto) : Prop := ∃ N, ∀ n, N ≤ n → sem pur (R n) k vs σ = some (rs, σ')
def Ax6 (c : ACode) (ff : FF) (σ : Sto) (e : AExit) (ff' : FF) (σ' : Sto) : Prop :=
  ∃ N, ∀ n, N ≤ n → ∀ ff0, Sub ff ff0 → ∃ ff1, arunK pur (R n) n c ff0 σ = some (e, ff1, σ') ∧ Sub ff' ff1
def Az7 (keep : List Bool) (c : ACode) (ff : FF) (σ : Sto) (e : AExit) (ff' : FF) (σ' : Sto) : Prop :=
  ∃ N, ∀ n, N ≤ n → ∀ m, N ≤ m → ∀ ff0, Sub ff ff0 → ∃ ff1, iterK keep (arunK pur (R n) n c) m ff0 σ = some (e, ff1, σ') ∧ Sub ff' ff1
def Ev (f : FuncId) (args : List PV) (σ : Sto) (r : PV) (σ' : Sto) : Prop := ∃ N, ∀ n, N ≤ n → R n f args σ = some (r, σ')
inductive Ans where
  | res (rs : List (Option PV)) (σ : Sto)
  | grd (d : Bool)
  | grdr (rs : List (Option PV)) (σ : Sto)
  | br (b : Bool)
  | loop (ls : List Nat) (e : AExit) (ff : FF) (σ : Sto)
abbrev Tape := List (Nat × Ans)
structure TO where
  e : AExit
  ff : FF
  σ : Sto
  tp : Tape
  q : Prop
abbrev TX := Option TO
noncomputable section
def noCall : Caller := fun _ _ _ => none
def finT (d : Option Nat) (ex clr : List Nat) (ff : FF) (rs : List (Option PV)) (σ : Sto) : RFS :=
  cond (Nat.beq rs.length (d.toList.length + ex.length)) (some (putK (d.toList ++ ex ++ clr) (rs ++ clr.map fun _ => none) ff, σ)) (cond (d.isNone && ex.isEmpty && clr.isEmpty) (some (ff, σ)) none)
def toTX (tp : Tape) (q : Prop) (r : RFS) : TX := Option.rec (motive := fun _ => TX) none (fun r => some ⟨.normal, r.1, r.2, tp, q⟩) r
def tSpec (o : AOp) (ff : FF) (σ : Sto) (tp : Tape) (q : Prop) (a : Ans) : TX :=
  Ans.rec (motive := fun _ => TX)
    (fun rs σ1 => Option.rec (motive := fun _ => TX) (Option.rec (motive := fun _ => TX) none (fun vs => toTX tp (OpEv pur R o.k vs σ rs σ1 ∧ q) (finT o.dst o.ex o.clr ff rs σ1)) (evalK ff o.args)) (fun _ => none) o.guard)
    (fun d => Option.rec (motive := fun _ => TX) none (fun g => toTX tp (Az5 (getK ff g.1) g.2 = some d ∧ q) (cond d (runK' pur noCall o ff σ) (cond (o.ex.isEmpty && o.clr.isEmpty) (some (putK o.wr [some AjU] ff, σ)) none))) o.guard)
    (fun rs σ1 => Option.rec (motive := fun _ => TX) none (fun g => Option.rec (motive := fun _ => TX) none (fun vs => toTX tp (OpEv pur R o.k vs σ rs σ1 ∧ Az5 (getK ff g.1) g.2 = some true ∧ q) (finT o.dst o.ex o.clr ff rs σ1)) (evalK ff o.args)) o.guard)
    (fun _ => none) (fun _ _ _ _ => none) a
def tCase {α : Type} (tp : Tape) (plain : Tape → α) (spec : Tape → Ans → α) : α :=
  List.rec (motive := fun _ => α) (plain []) (fun x tp _ => Nat.rec (motive := fun _ => α) (spec tp x.2) (fun n _ => plain ((n, x.2) :: tp)) x.1) tp
def tOp (o : AOp) (ff : FF) (σ : Sto) (tp : Tape) (q : Prop) : TX :=
  tCase tp (fun tp => toTX tp q (execK pur noCall o ff σ)) (fun tp a => tSpec pur R o ff σ tp q a)
def bindT (r : TX) (k : FF → Sto → Tape → Prop → TX) : TX :=
  Option.rec (motive := fun _ => TX) none (fun r => cond (AxN r.e) (k r.ff r.σ r.tp r.q) (some r)) r
def tOps (os : List AOp) : FF → Sto → Tape → Prop → TX :=
  List.rec (motive := fun _ => FF → Sto → Tape → Prop → TX) (fun ff σ tp q => some ⟨.normal, ff, σ, tp, q⟩) (fun o _ ih ff σ tp q => bindT (tOp pur R o ff σ tp q) ih) os
def tCond (c : AArg) (x y : FF → Sto → Tape → Prop → TX) (ff : FF) (σ : Sto) (tp : Tape) (q : Prop) : TX :=
  tCase tp (fun tp => match evalK ff [c] with
    | some [.bool b] => cond b (x ff σ tp q) (y ff σ tp q)
    | _ => none)
    (fun tp a => Ans.rec (motive := fun _ => TX) (fun _ _ => none) (fun _ => none) (fun _ _ => none) (fun b => cond b (x ff σ tp (evalK ff [c] = some [.bool b] ∧ q)) (y ff σ tp (evalK ff [c] = some [.bool b] ∧ q))) (fun _ _ _ _ => none) a)
def tBlock (id : Nat) (r : TX) : TX :=
  Option.rec (motive := fun _ => TX) none (fun r => AExit.rec (motive := fun _ => TX) (some r) (fun i => cond (Nat.beq i id) (some ⟨.normal, r.ff, r.σ, r.tp, r.q⟩) (some r)) (some r) r.e) r
def tLoop (keep : List Bool) (c : ACode) (ff : FF) (σ : Sto) (tp : Tape) (q : Prop) : TX :=
  tCase tp (fun _ => none) (fun tp a => Ans.rec (motive := fun _ => TX) (fun _ _ => none) (fun _ => none) (fun _ _ => none) (fun _ => none)
    (fun ls e ff1 σ1 => some ⟨e, ff1, σ1, tp, Az7 pur R keep c (pickF ls (AqN ff keep 0)) σ e ff1 σ1 ∧ q⟩) a)
def tRun (c : ACode) : FF → Sto → Tape → Prop → TX :=
  ACode.rec (motive := fun _ => FF → Sto → Tape → Prop → TX)
    (fun ff σ tp q => some ⟨.normal, ff, σ, tp, q⟩)
    (fun ops => tOps pur R ops)
    (fun _ _ iha ihb ff σ tp q => bindT (iha ff σ tp q) ihb)
    (fun c _ _ iht ihe => tCond c iht ihe)
    (fun id _ ih ff σ tp q => tBlock id (ih ff σ tp q))
    (fun keep c _ => tLoop pur R keep c)
    (fun id ff σ tp q => some ⟨.exit id, ff, σ, tp, q⟩)
    (fun ff σ tp q => some ⟨.ret, ff, σ, tp, q⟩) c
end
end
section
variable {pur : FuncId → Bool} {R : Nat → Caller} {ff ff' ff0 : FF} {σ σ' : Sto} {tp tp' : Tape} {q q' : Prop} {e : AExit}
theorem Ak4 (h : Sub ff ff0) : ∀ (zs : List AArg) (vs : List PV), evalK ff zs = some vs → evalK ff0 zs = some vs
  | [], vs, he => he
  | .slot t :: zs, vs, he => by
    have he' : (Option.rec (motive := fun _ => Option (List PV)) none (fun v => Option.rec (motive := fun _ => Option (List PV)) none (fun vs => some (v :: vs)) (evalK ff zs)) (getK ff t)) = some vs := he
    show (Option.rec (motive := fun _ => Option (List PV)) none (fun v => Option.rec (motive := fun _ => Option (List PV)) none (fun vs => some (v :: vs)) (evalK ff0 zs)) (getK ff0 t)) = some vs
    cases hg : getK ff t with
    | none => rw [hg] at he'; cases he'
    | some v =>
      rw [hg] at he';cases hr : evalK ff zs with
      | none => rw [hr] at he'; cases he'
      | some ws =>
        rw [hr] at he';rw [h t v hg, Ak4 h zs ws hr]; exact he'
  | .val v :: zs, vs, he => by
    have he' : (Option.rec (motive := fun _ => Option (List PV)) none (fun vs => some (v :: vs)) (evalK ff zs)) = some vs := he
    show (Option.rec (motive := fun _ => Option (List PV)) none (fun vs => some (v :: vs)) (evalK ff0 zs)) = some vs
    cases hr : evalK ff zs with
    | none => rw [hr] at he'; cases he'
    | some ws =>
      rw [hr] at he';rw [Ak4 h zs ws hr]; exact he'
theorem putK_sub : ∀ (ts : List Nat) (vs : List (Option PV)) {ff ff0 : FF}, Sub ff ff0 → Sub (putK ts vs ff) (putK ts vs ff0)
  | [], vs, ff, ff0, h => by cases vs <;> exact h
  | t :: ts, [], ff, ff0, h => h
  | t :: ts, v :: vs, ff, ff0, h => by
    refine putK_sub ts vs (ff := (t, v) :: ff) (ff0 := (t, v) :: ff0) fun s x hx => ?_
    rw [getK_cons] at hx ⊢;cases hb : Nat.beq t s with
    | true => simp only [hb, cond_true] at hx ⊢; exact hx
    | false => simp only [hb, cond_false] at hx ⊢; exact h s x hx
theorem finT_sub {d : Option Nat} {ex clr : List Nat} {rs : List (Option PV)} (h : Sub ff ff0) (he : finT d ex clr ff rs σ = some (ff', σ')) : ∃ ff1, finT d ex clr ff0 rs σ = some (ff1, σ') ∧ Sub ff' ff1 := by
  unfold finT at he ⊢;cases hb : Nat.beq rs.length (d.toList.length + ex.length) with
  | true => rw [hb] at he; cases he; exact ⟨_, rfl, putK_sub _ _ h⟩
  | false =>
    rw [hb] at he;cases hc : (d.isNone && ex.isEmpty && clr.isEmpty) with
    | true => rw [hc] at he; cases he; exact ⟨_, rfl, h⟩
    | false => rw [hc] at he; cases he
theorem sem_noCall {call : Caller} {k : AK} {vs : List PV} {x : List (Option PV) × Sto} (h : sem pur noCall k vs σ = some x) : sem pur call k vs σ = some x := by
  cases k with
  | p k => exact h
  | r k => exact h
  | c f =>
    simp only [sem, noCall] at h
    split at h <;> simp at h
  | w k =>
    simp only [sem] at h ⊢;unfold semW at h ⊢
    split at h <;> first
      | exact h
      | (simp only [noCall] at h; repeat' split at h; all_goals simp at h)
theorem runK_of {call : Caller} {o : AOp} {vs : List PV} {rs : List (Option PV)} {σ1 : Sto} (hv : evalK ff o.args = some vs) (hs : sem pur call o.k vs σ = some (rs, σ1)) : runK' pur call o ff σ = finT o.dst o.ex o.clr ff rs σ1 := by
  unfold runK';rw [hv]; dsimp only; rw [hs]; rfl
theorem runK_inv {call : Caller} {o : AOp} (h : runK' pur call o ff σ = some (ff', σ')) : ∃ vs rs σ1, evalK ff o.args = some vs ∧ sem pur call o.k vs σ = some (rs, σ1) ∧ finT o.dst o.ex o.clr ff rs σ1 = some (ff', σ') := by
  unfold runK' at h;cases hv : evalK ff o.args with
  | none => rw [hv] at h; cases h
  | some vs =>
    rw [hv] at h;dsimp only at h;cases hs : sem pur call o.k vs σ with
    | none => rw [hs] at h; cases h
    | some r =>
      rw [hs] at h;exact ⟨vs, r.1, r.2, rfl, hs, h⟩
theorem runK_sub {call : Caller} {o : AOp} (h : Sub ff ff0) (he : runK' pur noCall o ff σ = some (ff', σ')) : ∃ ff1, runK' pur call o ff0 σ = some (ff1, σ') ∧ Sub ff' ff1 := by
  obtain ⟨vs, rs, σ1, h1, h2, h3⟩ := runK_inv he;rw [runK_of (Ak4 h _ _ h1) (sem_noCall h2)];exact finT_sub h h3
theorem wantedK_sub {g : Nat} {b d : Bool} (h : Sub ff ff0) (he : Az5 (getK ff g) b = some d) : Az5 (getK ff0 g) b = some d := by
  cases hg : getK ff g with
  | none => rw [hg] at he; simp [Az5] at he
  | some v => rw [h g v hg, ← hg]; exact he
theorem execK_guard {call : Caller} {o : AOp} {g : Nat × Bool} {d : Bool} (hg : o.guard = some g) (hw : Az5 (getK ff g.1) g.2 = some d) :
    execK pur call o ff σ = cond d (runK' pur call o ff σ) (cond (o.ex.isEmpty && o.clr.isEmpty) (some (putK o.wr [some AjU] ff, σ)) none) := by
  unfold execK;rw [hg]; dsimp only; rw [hw]
theorem undef_sub {o : AOp} (h : Sub ff ff0) (he : cond (o.ex.isEmpty && o.clr.isEmpty) (some (putK o.wr [some AjU] ff, σ)) none = some (ff', σ')) :
    ∃ ff1, cond (o.ex.isEmpty && o.clr.isEmpty) (some (putK o.wr [some AjU] ff0, σ)) none = some (ff1, σ') ∧ Sub ff' ff1 := by
  cases hc : (o.ex.isEmpty && o.clr.isEmpty) with
  | true => rw [hc] at he; cases he; exact ⟨_, rfl, putK_sub _ _ h⟩
  | false => rw [hc] at he; cases he
theorem execK_sub {call : Caller} {o : AOp} (h : Sub ff ff0) (he : execK pur noCall o ff σ = some (ff', σ')) : ∃ ff1, execK pur call o ff0 σ = some (ff1, σ') ∧ Sub ff' ff1 := by
  cases hg : o.guard with
  | none =>
    unfold execK at he ⊢;rw [hg] at he ⊢;exact runK_sub h he
  | some g =>
    cases hw : Az5 (getK ff g.1) g.2 with
    | none =>
      unfold execK at he;rw [hg] at he; dsimp only at he; rw [hw] at he; cases he
    | some d =>
      rw [execK_guard hg hw] at he;rw [execK_guard hg (wantedK_sub h hw)];cases d with
      | true => exact runK_sub h he
      | false => exact undef_sub h he
theorem execK_none {call : Caller} {o : AOp} (hg : o.guard = none) : execK pur call o ff σ = runK' pur call o ff σ := by
  unfold execK; rw [hg]
def OpT (pur : FuncId → Bool) (R : Nat → Caller) (o : AOp) (ff : FF) (σ : Sto) (ff' : FF) (σ' : Sto) : Prop :=
  ∃ N, ∀ n, N ≤ n → ∀ ff0, Sub ff ff0 → ∃ ff1, execK pur (R n) o ff0 σ = some (ff1, σ') ∧ Sub ff' ff1
theorem toTX_inv {r : RFS} {x : TO} (h : toTX tp q r = some x) : ∃ ff' σ', r = some (ff', σ') ∧ x = ⟨.normal, ff', σ', tp, q⟩ := by
  cases r with
  | none => cases h
  | some r => cases h; exact ⟨r.1, r.2, rfl, rfl⟩
theorem tSpec_sound {o : AOp} {a : Ans} {x : TO} (h : tSpec pur R o ff σ tp q a = some x) : x.e = .normal ∧ (x.q → q) ∧ (x.q → OpT pur R o ff σ x.ff x.σ) := by
  cases a with
  | br b => cases h
  | loop ls e f s => cases h
  | res rs σ1 =>
    cases hg : o.guard with
    | some g => simp only [tSpec, hg] at h; cases h
    | none =>
      simp only [tSpec, hg] at h;cases hv : evalK ff o.args with
      | none => rw [hv] at h; cases h
      | some vs =>
        rw [hv] at h;obtain ⟨ff', σ', h1, rfl⟩ := toTX_inv h;refine ⟨rfl, fun hq => hq.2, fun hq => ?_⟩
        obtain ⟨N, hN⟩ := hq.1;refine ⟨N, fun n hn ff0 hs => ?_⟩
        rw [execK_none hg, runK_of (Ak4 hs _ _ hv) (hN n hn)];exact finT_sub hs h1
  | grd d =>
    cases hg : o.guard with
    | none => simp only [tSpec, hg] at h; cases h
    | some g =>
      simp only [tSpec, hg] at h;obtain ⟨ff', σ', h1, rfl⟩ := toTX_inv h;refine ⟨rfl, fun hq => hq.2, fun hq => ⟨0, fun n _ ff0 hs => ?_⟩⟩
      rw [execK_guard hg (wantedK_sub hs hq.1)];cases d with
      | true => exact runK_sub hs h1
      | false => exact undef_sub hs h1
  | grdr rs σ1 =>
    cases hg : o.guard with
    | none => simp only [tSpec, hg] at h; cases h
    | some g =>
      simp only [tSpec, hg] at h;cases hv : evalK ff o.args with
      | none => rw [hv] at h; cases h
      | some vs =>
        rw [hv] at h;obtain ⟨ff', σ', h1, rfl⟩ := toTX_inv h;refine ⟨rfl, fun hq => hq.2.2, fun hq => ?_⟩
        obtain ⟨N, hN⟩ := hq.1;refine ⟨N, fun n hn ff0 hs => ?_⟩
        rw [execK_guard hg (wantedK_sub hs hq.2.1), cond_true, runK_of (Ak4 hs _ _ hv) (hN n hn)];exact finT_sub hs h1
theorem tCase_inv {α : Type} {tp : Tape} {plain : Tape → α} {spec : Tape → Ans → α} (P : α → Prop) (h1 : ∀ t, P (plain t)) (h2 : ∀ t a, P (spec t a)) : P (tCase tp plain spec) := by
  cases tp with
  | nil => exact h1 _
  | cons x tp =>
    obtain ⟨n, a⟩ := x;cases n with
    | zero => exact h2 _ _
    | succ n => exact h1 _
theorem tOp_sound {o : AOp} : ∀ {x : TO}, tOp pur R o ff σ tp q = some x → x.e = .normal ∧ (x.q → q) ∧ (x.q → OpT pur R o ff σ x.ff x.σ) := by
  unfold tOp;refine tCase_inv (fun r => ∀ {x : TO}, r = some x → x.e = .normal ∧ (x.q → q) ∧ (x.q → OpT pur R o ff σ x.ff x.σ)) (fun t {x} h => ?_) (fun t a {x} h => tSpec_sound h)
  obtain ⟨ff', σ', h1, rfl⟩ := toTX_inv h;exact ⟨rfl, id, fun _ => ⟨0, fun n _ ff0 hs => execK_sub hs h1⟩⟩
theorem bindT_inv {r : TX} {k : FF → Sto → Tape → Prop → TX} {x : TO} (h : bindT r k = some x) : ∃ y, r = some y ∧ ((y.e = .normal ∧ k y.ff y.σ y.tp y.q = some x) ∨ (y.e ≠ .normal ∧ y = x)) := by
  cases r with
  | none => cases h
  | some y =>
    refine ⟨y, rfl, ?_⟩
    have h' : cond (AxN y.e) (k y.ff y.σ y.tp y.q) (some y) = some x := h;obtain ⟨e, f, s, t, q⟩ := y;cases e with
    | normal => exact .inl ⟨rfl, h'⟩
    | exit i => exact .inr ⟨by simp, Option.some.inj h'⟩
    | ret => exact .inr ⟨by simp, Option.some.inj h'⟩
theorem opsK_cons (call : Caller) (o : AOp) (os : List AOp) : opsK pur call (o :: os) ff σ = Option.rec (motive := fun _ => RX) none (fun r => opsK pur call os r.1 r.2) (execK pur call o ff σ) := rfl
theorem tOps_sound : ∀ (os : List AOp) {ff : FF} {σ : Sto} {tp : Tape} {q : Prop} {x : TO}, tOps pur R os ff σ tp q = some x → (x.q → q) ∧ (x.q → Ax6 pur R (.region os) ff σ x.e x.ff x.σ)
  | [], ff, σ, tp, q, x, h => by cases h; exact ⟨id, fun _ => ⟨0, fun n _ ff0 hs => ⟨ff0, rfl, hs⟩⟩⟩
  | o :: os, ff, σ, tp, q, x, h => by
    have h' : bindT (tOp pur R o ff σ tp q) (tOps pur R os) = some x := h;obtain ⟨y, hy, hc⟩ := bindT_inv h';obtain ⟨e1, hq1, ho⟩ := tOp_sound hy;rcases hc with ⟨_, hk⟩ | ⟨hne, _⟩
    · obtain ⟨hq2, hr⟩ := tOps_sound os hk;refine ⟨fun hx => hq1 (hq2 hx), fun hx => ?_⟩
      obtain ⟨N1, H1⟩ := ho (hq2 hx);obtain ⟨N2, H2⟩ := hr hx;refine ⟨max N1 N2, fun n hn ff0 hs => ?_⟩
      obtain ⟨ff1, a1, a2⟩ := H1 n (by omega) ff0 hs
      obtain ⟨ff2, b1, b2⟩ := H2 n (by omega) ff1 a2
      refine ⟨ff2, ?_, b2⟩
      show opsK pur (R n) (o :: os) ff0 σ = _;rw [opsK_cons, a1]; exact b1
    · exact absurd e1 hne
theorem Aj6 : ∀ (c : ACode) {ff : FF} {σ : Sto} {tp : Tape} {q : Prop} {x : TO}, tRun pur R c ff σ tp q = some x → (x.q → q) ∧ (x.q → Ax6 pur R c ff σ x.e x.ff x.σ) := by
  intro c
  induction c with
  | skip => intro ff σ tp q x h; cases h; exact ⟨id, fun _ => ⟨0, fun n _ ff0 hs => ⟨ff0, rfl, hs⟩⟩⟩
  | region ops => intro ff σ tp q x h; exact tOps_sound ops h
  | exit i => intro ff σ tp q x h; cases h; exact ⟨id, fun _ => ⟨0, fun n _ ff0 hs => ⟨ff0, rfl, hs⟩⟩⟩
  | ret => intro ff σ tp q x h; cases h; exact ⟨id, fun _ => ⟨0, fun n _ ff0 hs => ⟨ff0, rfl, hs⟩⟩⟩
  | seq a b iha ihb =>
    intro ff σ tp q x h;have h' : bindT (tRun pur R a ff σ tp q) (tRun pur R b) = some x := h;obtain ⟨y, hy, hc⟩ := bindT_inv h';obtain ⟨hq1, ho⟩ := iha hy;have hseq : ∀ n ff0, arunK pur (R n) n (.seq a b) ff0 σ = Option.rec (motive := fun _ => RX) none (fun r => cond (AxN r.1) (arunK pur (R n) n b r.2.1 r.2.2) (some r)) (arunK pur (R n) n a ff0 σ) := fun _ _ => rfl
    rcases hc with ⟨he, hk⟩ | ⟨hne, rfl⟩
    · obtain ⟨hq2, hr⟩ := ihb hk;refine ⟨fun hx => hq1 (hq2 hx), fun hx => ?_⟩
      obtain ⟨N1, H1⟩ := ho (hq2 hx);obtain ⟨N2, H2⟩ := hr hx;rw [he] at H1;refine ⟨max N1 N2, fun n hn ff0 hs => ?_⟩
      obtain ⟨ff1, a1, a2⟩ := H1 n (by omega) ff0 hs
      obtain ⟨ff2, b1, b2⟩ := H2 n (by omega) ff1 a2
      refine ⟨ff2, ?_, b2⟩
      rw [hseq, a1]; exact b1
    · refine ⟨hq1, fun hx => ?_⟩
      obtain ⟨N1, H1⟩ := ho hx;refine ⟨N1, fun n hn ff0 hs => ?_⟩
      obtain ⟨ff1, a1, a2⟩ := H1 n hn ff0 hs;refine ⟨ff1, ?_, a2⟩
      rw [hseq, a1];obtain ⟨e, f, s, t, qq⟩ := y;cases e with
      | normal => exact absurd rfl hne
      | exit i => rfl
      | ret => rfl
  | cond c a b iha ihb =>
    intro ff σ tp q x h;have hcond : ∀ n ff0, arunK pur (R n) n (.cond c a b) ff0 σ = condK (evalK ff0 [c]) (arunK pur (R n) n a ff0 σ) (arunK pur (R n) n b ff0 σ) := fun _ _ => rfl
    have key : ∀ (bb : Bool) (t : Tape) (qq : Prop), evalK ff [c] = some [.bool bb] → cond bb (tRun pur R a ff σ t qq) (tRun pur R b ff σ t qq) = some x → (x.q → qq) ∧ (x.q → Ax6 pur R (.cond c a b) ff σ x.e x.ff x.σ) := by
      intro bb t qq hv hx;cases bb with
      | true =>
        obtain ⟨h1, h2⟩ := iha hx;refine ⟨h1, fun hq => ?_⟩
        obtain ⟨N, H⟩ := h2 hq;refine ⟨N, fun n hn ff0 hs => ?_⟩
        rw [hcond, Ak4 hs _ _ hv]; exact H n hn ff0 hs
      | false =>
        obtain ⟨h1, h2⟩ := ihb hx;refine ⟨h1, fun hq => ?_⟩
        obtain ⟨N, H⟩ := h2 hq;refine ⟨N, fun n hn ff0 hs => ?_⟩
        rw [hcond, Ak4 hs _ _ hv]; exact H n hn ff0 hs
    have h' : tCond c (tRun pur R a) (tRun pur R b) ff σ tp q = some x := h
    revert h'
    unfold tCond;refine tCase_inv (fun r => r = some x → (x.q → q) ∧ (x.q → Ax6 pur R (.cond c a b) ff σ x.e x.ff x.σ)) (fun t hx => ?_) (fun t an hx => ?_)
    · split at hx
      · rename_i bb hv; exact key bb t q hv hx
      · cases hx
    · cases an with
      | br bb =>
        have hx' : cond bb (tRun pur R a ff σ t (evalK ff [c] = some [.bool bb] ∧ q)) (tRun pur R b ff σ t (evalK ff [c] = some [.bool bb] ∧ q)) = some x := hx
        have hq : x.q → (evalK ff [c] = some [.bool bb] ∧ q) := by
          cases bb with
          | true => exact (iha hx').1
          | false => exact (ihb hx').1
        exact ⟨fun hq' => (hq hq').2, fun hq' => (key bb t _ (hq hq').1 hx').2 hq'⟩
      | _ => cases hx
  | block id c ih =>
    intro ff σ tp q x h;have h' : tBlock id (tRun pur R c ff σ tp q) = some x := h;have hb : ∀ n ff0, arunK pur (R n) n (.block id c) ff0 σ = Option.rec (motive := fun _ => RX) none (fun r => AExit.rec (motive := fun _ => RX) (some r) (fun i => cond (Nat.beq i id) (some (.normal, r.2)) (some r)) (some r) r.1) (arunK pur (R n) n c ff0 σ) := fun _ _ => rfl
    cases hr : tRun pur R c ff σ tp q with
    | none => rw [hr] at h'; cases h'
    | some y =>
      rw [hr] at h';obtain ⟨hq1, ho⟩ := ih hr;obtain ⟨e, f, s, t, qq⟩ := y;cases e with
      | normal =>
        cases h';refine ⟨hq1, fun hq => ?_⟩
        obtain ⟨N, H⟩ := ho hq;refine ⟨N, fun n hn ff0 hs => ?_⟩
        obtain ⟨ff1, a1, a2⟩ := H n hn ff0 hs;exact ⟨ff1, by rw [hb, a1], a2⟩
      | ret =>
        cases h';refine ⟨hq1, fun hq => ?_⟩
        obtain ⟨N, H⟩ := ho hq;refine ⟨N, fun n hn ff0 hs => ?_⟩
        obtain ⟨ff1, a1, a2⟩ := H n hn ff0 hs;exact ⟨ff1, by rw [hb, a1], a2⟩
      | exit i =>
        have h'' : cond (Nat.beq i id) (some (⟨.normal, f, s, t, qq⟩ : TO)) (some ⟨.exit i, f, s, t, qq⟩) = some x := h';cases hi : Nat.beq i id with
        | true =>
          rw [hi] at h'';cases h'';refine ⟨hq1, fun hq => ?_⟩
          obtain ⟨N, H⟩ := ho hq;refine ⟨N, fun n hn ff0 hs => ?_⟩
          obtain ⟨ff1, a1, a2⟩ := H n hn ff0 hs;exact ⟨ff1, by rw [hb, a1]; dsimp only; rw [hi]; rfl, a2⟩
        | false =>
          rw [hi] at h'';cases h'';refine ⟨hq1, fun hq => ?_⟩
          obtain ⟨N, H⟩ := ho hq;refine ⟨N, fun n hn ff0 hs => ?_⟩
          obtain ⟨ff1, a1, a2⟩ := H n hn ff0 hs;exact ⟨ff1, by rw [hb, a1]; dsimp only; rw [hi]; rfl, a2⟩
  | loop keep c _ =>
    intro ff σ tp q x h;have h' : tLoop pur R keep c ff σ tp q = some x := h
    revert h'
    unfold tLoop;refine tCase_inv (fun r => r = some x → (x.q → q) ∧ (x.q → Ax6 pur R (.loop keep c) ff σ x.e x.ff x.σ)) (fun t hx => by cases hx) (fun t an hx => ?_)
    cases an with
    | loop ls e f s =>
      cases hx;refine ⟨fun hq => hq.2, fun hq => ?_⟩
      obtain ⟨N, H⟩ := hq.1;refine ⟨N, fun n hn ff0 hs => ?_⟩
      refine H n hn n hn (AqN ff0 keep 0) ((pickF_sub _ _).trans fun t v hv => ?_)
      exact mask_sub hs keep 0 t v hv
    | _ => cases hx
  where
  mask_sub {ff ff0 : FF} (hs : Sub ff ff0) : ∀ (keep : List Bool) (i : Nat), Sub (AqN ff keep i) (AqN ff0 keep i)
    | [], i, t, v, h => by cases h
    | b :: keep, i, t, v, h => by
      cases b with
      | false => exact mask_sub hs keep (i + 1) t v h
      | true =>
        have h' : cond (Nat.beq i t) (getK ff i) (getK (AqN ff keep (i + 1)) t) = some v := h;show cond (Nat.beq i t) (getK ff0 i) (getK (AqN ff0 keep (i + 1)) t) = some v;cases hb : Nat.beq i t with
        | true => rw [hb] at h'; exact hs i v h'
        | false => rw [hb] at h'; exact mask_sub hs keep (i + 1) t v h'
end
section
variable (pur : FuncId → Bool) (R : Nat → Caller)
noncomputable def outE (e : AExit) (x : Option (PV × Sto × Prop)) : Option (PV × Sto × Prop) := AExit.rec (motive := fun _ => Option (PV × Sto × Prop)) x (fun _ => none) x e
noncomputable def runT (fn : AFunc) (args : List PV) (σ : Sto) (tp : Tape) : Option (PV × Sto × Prop) :=
  cond (Nat.beq args.length fn.nargs && Nat.ble args.length fn.ntmps)
    (Option.rec (motive := fun _ => Option (PV × Sto × Prop)) none (fun o => outE o.e (Option.rec (motive := fun _ => Option (PV × Sto × Prop)) none (fun vs => Option.rec (motive := fun _ => Option (PV × Sto × Prop)) none (fun r => some (r, o.σ, o.q)) (packR vs)) (resK o.ff fn.results))) (tRun pur R fn.code (initK args 0) σ tp True)) none
noncomputable def runTO (fn : AFunc) (args : List PV) (σ : Sto) (tp : Tape) (r : PV) : Option (PV × Sto × Prop) :=
  cond (Nat.beq args.length fn.nargs && Nat.ble args.length fn.ntmps)
    (Option.rec (motive := fun _ => Option (PV × Sto × Prop)) none (fun o => outE o.e (some (r, o.σ, (resK o.ff fn.results).bind packR = some r ∧ o.q))) (tRun pur R fn.code (initK args 0) σ tp True)) none
noncomputable def nextT (keep : List Bool) (c : ACode) (ls : List Nat) (ff : FF) (σ : Sto) (tp : Tape) : Option (FF × Sto × Prop) :=
  Option.rec (motive := fun _ => Option (FF × Sto × Prop)) none (fun o => cond (AxN o.e) (some (pickF ls (AqN o.ff keep 0), o.σ, o.q)) none) (tRun pur R c ff σ tp True)
noncomputable def leaveT (c : ACode) (ls : List Nat) (ff : FF) (σ : Sto) (tp : Tape) : Option (AExit × FF × Sto × Prop) :=
  Option.rec (motive := fun _ => Option (AExit × FF × Sto × Prop)) none (fun o => cond (AxN o.e) none (some (o.e, pickF ls o.ff, o.σ, o.q))) (tRun pur R c ff σ tp True)
end
section
variable {pur : FuncId → Bool} {R : Nat → Caller}
theorem resK_sub {ff ff0 : FF} (h : Sub ff ff0) : ∀ (rs : List (Nat × Option Nat)) (vs : List PV), resK ff rs = some vs → resK ff0 rs = some vs
  | [], vs, hr => hr
  | (t, n) :: rs, vs, hr => by
    have hr' : (match getK ff t, resK ff rs with | some v, some vs => if resOk v n then some (v.Aq0 :: vs) else none | _, _ => none) = some vs := hr
    show (match getK ff0 t, resK ff0 rs with | some v, some vs => if resOk v n then some (v.Aq0 :: vs) else none | _, _ => none) = some vs
    split at hr'
    · rename_i v ws hg hw;rw [h t v hg, resK_sub h rs ws hw]; exact hr'
    · cases hr'
theorem fn_rule {f : FuncId} {af : AFunc} {args : List PV} {σ σ' : Sto} {r : PV} {tp : Tape} {q : Prop} (hR : ∀ n, R (n + 1) f args σ = AqC pur (R n) n af args σ) (hq : q) (h : runT pur R af args σ tp = some (r, σ', q)) : Ev R f args σ r σ' := by
  unfold runT at h;cases hb : (Nat.beq args.length af.nargs && Nat.ble args.length af.ntmps) with
  | false => rw [hb] at h; cases h
  | true =>
    rw [hb] at h;cases hx : tRun pur R af.code (initK args 0) σ tp True with
    | none => rw [hx] at h; cases h
    | some o =>
      rw [hx] at h;obtain ⟨_, hs⟩ := Aj6 af.code hx;obtain ⟨e, f1, s1, t1, q1⟩ := o;dsimp only [cond_true] at h hs
      have fin : ∀ {e}, e = .normal ∨ e = .ret → Ax6 pur R af.code (initK args 0) σ e f1 s1 →
          (Option.rec (motive := fun _ => Option (PV × Sto × Prop)) none (fun vs => Option.rec (motive := fun _ => Option (PV × Sto × Prop)) none (fun r => some (r, s1, q1)) (packR vs)) (resK f1 af.results)) = some (r, σ', q) → Ev R f args σ r σ' := by
        intro e he hc hh;cases hv : resK f1 af.results with
        | none => rw [hv] at hh; cases hh
        | some vs =>
          rw [hv] at hh;dsimp only at hh;cases hp : packR vs with
          | none => rw [hp] at hh; cases hh
          | some p =>
            rw [hp] at hh;cases hh;obtain ⟨N, H⟩ := hc;refine ⟨N + 1, fun n hn => ?_⟩
            obtain ⟨n, rfl⟩ : ∃ m, n = m + 1 := ⟨n - 1, by omega⟩
            rw [hR];obtain ⟨ff1, a1, a2⟩ := H n (by omega) _ (Sub.refl _)
            unfold AqC;rw [hb, a1];have hv' := resK_sub a2 _ _ hv;rcases he with rfl | rfl
            · dsimp only [cond_true];rw [hv']; simp [hp]
            · dsimp only [cond_true];rw [hv']; simp [hp]
      cases e with
      | normal =>
        have h' := h
        have hq' : q1 := by
          cases hv : resK f1 af.results with
          | none => simp only [outE, hv] at h'; cases h'
          | some vs =>
            simp only [outE, hv] at h';cases hp : packR vs with
            | none => rw [hp] at h'; cases h'
            | some p => rw [hp] at h'; cases h'; exact hq
        exact fin (.inl rfl) (hs hq') h
      | exit i => cases h
      | ret =>
        have h' := h
        have hq' : q1 := by
          cases hv : resK f1 af.results with
          | none => simp only [outE, hv] at h'; cases h'
          | some vs =>
            simp only [outE, hv] at h';cases hp : packR vs with
            | none => rw [hp] at h'; cases h'
            | some p => rw [hp] at h'; cases h'; exact hq
        exact fin (.inr rfl) (hs hq') h
theorem fn_ruleO {f : FuncId} {af : AFunc} {args : List PV} {σ σ' : Sto} {r : PV} {tp : Tape} {q : Prop} (hR : ∀ n, R (n + 1) f args σ = AqC pur (R n) n af args σ) (hq : q) (h : runTO pur R af args σ tp r = some (r, σ', q)) : Ev R f args σ r σ' := by
  unfold runTO at h;cases hb : (Nat.beq args.length af.nargs && Nat.ble args.length af.ntmps) with
  | false => rw [hb] at h; cases h
  | true =>
    rw [hb] at h;cases hx : tRun pur R af.code (initK args 0) σ tp True with
    | none => rw [hx] at h; cases h
    | some o =>
      rw [hx] at h;obtain ⟨_, hs⟩ := Aj6 af.code hx;obtain ⟨e, f1, s1, t1, q1⟩ := o;dsimp only [cond_true] at h hs
      have fin : ∀ {e}, e = .normal ∨ e = .ret → Ax6 pur R af.code (initK args 0) σ e f1 s1 → (resK f1 af.results).bind packR = some r → s1 = σ' → Ev R f args σ r σ' := by
        rintro e he hc hh rfl
        obtain ⟨vs, hv, hp⟩ := Option.bind_eq_some_iff.1 hh;obtain ⟨N, H⟩ := hc;refine ⟨N + 1, fun n hn => ?_⟩
        obtain ⟨n, rfl⟩ : ∃ m, n = m + 1 := ⟨n - 1, by omega⟩
        rw [hR];obtain ⟨ff1, a1, a2⟩ := H n (by omega) _ (Sub.refl _)
        unfold AqC;rw [hb, a1];have hv' := resK_sub a2 _ _ hv;rcases he with rfl | rfl
        · dsimp only [cond_true];rw [hv']; simp [hp]
        · dsimp only [cond_true];rw [hv']; simp [hp]
      cases e with
      | normal => cases h; exact fin (.inl rfl) (hs hq.2) hq.1 rfl
      | exit i => cases h
      | ret => cases h; exact fin (.inr rfl) (hs hq.2) hq.1 rfl
theorem iterK_succ (keep : List Bool) (body : FF → Sto → RX) (m : Nat) (ff : FF) (σ : Sto) : iterK keep body (m + 1) ff σ = Option.rec (motive := fun _ => RX) none (fun r => cond (AxN r.1) (iterK keep body m (AqN r.2.1 keep 0) r.2.2) (some r)) (body ff σ) := rfl
theorem loop_next {keep : List Bool} {c : ACode} {ls : List Nat} {ff ffn ff' : FF} {σ σn σ' : Sto} {e : AExit} {tp : Tape} {q : Prop} (hq : q) (hl : Az7 pur R keep c ffn σn e ff' σ') (h : nextT pur R keep c ls ff σ tp = some (ffn, σn, q)) : Az7 pur R keep c ff σ e ff' σ' := by
  unfold nextT at h;cases hx : tRun pur R c ff σ tp True with
  | none => rw [hx] at h; cases h
  | some o =>
    rw [hx] at h;obtain ⟨_, hs⟩ := Aj6 c hx;obtain ⟨e1, f1, s1, t1, q1⟩ := o;cases e1 with
    | exit i => cases h
    | ret => cases h
    | normal =>
      cases h;obtain ⟨N1, H1⟩ := hs hq;obtain ⟨N2, H2⟩ := hl;refine ⟨max N1 (N2 + 1), fun n hn m hm ff0 hs0 => ?_⟩
      obtain ⟨m, rfl⟩ : ∃ m', m = m' + 1 := ⟨m - 1, by omega⟩
      obtain ⟨ff1, a1, a2⟩ := H1 n (by omega) ff0 hs0
      obtain ⟨ff2, b1, b2⟩ := H2 n (by omega) m (by omega) (AqN ff1 keep 0) ((pickF_sub _ _).trans (Aj6.mask_sub a2 keep 0))
      refine ⟨ff2, ?_, b2⟩
      rw [iterK_succ, a1]; exact b1
theorem loop_leave {keep : List Bool} {c : ACode} {ls : List Nat} {ff ff' : FF} {σ σ' : Sto} {e : AExit} {tp : Tape} {q : Prop} (hq : q) (h : leaveT pur R c ls ff σ tp = some (e, ff', σ', q)) : Az7 pur R keep c ff σ e ff' σ' := by
  unfold leaveT at h;cases hx : tRun pur R c ff σ tp True with
  | none => rw [hx] at h; cases h
  | some o =>
    rw [hx] at h;obtain ⟨_, hs⟩ := Aj6 c hx;obtain ⟨e1, f1, s1, t1, q1⟩ := o
    have key : AxN e1 = false → (e1, pickF ls f1, s1, q1) = (e, ff', σ', q) → Az7 pur R keep c ff σ e ff' σ' := by
      intro hn0 he;cases he;obtain ⟨N1, H1⟩ := hs hq;refine ⟨N1 + 1, fun n hn m hm ff0 hs0 => ?_⟩
      obtain ⟨m, rfl⟩ : ∃ m', m = m' + 1 := ⟨m - 1, by omega⟩
      obtain ⟨ff1, a1, a2⟩ := H1 n (by omega) ff0 hs0
      refine ⟨ff1, ?_, (pickF_sub _ _).trans a2⟩
      rw [iterK_succ, a1];show cond (AxN _) _ _ = _;rw [hn0]; rfl
    cases e1 with
    | normal => cases h
    | exit i => exact key rfl (Option.some.inj h)
    | ret => exact key rfl (Option.some.inj h)
theorem op_p {k : PK} {vs : List PV} {σ : Sto} {rs : List (Option PV)} (h : semP k vs = some rs) : OpEv pur R (.p k) vs σ rs σ := ⟨0, fun _ _ => by simp only [sem, h, Option.map_some]⟩
theorem op_r {k : RK} {vs : List PV} {σ : Sto} {rs : List (Option PV)} (h : semR k vs σ = some rs) : OpEv pur R (.r k) vs σ rs σ := ⟨0, fun _ _ => by simp only [sem, h, Option.map_some]⟩
theorem op_c {f : FuncId} {vs zs : List PV} {σ s : Sto} {r r' : PV} (h : Ev R f zs [] r s) (hv : vs.map PV.Aq0 = zs) (hf : (vs.all PV.free && vs.all PV.flat) = true) (hr : r.flat = true) (hd : r.Aq0 = r') : OpEv pur R (.c f) vs σ [some r'] σ := by
  obtain ⟨N, H⟩ := h;exact ⟨N, fun n hn => by simp only [sem, hf, if_true, hv, H n hn, Option.bind_some, hr, hd]⟩
theorem op_wc {f : FuncId} {vs zs : List PV} {σ σ' : Sto} {r r' : PV} (h : Ev R f zs σ r σ') (hp : pur f = false) (hv : vs.map PV.Aq0 = zs) (hf : vs.all PV.free = true) (hd : r.Aq0 = r') : OpEv pur R (.w (.call f)) vs σ [some r'] σ' := by
  obtain ⟨N, H⟩ := h;refine ⟨N, fun n hn => ?_⟩
  show semW pur (R n) (.call f) vs σ = _;unfold semW;simp only [hf, if_true, hp, Bool.false_eq_true, if_false, hv, H n hn, Option.map_some, hd]
theorem op_wdp {f : FuncId} {fs cs vs zs : List PV} {σ s : Sto} {r r' : PV} (h : Ev R f zs [] r s) (hp : pur f = true) (hv : (fs ++ vs ++ cs).map PV.Aq0 = zs) (hf : vs.all PV.free = true) (hfl : zs.all PV.flat = true) (hr : r.flat = true) (hd : r.Aq0 = r') : OpEv pur R (.w .calld) (.func f fs cs :: vs) σ [some r'] σ := by
  obtain ⟨N, H⟩ := h;refine ⟨N, fun n hn => ?_⟩
  show semW pur (R n) .calld (.func f fs cs :: vs) σ = _;unfold semW;simp only [hf, if_true, hp, hv, hfl, H n hn, Option.bind_some, hr, hd]
end
end Go.Abs

namespace Go.Abs.Z
open Go.Proofs Go.RowKit
abbrev E := Ev run
abbrev LE := Az7 pur run
abbrev N (n : Nat) : PV := .int .i64 (n : Int)
abbrev I (x : Int) : PV := .int .i64 x
def Rn (f : FuncId) (af : AFunc) : Prop := ∀ n args σ, run (n + 1) f args σ = AqC pur (run n) n af args σ
structure Stp where
  g : Nat
  a : Ans
  q : Prop → Prop
  pf : ∀ {x : Prop}, x → q x
section
variable {R : Nat → Caller} {k : AK} {vs : List PV} {σ σ' : Sto} {rs : List (Option PV)}
def st (g : Nat) (h : OpEv pur R k vs σ rs σ') : Stp := ⟨g, .res rs σ', fun x => OpEv pur R k vs σ rs σ' ∧ x, fun x => ⟨h, x⟩⟩
def sg (g : Nat) (h : OpEv pur R k vs σ rs σ') : Stp := ⟨g, .grdr rs σ', fun x => OpEv pur R k vs σ rs σ' ∧ (some true = some true ∧ x), fun x => ⟨h, rfl, x⟩⟩
def sl (g : Nat) (ls : List Nat) {keep : List Bool} {c : ACode} {ff ff1 : FF} {e : AExit} (h : Az7 pur R keep c ff σ e ff1 σ') : Stp := ⟨g, .loop ls e ff1 σ', fun x => Az7 pur R keep c ff σ e ff1 σ' ∧ x, fun x => ⟨h, x⟩⟩
end
noncomputable def tapeOf (l : List Stp) : Tape := List.rec (motive := fun _ => Tape) [] (fun s _ ih => (s.g, s.a) :: ih) l
noncomputable def qOf (l : List Stp) : Prop → Prop := List.rec (motive := fun _ => Prop → Prop) (fun x => x) (fun s _ ih x => ih (s.q x)) l
theorem qOf_ok : ∀ (l : List Stp) {x : Prop}, x → qOf l x
  | [], _, h => h
  | s :: l, _, h => qOf_ok l (s.pf h)
theorem rule {f : FuncId} {af : AFunc} {args : List PV} {σ σ' : Sto} {r : PV} (hR : Rn f af) (l : List Stp) (h : runT pur run af args σ (tapeOf l) = some (r, σ', qOf l True) := by kernel_rfl) : E f args σ r σ' := fn_rule (fun n => hR n args σ) (qOf_ok l trivial) h
theorem ruleO {f : FuncId} {af : AFunc} {args : List PV} {σ σ' : Sto} {r : PV} {ff : FF} {rs : List (Nat × Option Nat)} (hR : Rn f af) (l : List Stp) (ho : (resK ff rs).bind packR = some r) (h : runTO pur run af args σ (tapeOf l) r = some (r, σ', (resK ff rs).bind packR = some r ∧ qOf l True) := by kernel_rfl) : E f args σ r σ' := fn_ruleO (fun n => hR n args σ) ⟨ho, qOf_ok l trivial⟩ h
theorem ruleN {keep : List Bool} {c : ACode} {ff ffn ff' : FF} {σ σn σ' : Sto} {e : AExit} (ls : List Nat) (l : List Stp) (hl : Az7 pur run keep c ffn σn e ff' σ') (h : nextT pur run keep c ls ff σ (tapeOf l) = some (ffn, σn, qOf l True) := by kernel_rfl) : Az7 pur run keep c ff σ e ff' σ' := loop_next (qOf_ok l trivial) hl h
theorem ruleX {keep : List Bool} {c : ACode} {ff ff' : FF} {σ σ' : Sto} {e : AExit} (ls : List Nat) (l : List Stp) (h : leaveT pur run c ls ff σ (tapeOf l) = some (e, ff', σ', qOf l True) := by kernel_rfl) : Az7 pur run keep c ff σ e ff' σ' := loop_leave (qOf_ok l trivial) h
theorem P {k : PK} {vs : List PV} {rs : List (Option PV)} (h : semP k vs = some rs) : OpEv pur run (.p k) vs [] rs [] := op_p h
theorem PS (σ : Sto) {k : PK} {vs : List PV} {rs : List (Option PV)} (h : semP k vs = some rs) : OpEv pur run (.p k) vs σ rs σ := op_p h
theorem Q {k : RK} {vs : List PV} {rs : List (Option PV)} (h : semR k vs [] = some rs) : OpEv pur run (.r k) vs [] rs [] := op_r h
theorem QS (σ : Sto) {k : RK} {vs : List PV} {rs : List (Option PV)} (h : semR k vs σ = some rs) : OpEv pur run (.r k) vs σ rs σ := op_r h
theorem ev_of_run {f : FuncId} {args : List PV} {σ σ' : Sto} {r : PV} (N : Nat) (h : ∀ n, N ≤ n → run (n + 1) f args σ = some (r, σ')) : E f args σ r σ' :=
  ⟨N + 1, fun n hn => by obtain ⟨n, rfl⟩ : ∃ m, n = m + 1 := ⟨n - 1, by omega⟩; exact h n (by omega)⟩
def accP (size : Nat) : List PV → PV
  | [] => .nils
  | es => .slice true size es
def accD (size : Nat) : List PV → PV
  | [] => .nils
  | es => .slice false size es
section
variable {σ : Sto} {k : IntKind}
theorem mv_of {v x : PV} (hf : v.free = true) (h : v.Aq0 = x) : semP .mv [v] = some [some x] := by rw [p_mv v hf, h]
theorem acc_disown (size : Nat) (es : List PV) : (accP size es).Aq0 = accD size es := by cases es <;> rfl
theorem accd_disown (size : Nat) (es : List PV) : (accD size es).Aq0 = accD size es := by cases es <;> rfl
theorem acc_free (size : Nat) (es : List PV) : (accP size es).free = true := by cases es <;> rfl
theorem accd_free (size : Nat) (es : List PV) : (accD size es).free = true := by cases es <;> rfl
theorem accd_flat (size : Nat) (es : List PV) : (accD size es).flat = true := by cases es <;> rfl
theorem acc_flat (size : Nat) (es : List PV) : (accP size es).flat = true := by cases es <;> rfl
theorem kp_disown (T : Tr) : T.kp.Aq0 = T.kp := by
  obtain ⟨k, t, a, e, n, ks⟩ := T; cases n <;> rfl
theorem kp_own0 (T : Tr) : T.kp.own0 = T.kp := T.kp_ok.1
theorem kp_free (T : Tr) : T.kp.free = true := by
  obtain ⟨k, t, a, e, n, ks⟩ := T; cases n <;> rfl
theorem kp_flat (T : Tr) : T.kp.flat = true := by
  obtain ⟨k, t, a, e, n, ks⟩ := T; cases n <;> rfl
theorem mv_acc (size : Nat) (es : List PV) : semP .mv [accP size es] = some [some (accD size es)] := mv_of (acc_free ..) (acc_disown ..)
theorem mvo_of {v x : PV} (hf : v.free = true) (h : v.Aq0 = x) : semP .mvo [v] = some [some v, some x] := by
  show (if v.free = true then _ else _) = _
  rw [if_pos hf, h]
theorem mvo_acc (size : Nat) (es : List PV) : semP .mvo [accP size es] = some [some (accP size es), some (accD size es)] := mvo_of (acc_free ..) (acc_disown ..)
theorem bx_of {v x : PV} (hf : v.flat = true) (h : v.Aq0 = x) : semP .bx [v] = some [some (.vptr x)] := by rw [p_bx v hf, h]
theorem bx_tr (T : Tr) : semP .bx [T.pv] = some [some (.vptr T.pv)] := bx_of T.pv_flat T.AjD
theorem bx_agg {cs : List PV} {x : PV} (h : (PV.agg cs).Aq0 = x) : semP .bx [.agg cs] = some [some (.vptr x)] := bx_of rfl h
theorem AxC (T : Tr) : semP (.sti 5) [.hole 5, T.pv] = some [some (.vptr T.pv)] := by
  show (if _ then _ else _) = _
  rw [if_pos ⟨rfl, T.pv_five, T.pv_flat, T.pv_ones⟩, T.AjD]
theorem ld_of {n : Nat} {ag : Bool} {v x : PV} (h1 : fits n ag v = true) (h2 : v.free = true) (h : v.Aq0 = x) : semR (.ld n ag) [.vptr v] σ = some [some x] := by
  show (if fits n ag v = true ∧ v.free = true then some v else none).map (fun v => [some v.Aq0]) = _
  rw [if_pos ⟨h1, h2⟩, ← h]; rfl
theorem ld_tr (T : Tr) : semR (.ld 5 true) [.vptr T.pv] σ = some [some T.pv] := ld_of (by rw [Tr.pv_nd]; rfl) T.pv_free T.AjD
theorem ld_kp (T : Tr) : semR (.ld 1 false) [.vptr T.kp] σ = some [some T.kp] := ld_of (by obtain ⟨k, t, a, e, n, ks⟩ := T; cases n <;> rfl) (kp_free T) (kp_disown T)
theorem ldp_tr (T : Tr) : semP (.ldp 5 true) [.vptr T.pv] = some [some T.pv] := by
  show (if fits 5 true T.pv = true ∧ T.pv.free = true then some T.pv else none).map (fun v => [some v.Aq0]) = _
  rw [if_pos ⟨by rw [Tr.pv_nd]; rfl, T.pv_free⟩, Option.map_some, T.AjD]
theorem Aq8 (T : Tr) : semP (.fa 0 1 false) [.vptr T.pv] = some [some (.vptr (.int .i64 T.kind))] := by rw [Tr.pv_nd]; rfl
theorem AqY (T : Tr) : semP (.fa 1 1 false) [.vptr T.pv] = some [some (.vptr (.str T.text))] := by rw [Tr.pv_nd]; rfl
theorem fa_tr2 (T : Tr) : semP (.fa 2 1 false) [.vptr T.pv] = some [some (.vptr (.int .i64 T.st))] := by rw [Tr.pv_nd]; rfl
theorem AqA (T : Tr) : semP (.fa 4 1 false) [.vptr T.pv] = some [some (.vptr T.kp)] := by rw [Tr.pv_nd]; exact p_fa4 T.kp_ok
theorem Ax9 {T : Tr} (h : T.wf) : semP (.len false) [T.kp] = some [some (.int .i64 (T.kids.length : Nat))] := by
  obtain ⟨k, t, a, e, n, ks⟩ := T;cases n
  · show some [some (PV.int .i64 ((Tr.pvs ks).length : Nat))] = _;rw [Tr.AzU, List.length_map]; rfl
  · have : ks = [] := h.1 rfl;subst this; rfl
theorem len_trs (o : Bool) (s : Nat) (ts : List Tr) : semP (.len false) [.slice o s (Tr.pvs ts)] = some [some (.int .i64 (ts.length : Nat))] := by
  show some [some (PV.int .i64 ((Tr.pvs ts).length : Nat))] = _;rw [Tr.AzU, List.length_map]
theorem len_strs (o : Bool) (s : Nat) (ts : List (List UInt8)) : semP (.len false) [.slice o s (ts.map .str)] = some [some (.int .i64 (ts.length : Nat))] := by
  show some [some (PV.int .i64 ((ts.map PV.str).length : Nat))] = _;rw [List.length_map]
theorem idx_trs {o : Bool} {s : Nat} {ts : List Tr} {U : Tr} (j : Nat) (h : ts[j]? = some U) : semP (.idx s) [.slice o s (Tr.pvs ts), .int .i64 (j : Nat)] = some [some (.vptr U.pv)] :=
  p_idx _ _ _ _ _ (by rw [Tr.AzU, List.getElem?_map, h]; rfl)
theorem idx_strs {o : Bool} {s : Nat} {ts : List (List UInt8)} {t : List UInt8} (j : Nat) (h : ts[j]? = some t) : semP (.idx s) [.slice o s (ts.map .str), .int .i64 (j : Nat)] = some [some (.vptr (.str t))] :=
  p_idx _ _ _ _ _ (by rw [List.getElem?_map, h]; rfl)
theorem AqS {T U : Tr} (j : Nat) (w : T.wf) (h : T.kids[j]? = some U) : semP (.idx 5) [T.kp, .int .i64 (j : Nat)] = some [some (.vptr U.pv)] := by
  obtain ⟨k, t, a, e, n, ks⟩ := T;cases n with
  | false => exact idx_trs j h
  | true =>
    have : ks = [] := w.1 rfl;subst this; cases h
theorem bin_of {op : BinOp} {c : Nat} {x y : PV} {e v : Bool} (h : e = v) (hs : semP (.bin op c) [x, y] = some [some (.bool e)]) : semP (.bin op c) [x, y] = some [some (.bool v)] := by rw [hs, h]
theorem beq_of_eq {α : Type} [BEq α] [LawfulBEq α] {x y : α} (h : x = y) : (x == y) = true := by simp [h]
theorem beq_of_ne {α : Type} [BEq α] [LawfulBEq α] {x y : α} (h : x ≠ y) : (x == y) = false := by simp [h]
theorem bne_of_eq {α : Type} [BEq α] [LawfulBEq α] {x y : α} (h : x = y) : (x != y) = false := by simp [h]
theorem bne_of_ne {α : Type} [BEq α] [LawfulBEq α] {x y : α} (h : x ≠ y) : (x != y) = true := by simp [h]
theorem nbeq_of_eq {α : Type} [BEq α] [LawfulBEq α] {x y : α} (h : x = y) : (!(x == y)) = false := by simp [h]
theorem nbeq_of_ne {α : Type} [BEq α] [LawfulBEq α] {x y : α} (h : x ≠ y) : (!(x == y)) = true := by simp [h]
theorem add_of {x y z : Int} (h : k.wrap (x + y) = z) : semP (.bin .add 0) [.int k x, .int k y] = some [some (.int k z)] := by
  rw [← h]; cases k <;> rfl
theorem sub_of {x y z : Int} (h : k.wrap (x - y) = z) : semP (.bin .sub 0) [.int k x, .int k y] = some [some (.int k z)] := by
  rw [← h]; cases k <;> rfl
theorem AxW (j m : Nat) (h : j < 4611686018427387904) (hm : m < 4611686018427387904) : semP (.bin .add 0) [.int .i64 (j : Nat), .int .i64 (m : Nat)] = some [some (.int .i64 ((j + m : Nat) : Int))] := by
  apply add_of;simp [IntKind.wrap, IntKind.bits, IntKind.signed]; omega
theorem AqF {a b : List UInt8} (h : a.length + b.length ≤ Aq4) : semP (.bin .add 0) [.str a, .str b] = some [some (.str (a ++ b))] := by
  show (binS .add a b).map (fun v => [some v]) = _
  simp only [binS];rw [if_pos h]; rfl
theorem Ak2 (i : Nat) {vs : List PV} {v x : PV} (h : vs[i]? = some v) (h2 : vs.all PV.free = true ∧ v.Aq0 = x) : semP (.ext i) [.tuple vs] = some [some x] := by
  show (if vs.all PV.free = true then _ else _) = _
  rw [if_pos h2.1, h, Option.map_some, h2.2]
theorem bsl_of {size : Nat} {vs ws : List PV} (h : vs.all (fun v => v.cells.length == size && v.flat) = true) (h2 : vs.map PV.Aq0 = ws) : semP (.bsl size) vs = some [some (.slice true size ws)] := by
  show (if vs.all (fun v => v.cells.length == size && v.flat) = true then _ else _) = _
  rw [if_pos h, h2]
theorem app_gen {size : Nat} {s x : PV} {es xs : List PV} (h1 : appS size s = some es) (h2 : appX size x = some xs) (h3 : xs.isEmpty = false) (h4 : es.length + xs.length ≤ Ax1) (h5 : xs.all PV.ones = true) : semP (.app size) [s, x] = some [some (.slice true size (es ++ xs)), some s.Aq0] := by
  show appV size s x = _;unfold appV;rw [h1, h2];dsimp only;rw [if_neg (by simp [h3]), if_pos ⟨h4, h5⟩]
theorem app_acc {size : Nat} {es xs : List PV} {o : Bool} (h4 : es.length + xs.length ≤ Ax1) (h : xs.isEmpty = false ∧ xs.all PV.ones = true) : semP (.app size) [accP size es, .slice o size xs] = some [some (accP size (es ++ xs)), some (accD size es)] := by
  have h2 : appX size (.slice o size xs) = some xs := by simp [appX]
  have h1 : appS size (accP size es) = some es := by cases es <;> simp [accP, appS]
  rw [app_gen h1 h2 h.1 h4 h.2, acc_disown];cases es with
  | nil => cases xs with
    | nil => simp at h
    | cons => rfl
  | cons => rfl
theorem app_lit {size : Nat} {o' : Bool} {es xs : List PV} (h4 : es.length + xs.length ≤ Ax1) (h3 : xs.isEmpty = false) (h5 : xs.all PV.ones = true) : semP (.app size) [.slice true size es, .slice o' size xs] = some [some (.slice true size (es ++ xs)), some (.slice false size es)] :=
  app_gen (by simp [appS]) (by simp [appX]) h3 h4 h5
theorem stl_of {off n : Nat} {c v r : PV} (h1 : v.cells.length = n) (h2 : v.flat = true) (h3 : v.ones = true) (h : upd c off v.Aq0 = some r) : semP (.stl off n) [c, v] = some [some r] := by
  show (if _ then _ else _) = _
  rw [if_pos ⟨h1, h2, h3⟩, h]; rfl
theorem upd_all {c x : PV} (h5 : c.cells.length = 5) (h : x.cells.length = 5) (hc : ∃ cs, c = .agg cs) (hx : ∃ xs, x = .agg xs) : upd c 0 x = some x := by
  obtain ⟨cs, rfl⟩ := hc;obtain ⟨xs, rfl⟩ := hx;simp only [PV.cells] at h h5;show (if _ then _ else _) = _
  rw [if_pos (by simp [PV.cells, h, h5])]
  simp [PV.cells, h, h5]
theorem stl_tr5 {c : PV} (T : Tr) (h5 : c.cells.length = 5) (hc : ∃ cs, c = .agg cs) : semP (.stl 0 5) [c, T.pv] = some [some T.pv] :=
  stl_of T.pv_five T.pv_flat T.pv_ones (by rw [T.AjD]; exact upd_all h5 T.pv_five hc ⟨_, T.pv_nd⟩)
theorem stl_lit (a b c d e : PV) (T : Tr) : semP (.stl 0 5) [.agg [a, b, c, d, e], T.pv] = some [some T.pv] := stl_tr5 T rfl ⟨_, rfl⟩
theorem stl_trt (U T : Tr) : semP (.stl 0 5) [U.pv, T.pv] = some [some T.pv] := stl_tr5 T U.pv_five ⟨_, U.pv_nd⟩
section
variable {x y : Int}
theorem AxH (k : IntKind) (h : x < y) : semP (.bin .lss 0) [.int k x, .int k y] = some [some (.bool true)] := bin_of (e := decide (x < y)) (decide_eq_true h) (by cases k <;> rfl)
theorem AxJ (k : IntKind) (h : ¬ x < y) : semP (.bin .lss 0) [.int k x, .int k y] = some [some (.bool false)] := bin_of (e := decide (x < y)) (decide_eq_false h) (by cases k <;> rfl)
theorem b_gtrT (k : IntKind) (h : x > y) : semP (.bin .gtr 0) [.int k x, .int k y] = some [some (.bool true)] := bin_of (e := decide (x > y)) (decide_eq_true h) (by cases k <;> rfl)
theorem Aj2 (k : IntKind) (h : ¬ x > y) : semP (.bin .gtr 0) [.int k x, .int k y] = some [some (.bool false)] := bin_of (e := decide (x > y)) (decide_eq_false h) (by cases k <;> rfl)
theorem b_geqF (k : IntKind) (h : ¬ x ≥ y) : semP (.bin .geq 0) [.int k x, .int k y] = some [some (.bool false)] := bin_of (e := decide (x ≥ y)) (decide_eq_false h) (by cases k <;> rfl)
theorem AqV (k : IntKind) (h : x = y) : semP (.bin .eql 0) [.int k x, .int k y] = some [some (.bool true)] := bin_of (e := (x == y)) (beq_of_eq h) (by cases k <;> rfl)
theorem Aq1 (k : IntKind) (h : x ≠ y) : semP (.bin .eql 0) [.int k x, .int k y] = some [some (.bool false)] := bin_of (e := (x == y)) (beq_of_ne h) (by cases k <;> rfl)
theorem b_neqT (k : IntKind) (h : x ≠ y) : semP (.bin .neq 0) [.int k x, .int k y] = some [some (.bool true)] := bin_of (e := (x != y)) (bne_of_ne h) (by cases k <;> rfl)
theorem AjQ (k : IntKind) (h : x = y) : semP (.bin .neq 0) [.int k x, .int k y] = some [some (.bool false)] := bin_of (e := (x != y)) (bne_of_eq h) (by cases k <;> rfl)
end
section
variable {x y : List UInt8}
theorem s_eqlT (h : x = y) : semP (.bin .eql 0) [.str x, .str y] = some [some (.bool true)] := bin_of (e := (x == y)) (beq_of_eq h) rfl
theorem s_eqlF (h : x ≠ y) : semP (.bin .eql 0) [.str x, .str y] = some [some (.bool false)] := bin_of (e := (x == y)) (beq_of_ne h) rfl
theorem s_neqT (h : x ≠ y) : semP (.bin .neq 0) [.str x, .str y] = some [some (.bool true)] := bin_of (e := (!(x == y))) (nbeq_of_ne h) rfl
theorem s_neqF (h : x = y) : semP (.bin .neq 0) [.str x, .str y] = some [some (.bool false)] := bin_of (e := (!(x == y))) (nbeq_of_eq h) rfl
end
theorem AzJ (ff : FF) (t : Nat) (n : Option Nat) (rs : List (Nat × Option Nat)) : resK ff ((t, n) :: rs) = (match getK ff t, resK ff rs with | some v, some vs => if resOk v n then some (v.Aq0 :: vs) else none | _, _ => none) := rfl
theorem res_nil (ff : FF) : resK ff [] = some [] := rfl
theorem ok_tr (T : Tr) : resOk T.pv (some 5) = true := by rw [Tr.pv_nd]; obtain ⟨k, t, a, e, n, ks⟩ := T; cases n <;> rfl
theorem ok_none (v : PV) : resOk v none = v.free := rfl
theorem agg_disown (cs : List PV) : (PV.agg cs).Aq0 = .agg (cs.map PV.own0) := rfl
theorem own0_int (k : IntKind) (x : Int) : (PV.int k x).own0 = .int k x := rfl
theorem own0_str (x : List UInt8) : (PV.str x).own0 = .str x := rfl
theorem own0_bool (x : Bool) : (PV.bool x).own0 = .bool x := rfl
theorem own0_nils : PV.nils.own0 = .nils := rfl
theorem own0_slice (o : Bool) (s : Nat) (x : List PV) : (PV.slice o s x).own0 = .slice false s x := rfl
theorem own0_acc (size : Nat) (es : List PV) : (accP size es).own0 = accD size es := by cases es <;> rfl
theorem own0_accd (size : Nat) (es : List PV) : (accD size es).own0 = accD size es := by cases es <;> rfl
theorem agg_free (cs : List PV) : (PV.agg cs).free = true := rfl
theorem agg_flat (cs : List PV) : (PV.agg cs).flat = true := rfl
theorem tuple_disown (cs : List PV) : (PV.tuple cs).Aq0 = .tuple cs := rfl
theorem tuple_flat (cs : List PV) : (PV.tuple cs).flat = cs.all PV.flat0 := by simp [PV.flat]
theorem tuple_free (cs : List PV) : (PV.tuple cs).free = true := rfl
theorem flat0_int (k : IntKind) (x : Int) : (PV.int k x).flat0 = true := rfl
theorem flat0_str (x : List UInt8) : (PV.str x).flat0 = true := rfl
theorem flat0_bool (x : Bool) : (PV.bool x).flat0 = true := rfl
theorem flat0_tr (T : Tr) : T.pv.flat0 = true := by rw [Tr.pv_nd]; rfl
theorem flat0_slice (o : Bool) (s : Nat) (x : List PV) : (PV.slice o s x).flat0 = true := rfl
theorem flat0_nils : PV.nils.flat0 = true := rfl
theorem flat0_accd (size : Nat) (es : List PV) : (accD size es).flat0 = true := by cases es <;> rfl
theorem cells_agg (cs : List PV) : (PV.agg cs).cells = cs := rfl
theorem ones_agg (cs : List PV) : (PV.agg cs).ones = cs.all PV.one := rfl
theorem one_kp (T : Tr) : T.kp.one = true := by obtain ⟨k, t, a, e, n, ks⟩ := T; cases n <;> rfl
theorem ones_tr (T : Tr) : T.pv.ones = true := T.pv_ones
theorem cells_tr (T : Tr) : T.pv.cells.length = 5 := T.pv_five
theorem ones_str (x : List UInt8) : (PV.str x).ones = true := rfl
theorem ones_int (k : IntKind) (x : Int) : (PV.int k x).ones = true := rfl
theorem one_str (x : List UInt8) : (PV.str x).one = true := rfl
theorem one_int (k : IntKind) (x : Int) : (PV.int k x).one = true := rfl
theorem ref_tr (T : Tr) : T.pv.isRef = false := by rw [Tr.pv_nd]; rfl
theorem tr_disown (T : Tr) : T.pv.Aq0 = T.pv := T.AjD
theorem tr_flat (T : Tr) : T.pv.flat = true := T.pv_flat
theorem tr_free (T : Tr) : T.pv.free = true := T.pv_free
end
attribute [simp] kp_disown kp_own0 kp_free kp_flat acc_disown accd_disown acc_free accd_free accd_flat acc_flat tr_disown tr_flat tr_free ok_tr ok_none agg_disown own0_int own0_str own0_bool own0_nils own0_slice own0_acc own0_accd agg_free agg_flat tuple_disown tuple_flat tuple_free
  flat0_int flat0_str flat0_bool flat0_tr flat0_slice flat0_nils flat0_accd cells_agg ones_agg one_kp ones_tr cells_tr ref_tr res_nil ones_str ones_int one_str one_int
theorem oC {f : FuncId} {xs : List PV} {r : PV} {s : Sto} (h : E f xs [] r s) (hs : (xs.all PV.free && xs.all PV.flat) = true ∧ xs.map PV.Aq0 = xs ∧ r.flat = true ∧ r.Aq0 = r := by first | exact ⟨rfl, rfl, rfl, rfl⟩ | simp) : OpEv pur run (.c f) xs [] [some r] [] := op_c h hs.2.1 hs.1 hs.2.2.1 hs.2.2.2
theorem oCS (σ : Sto) {f : FuncId} {xs : List PV} {r : PV} {s : Sto} (h : E f xs [] r s) (hs : (xs.all PV.free && xs.all PV.flat) = true ∧ xs.map PV.Aq0 = xs ∧ r.flat = true ∧ r.Aq0 = r := by first | exact ⟨rfl, rfl, rfl, rfl⟩ | simp) : OpEv pur run (.c f) xs σ [some r] σ := op_c h hs.2.1 hs.1 hs.2.2.1 hs.2.2.2
end Go.Abs.Z

namespace Go.Abs.Z
open Go.Proofs Go.RowKit
theorem run141 (m : Nat) (c : UInt8) : run (m + 1) 146 [.int .u8 c.toNat] [] = some (.bool (AqU c), []) := letterA_run (call := run m) (n := m) c
theorem run149 (m : Nat) (c : UInt8) : run (m + 1) 178 [.int .u8 c.toNat] [] = some (.bool (AqU c), []) := letterB_run (call := run m) (n := m) c
theorem run117 (m : Nat) (c : UInt8) : run (m + 1) 149 [.int .u8 c.toNat] [] = some (.bool (AqK c), []) := digitA_run (call := run m) (n := m) c
theorem run153 (m : Nat) (c : UInt8) : run (m + 1) 182 [.int .u8 c.toNat] [] = some (.bool (AqK c), []) := digitB_run (call := run m) (n := m) c
theorem run143 (m : Nat) (c : UInt8) : run (m + 1) 170 [.int .u8 c.toNat] [] = some (.bool (AjP c), []) := blank_run (call := run m) (n := m) c
theorem run152 (m : Nat) (c : UInt8) : run (m + 2) 181 [.int .u8 c.toNat] [] = some (.bool (wordB c), []) := wordB_run (call := run (m + 1)) (n := m + 1) (run149 m) (run153 m) c
theorem run28L (m : Nat) (hm : 101 ≤ m) (ls : List (List UInt8)) (t : List UInt8) (h : ls.length < 100) : run (m + 1) 89 [.slice false 1 (ls.map .str), .str t] [] = some (.bool (ls.contains t), []) :=
  hasL_run (call := run m) (n := m) false ls t (by omega) (by omega)
theorem run142 (m : Nat) (hm : 101 ≤ m) (t : List UInt8) : run (m + 2) 147 [.str t] [] = some (.bool (AxA t), []) := keywordA_run (call := run (m + 1)) (n := m + 1) (run28L m hm) t
theorem run164 (m : Nat) : run (m + 1) 193 [] [] = some (.mapv kwKeys kwVals, []) := keywords_run (call := run m) (n := m)
theorem run150 (m : Nat) (t : List UInt8) : run (m + 2) 179 [.str t] [] = some (.bool (AxA t), []) := keywordB_run (call := run (m + 1)) (n := m + 1) (run164 m) t
theorem run144 (m : Nat) (hm : 101 ≤ m) (s : List UInt8) (i : Nat) (hi : i < s.length) (hs : s.length < 4611686018427387904) : run (m + 2) 171 [.str s, .int .i64 i] [] = some (.int .i64 (symB s i), []) :=
  sym_run (call := run (m + 1)) (n := m + 1) (run28L m hm) s i hi hs
theorem lexCalls (m : Nat) (hm : 101 ≤ m) : LexCalls (run (m + 2)) := ⟨run141 (m + 1), run117 (m + 1), run143 (m + 1), fun s i h1 h2 => run144 m hm s i h1 h2⟩
theorem run145 (m : Nat) (hm : 101 ≤ m) (s : List UInt8) (i : Nat) (hi : i < s.length) (hs : s.length < 4611686018427387904) : run (m + 3) 172 [.str s, .int .i64 i] [] = some (.bool (beginsB s i), []) :=
  begins_run (call := run (m + 2)) (n := m + 2) (lexCalls m hm) s i hi hs
theorem run112 (m : Nat) (hm : 101 ≤ m) (s : List UInt8) (i : Nat) (hi : i < s.length) (hs : s.length < 2305843009213693952) (hn : s.length ≤ m) : run (m + 4) 131 [.str s, .int .i64 i] [] = some (.tuple [.int .i64 (Aj3 s i).1, .int .i64 (Aj3 s i).2], []) :=
  token_run (call := run (m + 3)) (n := m + 3) (lexCalls (m + 1) (by omega)) (run145 m hm) (fun t => run142 (m + 1) (by omega) t) s i hi hs (by omega)
theorem run107 (m : Nat) (hm : 101 ≤ m) (s : List UInt8) : run (m + 5) 87 [.str s] [] = some (.bool (nameB s), []) :=
  nameA_run (call := run (m + 4)) (n := m + 4) (run141 (m + 3)) (fun t => run142 (m + 2) (by omega) t) (fun s i h1 h2 => run112 m hm s i h1 (by omega) (by omega)) s
theorem run151w (m : Nat) (hm : 101 ≤ m) (s : List UInt8) (h : s.length < 100) : run (m + 3) 180 [.str s, .int .i64 0, .func 181 [] []] [] = some (.int .i64 (spanB wordB s : Nat), []) :=
  run_run (call := run (m + 2)) (n := m + 2) 181 wordB rfl (run152 m) s (by omega) (by omega)
theorem run151d (m : Nat) (hm : 101 ≤ m) (s : List UInt8) (h : s.length < 100) : run (m + 2) 180 [.str s, .int .i64 0, .func 182 [] []] [] = some (.int .i64 (spanB AqK s : Nat), []) :=
  run_run (call := run (m + 1)) (n := m + 1) 182 AqK rfl (run153 m) s (by omega) (by omega)
theorem run123 (m : Nat) (hm : 101 ≤ m) (s : List UInt8) : run (m + 4) 154 [.str s] [] = some (.bool (nameB s), []) :=
  nameB_run (call := run (m + 3)) (n := m + 3) (run149 (m + 2)) (fun t => run150 (m + 1) t) (fun s h => run151w m hm s h) s
theorem run72 (m : Nat) (hm : 101 ≤ m) (s : List UInt8) : run (m + 2) 96 [.str s] [] = some (.tuple [.int .i64 (if numOk s then numV s else 0), .bool (numOk s)], []) :=
  numberA_run (call := run (m + 1)) (n := m + 1) (run117 m) s (by omega)
theorem run159 (m : Nat) (hm : 101 ≤ m) (s : List UInt8) : run (m + 3) 188 [.str s] [] = some (.tuple [.int .i64 (if numOk s then numV s else 0), .bool (numOk s)], []) :=
  numberB_run (call := run (m + 2)) (n := m + 2) (run151d m hm) s (by omega)
theorem run108 (m : Nat) (hm : 101 ≤ m) (s : List UInt8) : run (m + 3) 88 [.str s] [] = some (.bool (AxU s), []) := number3_run (call := run (m + 2)) (n := m + 2) (run72 m hm) s
theorem run130 (m : Nat) (hm : 101 ≤ m) (s : List UInt8) : run (m + 4) 161 [.str s] [] = some (.bool (AxU s), []) := numberT_run (call := run (m + 3)) (n := m + 3) (run159 m hm) s
theorem ev_at {f : FuncId} {args : List PV} {σ σ' : Sto} {r : PV} (K : Nat) (h : ∀ m, 101 ≤ m → run (m + K) f args σ = some (r, σ')) : E f args σ r σ' :=
  ⟨101 + K, fun n hn => by obtain ⟨n, rfl⟩ : ∃ m, n = m + K := ⟨n - K, by omega⟩; exact h n (by omega)⟩
theorem e123 (s : List UInt8) : E 154 [.str s] [] (.bool (nameB s)) [] := ev_at 4 fun m hm => run123 m hm s
theorem e130 (s : List UInt8) : E 161 [.str s] [] (.bool (AxU s)) [] := ev_at 4 fun m hm => run130 m hm s
theorem e28 (ls : List (List UInt8)) (t : List UInt8) (h : ls.length < 100) : E 89 [.slice false 1 (ls.map .str), .str t] [] (.bool (ls.contains t)) [] := ev_at 1 fun m hm => run28L m hm ls t h
theorem e12 (T U : Tr) (i : Int) : E 190 [T.pv, .int .i64 i, U.pv] [] (.bool (parV T.kind T.text i U.kind U.text)) [] := by
  rw [Tr.pv_nd T, Tr.pv_nd U]; exact ev_at 1 fun m hm => run12 m (by omega) _ _ _ _ _ _ _ _ _ _ _ T.kp_ok U.kp_ok
theorem e13 (T U : Tr) (i : Int) : E 102 [T.pv, .int .i64 i, U.pv] [] (.bool (parV T.kind T.text i U.kind U.text)) [] := by
  rw [Tr.pv_nd T, Tr.pv_nd U]; exact ev_at 1 fun m hm => run13 m (by omega) _ _ _ _ _ _ _ _ _ _ _ T.kp_ok U.kp_ok
theorem e8 (T : Tr) (x : Int) (hw : T.wf) (hr : T.pre.length ≤ Ax1) : E 4 [T.pv, .int .i64 x] [] (.bool (smallV T x)) [] :=
  ev_of_run (T.pre.length + 2) fun n hn => run8 n T x hw hn hr
end Go.Abs.Z

namespace Go.Abs.Z
open Go.Proofs Go.RowKit
theorem inter_nil : ∀ ls : List (List UInt8), [].intercalate ls = ls.flatten
  | [] => rfl
  | [a] => by simp [List.intercalate]
  | a :: b :: ls => by
    have := inter_nil (b :: ls);simp [List.intercalate, List.intersperse] at this ⊢;exact this
theorem strsOf_map : ∀ ls : List (List UInt8), strsOf (ls.map .str) = some ls
  | [] => rfl
  | a :: ls => by simp [strsOf, strsOf_map ls]
theorem run160 (m : Nat) (ls : List (List UInt8)) (sep : List UInt8) (h : ls.length ≤ 140737488355328) (h2 : (Lib.join ls sep).length ≤ 140737488355328) : run (m + 1) 189 [.slice false 1 (ls.map .str), .str sep] [] = some (.str (Lib.join ls sep), []) := by
  show pJoin (run m) [.slice false 1 (ls.map .str), .str sep] [] = _;unfold pJoin;simp [strsOf_map, h, h2]
theorem e160 (ls : List (List UInt8)) (sep : List UInt8) (h : ls.length ≤ 140737488355328) (h2 : (Lib.join ls sep).length ≤ 140737488355328) : E 189 [.slice false 1 (ls.map .str), .str sep] [] (.str (Lib.join ls sep)) [] := ev_at 1 fun m _ => run160 m ls sep h h2
theorem e160n (sep : List UInt8) : E 189 [.nils, .str sep] [] (.str []) [] := ev_at 1 fun _ _ => rfl
theorem R134 : Rn 165 a134 := fun _ _ _ => rfl
theorem r134 {es : List PV} {s : List UInt8} (h : E 189 [.slice false 1 es, .str []] [] (.str s) []) : E 165 [.slice false 1 es] [] (.str s) [] := rule R134 [st 2 (oC h)] (by kernel_rfl)
theorem e134 (ls : List (List UInt8)) (h2 : ls.flatten.length ≤ 140737488355328) (h : ls.length ≤ 140737488355328 := by simp) : E 165 [.slice false 1 (ls.map .str)] [] (.str ls.flatten) [] := by
  have hj : Lib.join ls [] = ls.flatten := inter_nil ls;have := e160 ls [] h (by rw [hj]; exact h2)
  rw [hj] at this;exact r134 this
theorem e137 (l s : List UInt8) (h : l.length + s.length ≤ 4294967296) : E 38 [.ref 0 0, .str s] [[.bld 63 5 l]] (.tuple [.int .i64 (s.length : Nat), .nili]) [[.bld 63 5 (l ++ s)]] := ev_at 1 fun m _ => by
  show pWrite (run m) [.ref 0 0, .str s] [[.bld 63 5 l]] = _;simp [pWrite, h]
theorem e139 (l : List UInt8) (h : l.isEmpty = false) : E 40 [.ref 0 0] [[.bld 63 5 l]] (.str l) [[.dead]] := ev_at 1 fun m _ => by
  show pString (run m) [.ref 0 0] [[.bld 63 5 l]] = _;have h' : ¬ l = [] := by simpa using h
  simp [pString, h']
theorem oPut (ls : List (List UInt8)) (σ : Sto) (h2 : ls.flatten.length ≤ 140737488355328) (h : ls.length ≤ 140737488355328 := by simp) : OpEv pur run (.c 165) [.slice true 1 (ls.map .str)] σ [some (.str ls.flatten)] σ := op_c (e134 ls h2 h) rfl rfl rfl rfl
theorem oWr (l s : List UInt8) (h : l.length + s.length ≤ 4294967296) : OpEv pur run (.w (.call 38)) [.ref 0 0, .str s] [[.bld 63 5 l]] [some (.tuple [.int .i64 (s.length : Nat), .nili])] [[.bld 63 5 (l ++ s)]] := op_wc (e137 l s h) rfl rfl rfl rfl
theorem oStr (l : List UInt8) (h : l.isEmpty = false) : OpEv pur run (.w (.call 40)) [.ref 0 0] [[.bld 63 5 l]] [some (.str l)] [[.dead]] := op_wc (e139 l h) rfl rfl rfl rfl
theorem e162 (d : Nat) (h : d ≤ 1048576) : E 14 [.str [32, 32], .int .i64 (d : Nat)] [] (.str (Lib.repeatL [32, 32] d)) [] := ev_at 1 fun m _ => by
  show pRepeat (run m) [.str [32, 32], .int .i64 (d : Nat)] [] = _;have h1 : (d : Int) ≤ 1048576 := by omega
  have h2 : 2 * d ≤ 140737488355328 := by omega
  simp [pRepeat, h1, h2]
def writersMap : PV := .mapv [.i .i64 2, .i .i64 3, .i .i64 4, .i .i64 5, .i .i64 7, .i .i64 8, .i .i64 9, .i .i64 10, .i .i64 11, .i .i64 12, .i .i64 13, .i .i64 14, .i .i64 15, .i .i64 16, .i .i64 17, .i .i64 18, .i .i64 19, .i .i64 20, .i .i64 21, .i .i64 22, .i .i64 23, .i .i64 24, .i .i64 25, .i .i64 26, .i .i64 27, .i .i64 28, .i .i64 29]
  [.func 107 [] [], .func 108 [] [], .func 109 [] [], .func 110 [] [], .func 109 [] [], .func 111 [] [], .func 112 [] [], .func 113 [] [], .func 114 [] [], .func 115 [] [], .func 116 [] [], .func 117 [] [], .func 118 [] [], .func 119 [] [], .func 120 [] [], .func 121 [] [], .func 122 [] [], .func 112 [] [], .func 123 [] [], .func 124 [] [], .func 125 [] [], .func 112 [] [], .func 112 [] [], .func 126 [] [], .func 127 [] [], .func 128 [] [], .func 129 [] []]
theorem run59 (m : Nat) : run (m + 1) 63 [] [] = some (writersMap, []) := by kernel_rfl
theorem e59 : E 63 [] [] writersMap [] := ev_at 1 fun m _ => run59 m
end Go.Abs.Z

namespace Go.Abs.Z
open Go.Proofs Go.RowKit
def AqL : PV := .mapv [.i .i64 0, .i .i64 2, .i .i64 3, .i .i64 4, .i .i64 5, .i .i64 6, .i .i64 7, .i .i64 8, .i .i64 9, .i .i64 10, .i .i64 11, .i .i64 12, .i .i64 13, .i .i64 14, .i .i64 15, .i .i64 16, .i .i64 17, .i .i64 18, .i .i64 19, .i .i64 20, .i .i64 21, .i .i64 22, .i .i64 23, .i .i64 24, .i .i64 25, .i .i64 26, .i .i64 27, .i .i64 28, .i .i64 29]
  [.agg [.func 159 [] [], .nils, .nilf, .int .i64 0],
   .agg [.func 159 [] [], .nils, .func 183 [] [.vptr (.slice false 1 [.int .i64 3, .int .i64 5])], .int .i64 0],
   .agg [.func 154 [] [], .nils, .func 183 [] [.vptr (.slice false 1 [.int .i64 4])], .int .i64 1],
   .agg [.func 154 [] [], .slice false 1 [.func 183 [] [.vptr (.slice false 1 [.int .i64 9])]], .nilf, .int .i64 0],
   .agg [.func 154 [] [], .slice false 1 [.func 183 [] [.vptr (.slice false 1 [.int .i64 6])], .func 185 [] [.vptr (.func 157 [] [])], .func 183 [] [.vptr (.slice false 1 [.int .i64 11])]], .nilf, .int .i64 0],
   .agg [.func 159 [] [], .nils, .func 183 [] [.vptr (.slice false 1 [.int .i64 7, .int .i64 8])], .int .i64 0],
   .agg [.func 154 [] [], .slice false 1 [.func 185 [] [.vptr (.func 157 [] [])]], .nilf, .int .i64 0],
   .agg [.func 154 [] [], .slice false 1 [.func 185 [] [.vptr (.func 157 [] [])]], .nilf, .int .i64 0],
   .agg [.func 160 [] [.vptr (.func 186 [] [.vptr (.slice false 1 [.str [105, 110, 116], .str [98, 111, 111, 108]])]), .vptr (.func 154 [] [])], .nils, .nilf, .int .i64 0],
   .agg [.func 161 [] [], .nils, .nilf, .int .i64 0],
   .agg [.func 159 [] [], .nils, .func 61 [] [], .int .i64 0],
   .agg [.func 154 [] [], .slice false 1 [.func 185 [] [.vptr (.func 157 [] [])], .func 100 [] []], .nilf, .int .i64 0],
   .agg [.func 159 [] [], .slice false 1 [.func 162 [] [], .func 100 [] []], .nilf, .int .i64 0],
   .agg [.func 159 [] [], .slice false 1 [.func 100 [] [], .func 183 [] [.vptr (.slice false 1 [.int .i64 11])], .func 185 [] [.vptr (.func 183 [] [.vptr (.slice false 1 [.int .i64 11, .int .i64 14])])]], .nilf, .int .i64 0],
   .agg [.func 159 [] [], .slice false 1 [.func 100 [] [], .func 183 [] [.vptr (.slice false 1 [.int .i64 11])]], .nilf, .int .i64 0],
   .agg [.func 154 [] [], .slice false 1 [.func 100 [] [], .func 100 [] [], .func 183 [] [.vptr (.slice false 1 [.int .i64 11])]], .nilf, .int .i64 0],
   .agg [.func 159 [] [], .slice false 1 [.func 185 [] [.vptr (.func 100 [] [])]], .nilf, .int .i64 0],
   .agg [.func 159 [] [], .slice false 1 [.func 100 [] []], .nilf, .int .i64 0],
   .agg [.func 154 [] [], .nils, .func 100 [] [], .int .i64 0],
   .agg [.func 154 [] [], .nils, .nilf, .int .i64 0],
   .agg [.func 159 [] [], .slice false 1 [.func 183 [] [.vptr (.slice false 1 [.int .i64 20])], .func 100 [] []], .nilf, .int .i64 0],
   .agg [.func 154 [] [], .slice false 1 [.func 183 [] [.vptr (.slice false 1 [.int .i64 20])]], .nilf, .int .i64 0],
   .agg [.func 159 [] [], .slice false 1 [.func 183 [] [.vptr (.slice false 1 [.int .i64 20])]], .nilf, .int .i64 0],
   .agg [.func 161 [] [], .nils, .nilf, .int .i64 0],
   .agg [.func 186 [] [.vptr (.slice false 1 [.str [116, 114, 117, 101], .str [102, 97, 108, 115, 101]])], .nils, .nilf, .int .i64 0],
   .agg [.func 159 [] [], .nils, .func 100 [] [], .int .i64 1],
   .agg [.func 154 [] [], .nils, .func 100 [] [], .int .i64 0],
   .agg [.func 186 [] [.vptr (.slice false 1 [.str [45], .str [110, 111, 116]])], .slice false 1 [.func 100 [] []], .nilf, .int .i64 0],
   .agg [.func 186 [] [.vptr (.slice false 1 [.str [111, 114], .str [97, 110, 100], .str [61, 61], .str [33, 61], .str [60], .str [60, 61], .str [62], .str [62, 61], .str [43], .str [45], .str [42], .str [47], .str [37]])], .slice false 1 [.func 100 [] [], .func 100 [] []], .nilf, .int .i64 0]]
theorem run81 (m : Nat) : run (m + 6) 104 [] [] = some (AqL, []) := by kernel_rfl
theorem e81 : E 104 [] [] AqL [] := ev_at 6 fun m _ => run81 m
def Fv (F : PV) : Prop := ∃ f cs, F = .func f [] cs ∧ cs.all PV.flat0 = true
def FnEv (F x r : PV) : Prop := ∀ σ, OpEv pur run (.w .calld) [F, x] σ [some r] σ
section
variable {F : PV} {σ : Sto}
theorem Fv.own0 (h : Fv F) : F.own0 = F := by obtain ⟨f, cs, rfl, _⟩ := h; rfl
theorem Fv.Aq0 (h : Fv F) : F.Aq0 = F := by obtain ⟨f, cs, rfl, _⟩ := h; rfl
theorem Fv.free (h : Fv F) : F.free = true := by obtain ⟨f, cs, rfl, _⟩ := h; rfl
theorem Fv.flat (h : Fv F) : F.flat = true := by obtain ⟨f, cs, rfl, h⟩ := h; simp [PV.flat, h]
theorem Fv.one (h : Fv F) : F.one = true := by obtain ⟨f, cs, rfl, _⟩ := h; rfl
theorem Fv.a (h : Fv F) : F.own0 = F ∧ F.Aq0 = F ∧ F.free = true ∧ F.flat = true ∧ F.one = true := ⟨h.own0, h.Aq0, h.free, h.flat, h.one⟩
theorem mv_pv (h : Fv F) : semP .mv [F] = some [some F] := mv_of h.free h.Aq0
theorem ld_pv (h : Fv F) : semR (.ld 1 false) [.vptr F] σ = some [some F] := ld_of (by obtain ⟨f, cs, rfl, _⟩ := h; rfl) h.free h.Aq0
theorem fa_pv {cs : List PV} {off : Nat} (h : Fv F) (hc : cs[off]? = some F) : semP (.fa off 1 false) [.vptr (.agg cs)] = some [some (.vptr F)] := by
  obtain ⟨f, ws, rfl, _⟩ := h
  have h : faV off 1 false (.vptr (.agg cs)) = some (.vptr (.func f [] ws)) := by
    show (sub (.agg cs) off 1 false).map (fun x => PV.vptr x) = _
    have : sub (.agg cs) off 1 false = some (.func f [] ws) := by
      unfold sub;simp only [PV.cells, hc];rfl
    rw [this]; rfl
  show (faV off 1 false (.vptr (.agg cs))).map (fun v => [some v]) = _
  rw [h]; rfl
theorem fv_eql (h : Fv F) : semP (.bin .eql 2) [F, .nilf] = some [some (.bool false)] := by obtain ⟨f, cs, rfl, _⟩ := h; rfl
theorem fv_neq (h : Fv F) : semP (.bin .neq 2) [F, .nilf] = some [some (.bool true)] := by obtain ⟨f, cs, rfl, _⟩ := h; rfl
theorem idx_fns {o : Bool} {s : Nat} {es : List PV} (j : Nat) (h : es[j]? = some F) : semP (.idx s) [.slice o s es, .int .i64 (j : Nat)] = some [some (.vptr F)] := p_idx _ _ _ _ _ h
theorem idx_ints {o : Bool} {s : Nat} {xs : List Int} {x : Int} (j : Nat) (h : xs[j]? = some x) : semP (.idx s) [.slice o s (xs.map (.int .i64)), .int .i64 (j : Nat)] = some [some (.vptr (.int .i64 x))] := p_idx _ _ _ _ _ (by rw [List.getElem?_map, h]; rfl)
theorem len_ints (o : Bool) (s : Nat) (ts : List Int) : semP (.len false) [.slice o s (ts.map (.int .i64))] = some [some (.int .i64 (ts.length : Nat))] := by
  show some [some (PV.int .i64 ((ts.map (PV.int .i64)).length : Nat))] = _;rw [List.length_map]
theorem own0_nilf : PV.nilf.own0 = .nilf := rfl
theorem flat0_nilf : PV.nilf.flat0 = true := rfl
structure Ok0 (F : PV) : Prop where
  own0 : F.own0 = F
  Aq0 : F.Aq0 = F
  free : F.free = true
  flat : F.flat = true
  one : F.one = true
theorem Fv.ok (h : Fv F) : Ok0 F := ⟨h.own0, h.Aq0, h.free, h.flat, h.one⟩
theorem Aj8 : Ok0 .nils := ⟨rfl, rfl, rfl, rfl, rfl⟩
theorem AxT : Ok0 .nilf := ⟨rfl, rfl, rfl, rfl, rfl⟩
theorem ok_sl (n : Nat) (es : List PV) : Ok0 (.slice false n es) := ⟨rfl, rfl, rfl, rfl, rfl⟩
theorem ruleC {c : ACode} {ff : FF} {σ σ' : Sto} {e : AExit} (l : List Stp) (h : (tRun pur run c ff σ (tapeOf l) True).map (fun o => (o.e, o.σ, o.q)) = some (e, σ', qOf l True)) : Ax6 pur run c ff σ e [] σ' := by
  obtain ⟨o, h1, h2⟩ := Option.map_eq_some_iff.1 h;obtain ⟨e1, f1, s1, t1, q1⟩ := o;cases h2;obtain ⟨N, H⟩ := (Aj6 c h1).2 (qOf_ok l trivial);exact ⟨N, fun n hn ff0 h0 => by obtain ⟨x, a, _⟩ := H n hn ff0 h0; exact ⟨x, a, fun _ _ h => by cases h⟩⟩
theorem sti_of {n : Nat} {v x : PV} (h : v.cells.length = n ∧ v.flat = true ∧ v.ones = true ∧ v.Aq0 = x) : semP (.sti n) [.hole n, v] = some [some (.vptr x)] := by
  show (if _ then _ else _) = _
  rw [if_pos ⟨rfl, h.1, h.2.1, h.2.2.1⟩, h.2.2.2]
theorem sti_agg {n : Nat} {v x : PV} (h : v.cells.length = n ∧ v.flat = true ∧ v.ones = true ∧ v.Aq0 = x) : semP (.sti n) [.hole n, v] = some [some (.vptr x)] := sti_of h
theorem ld_agg {n : Nat} {cs : List PV} {x : PV} (h : cs.length = n ∧ (PV.agg cs).Aq0 = x) : semR (.ld n true) [.vptr (.agg cs)] σ = some [some x] := ld_of (by simp [fits, h.1]) rfl h.2
theorem op_q {p : Prop} (h : p) : p := h
end
attribute [simp] own0_nilf flat0_nilf
end Go.Abs.Z
