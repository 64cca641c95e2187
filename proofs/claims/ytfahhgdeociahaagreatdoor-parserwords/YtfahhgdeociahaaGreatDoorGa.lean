/- A part of the proof: G0 G1 G2 G5. -/
import Derived.Test.YtfahhgdeociahaaGreatDoorPa
import Derived.Test.YtfahhgdeociahaaGreatDoorKj

set_option linter.unusedVariables false
set_option linter.unusedSimpArgs false
namespace Go.Abs.Z
open Go.Proofs Go.RowKit
inductive Tr where
  | mk (kind : Int) (text : List UInt8) (st en : Int) (none : Bool) (kids : List Tr)
  deriving Inhabited
mutual
def Tr.pv : Tr → PV
  | .mk k t a e n ks => .agg [.int .i64 k, .str t, .int .i64 a, .int .i64 e, if n then .nils else .slice false 5 (Tr.pvs ks)]
def Tr.pvs : List Tr → List PV
  | [] => []
  | t :: ts => t.pv :: Tr.pvs ts
end
mutual
def Tr.wf : Tr → Prop
  | .mk k t a e n ks => (n = true → ks = []) ∧ Tr.wfs ks
def Tr.wfs : List Tr → Prop
  | [] => True
  | t :: ts => t.wf ∧ Tr.wfs ts
end
theorem Tr.Aj5 : ∀ ks : List Tr, Tr.pvs ks = ks.map Tr.pv
  | [] => rfl
  | t :: ts => by rw [Tr.pvs, Tr.Aj5 ts]; rfl
def Tr.kids : Tr → List Tr
  | .mk _ _ _ _ _ ks => ks
def Tr.kp : Tr → PV
  | .mk _ _ _ _ n ks => if n then .nils else .slice false 5 (Tr.pvs ks)
def Tr.kind : Tr → Int
  | .mk k _ _ _ _ _ => k
def Tr.text : Tr → List UInt8
  | .mk _ t _ _ _ _ => t
def Tr.st : Tr → Int
  | .mk _ _ a _ _ _ => a
def Tr.en : Tr → Int
  | .mk _ _ _ e _ _ => e
def nd (k : Int) (t : List UInt8) (a e : Int) (kp : PV) : PV := .agg [.int .i64 k, .str t, .int .i64 a, .int .i64 e, kp]
def okKid (kp : PV) : Prop := kp.own0 = kp ∧ kp.isAgg = false ∧ kp.isSelf = false ∧ kp.flat = true
theorem nd_disown {k a e : Int} {t : List UInt8} {kp : PV} (h : okKid kp) : (nd k t a e kp).Aq0 = nd k t a e kp := by
  show PV.agg [.int .i64 k, .str t, .int .i64 a, .int .i64 e, kp.own0] = _;rw [h.1]; rfl
theorem p_fa4 {k a e : Int} {t : List UInt8} {kp : PV} (h : okKid kp) : semP (.fa 4 1 false) [.vptr (nd k t a e kp)] = some [some (.vptr kp)] := by
  simp [semP, faV, sub, nd, PV.cells, h.2.1, h.2.2.1]
theorem Tr.pv_nd (T : Tr) : T.pv = nd T.kind T.text T.st T.en T.kp := by cases T; rfl
theorem Tr.kp_ok (T : Tr) : okKid T.kp := by
  obtain ⟨k, t, a, e, n, ks⟩ := T;show okKid (if n then .nils else .slice false 5 (Tr.pvs ks))
  cases n
  · exact ⟨rfl, rfl, rfl, rfl⟩
  · exact ⟨rfl, rfl, rfl, rfl⟩
theorem Tr.AzV (T : Tr) : T.pv.Aq0 = T.pv := by rw [Tr.pv_nd, nd_disown T.kp_ok]
theorem Tr.pv_flat (T : Tr) : T.pv.flat = true := by rw [Tr.pv_nd]; rfl
theorem Tr.pv_free (T : Tr) : T.pv.free = true := by rw [Tr.pv_nd]; rfl
theorem Tr.pv_okc (T : Tr) : T.pv.okc = true := by rw [Tr.pv_nd]; rfl
theorem Tr.Bq0 (T : Tr) : T.pv.cells.length = 5 := by rw [Tr.pv_nd]; rfl
theorem Tr.pv_ones (T : Tr) : T.pv.ones = true := by
  obtain ⟨k, t, a, e, n, ks⟩ := T;cases n <;> rfl
theorem p_mv (v : PV) (h : v.free = true) : semP .mv [v] = some [some v.Aq0] := by simp [semP, h]
theorem p_bx (v : PV) (h : v.flat = true) : semP .bx [v] = some [some (.vptr v.Aq0)] := by simp [semP, h]
theorem p_idx (o : Bool) (s j : Nat) (x : List PV) (v : PV) (h : x[j]? = some v) : semP (.idx s) [.slice o s x, .int .i64 j] = some [some (.vptr v)] := by
  have : (0 : Int) ≤ (j : Int) := by omega
  simp [semP, idxV, h, this]
theorem Aq6 (s : List UInt8) (j : Nat) (c : UInt8) (h : s[j]? = some c) : semP .sidx [.str s, .int .i64 j] = some [some (.int .u8 c.toNat)] := by
  have : (0 : Int) ≤ (j : Int) := by omega
  simp [semP, sidxV, h, this]
theorem p_ssl (s : List UInt8) (l h : Nat) (h1 : l ≤ h) (h2 : h ≤ s.length) : semP (.ssl true true) [.str s, .int .i64 (l : Nat), .int .i64 (h : Nat)] = some [some (.str ((s.drop l).take (h - l)))] := by
  have h0 : (0 : Int) ≤ (l : Int) := by omega
  have h1' : (l : Int) ≤ (h : Int) := by omega
  have h2' : (h : Int) ≤ (s.length : Int) := by omega
  simp [semP, cutB, h1', h2']
theorem k_get (s t : Nat) (v : Option PV) (ff : FF) : getK ((s, v) :: ff) t = if s = t then v else getK ff t := by
  by_cases h : s = t
  · subst h;rw [if_pos rfl, AkT];have : Nat.beq s s = true := Nat.beq_refl _;simp [this]
  · rw [if_neg h, AkT];cases hb : Nat.beq s t with
    | false => simp [hb]
    | true => exact absurd (Nat.eq_of_beq_eq_true hb) h
section
variable (k : IntKind) (x : Int) (s : List UInt8) (b : Bool) (o : Bool) (z : Nat) (l : List PV)
theorem vd1 : (PV.int k x).Aq0 = .int k x := rfl
theorem vd2 : (PV.str s).Aq0 = .str s := rfl
theorem vd3 : (PV.bool b).Aq0 = .bool b := rfl
theorem vd4 : PV.nils.Aq0 = .nils := rfl
theorem vd5 : (PV.slice o z l).Aq0 = .slice false z l := rfl
theorem vf1 : (PV.int k x).free = true := rfl
theorem vf2 : (PV.str s).free = true := rfl
theorem vf3 : (PV.bool b).free = true := rfl
theorem vf4 : PV.nils.free = true := rfl
theorem vf5 : (PV.slice o z l).free = true := rfl
theorem vg1 : (PV.int k x).flat = true := rfl
theorem vg2 : (PV.str s).flat = true := rfl
theorem vg3 : (PV.bool b).flat = true := rfl
theorem vg4 : PV.nils.flat = true := rfl
theorem vg5 : (PV.slice o z l).flat = true := rfl
end
attribute [simp] k_get vd1 vd2 vd3 vd4 vd5 vf1 vf2 vf3 vf4 vf5 vg1 vg2 vg3 vg4 vg5
end Go.Abs.Z

namespace Go.Abs
open Go.RowKit
def Sub (a b : FF) : Prop := ∀ t v, getK a t = some v → getK b t = some v
theorem Sub.refl (a : FF) : Sub a a := fun _ _ h => h
theorem Sub.trans {a b c : FF} (h : Sub a b) (k : Sub b c) : Sub a c := fun t v x => k t v (h t v x)
noncomputable def pickF (ls : List Nat) (ff : FF) : FF := List.rec (motive := fun _ => FF) [] (fun t _ ih => (t, getK ff t) :: ih) ls
theorem AkK : ∀ (ls : List Nat) (ff : FF), Sub (pickF ls ff) ff
  | [], _, _, _, h => by cases h
  | s :: ls, ff, t, v, h => by
    have h' : cond (Nat.beq s t) (getK ff s) (getK (pickF ls ff) t) = some v := h;cases hb : Nat.beq s t with
    | true => rw [hb] at h'; rw [← Nat.eq_of_beq_eq_true hb]; exact h'
    | false => rw [hb] at h'; exact AkK ls ff t v h'
section
variable (pur : FuncId → Bool) (R : Nat → Caller)
def OpEv (k : AK) (vs : List PV) (σ : Sto) (rs : List (Option PV)) (σ' : Sto) : Prop := ∃ N, ∀ n, N ≤ n → sem pur (R n) k vs σ = some (rs, σ')
def Aw2 (c : ACode) (ff : FF) (σ : Sto) (e : AExit) (ff' : FF) (σ' : Sto) : Prop :=
  ∃ N, ∀ n, N ≤ n → ∀ ff0, Sub ff ff0 → ∃ ff1, arunK pur (R n) n c ff0 σ = some (e, ff1, σ') ∧ Sub ff' ff1
def AzJ (keep : List Bool) (c : ACode) (ff : FF) (σ : Sto) (e : AExit) (ff' : FF) (σ' : Sto) : Prop :=
  ∃ N, ∀ n, N ≤ n → ∀ m, N ≤ m → ∀ ff0, Sub ff ff0 → ∃ ff1, iterK keep (arunK pur (R n) n c) m ff0 σ = some (e, ff1, σ') ∧ Sub ff' ff1
def Ev (f : FuncId) (args : List PV) (σ : Sto) (r : PV) (σ' : Sto) : Prop := ∃ N, ∀ n, N ≤ n → R n f args σ = some (r, σ')
inductive Ans where
  | res (rs : List (Option PV)) (σ : Sto)
  | grd (d : Bool)
  | grdr (rs : List (Option PV)) (σ : Sto)
  | br (b : Bool)
  | loop (ls : List Nat) (e : AExit) (ff : FF) (σ : Sto)
abbrev Tape := List (Nat × Ans)
structure TO where
  e : AExit
  ff : FF
  σ : Sto
  tp : Tape
  q : Prop
abbrev TX := Option TO
noncomputable section
def Bq2 : Caller := fun _ _ _ => none
def finT (d : Option Nat) (ex clr : List Nat) (ff : FF) (rs : List (Option PV)) (σ : Sto) : RFS :=
  cond (Nat.beq rs.length (d.toList.length + ex.length)) (some (putK (d.toList ++ ex ++ clr) (rs ++ clr.map fun _ => none) ff, σ)) (cond (d.isNone && ex.isEmpty && clr.isEmpty) (some (ff, σ)) none)
def toTX (tp : Tape) (q : Prop) (r : RFS) : TX := Option.rec (motive := fun _ => TX) none (fun r => some ⟨.normal, r.1, r.2, tp, q⟩) r
def tSpec (o : AOp) (ff : FF) (σ : Sto) (tp : Tape) (q : Prop) (a : Ans) : TX :=
  Ans.rec (motive := fun _ => TX)
    (fun rs σ1 => Option.rec (motive := fun _ => TX) (Option.rec (motive := fun _ => TX) none (fun vs => toTX tp (OpEv pur R o.k vs σ rs σ1 ∧ q) (finT o.dst o.ex o.clr ff rs σ1)) (evalK ff o.args)) (fun _ => none) o.guard)
    (fun d => Option.rec (motive := fun _ => TX) none (fun g => toTX tp (AxX (getK ff g.1) g.2 = some d ∧ q) (cond d (runK' pur Bq2 o ff σ) (cond (o.ex.isEmpty && o.clr.isEmpty) (some (putK o.wr [some AjE] ff, σ)) none))) o.guard)
    (fun rs σ1 => Option.rec (motive := fun _ => TX) none (fun g => Option.rec (motive := fun _ => TX) none (fun vs => toTX tp (OpEv pur R o.k vs σ rs σ1 ∧ AxX (getK ff g.1) g.2 = some true ∧ q) (finT o.dst o.ex o.clr ff rs σ1)) (evalK ff o.args)) o.guard)
    (fun _ => none) (fun _ _ _ _ => none) a
def tCase {α : Type} (tp : Tape) (plain : Tape → α) (spec : Tape → Ans → α) : α :=
  List.rec (motive := fun _ => α) (plain []) (fun x tp _ => Nat.rec (motive := fun _ => α) (spec tp x.2) (fun n _ => plain ((n, x.2) :: tp)) x.1) tp
def tOp (o : AOp) (ff : FF) (σ : Sto) (tp : Tape) (q : Prop) : TX :=
  tCase tp (fun tp => toTX tp q (execK pur Bq2 o ff σ)) (fun tp a => tSpec pur R o ff σ tp q a)
def bindT (r : TX) (k : FF → Sto → Tape → Prop → TX) : TX :=
  Option.rec (motive := fun _ => TX) none (fun r => cond (Ax9 r.e) (k r.ff r.σ r.tp r.q) (some r)) r
def tOps (os : List AOp) : FF → Sto → Tape → Prop → TX :=
  List.rec (motive := fun _ => FF → Sto → Tape → Prop → TX) (fun ff σ tp q => some ⟨.normal, ff, σ, tp, q⟩) (fun o _ ih ff σ tp q => bindT (tOp pur R o ff σ tp q) ih) os
def tCond (c : AArg) (x y : FF → Sto → Tape → Prop → TX) (ff : FF) (σ : Sto) (tp : Tape) (q : Prop) : TX :=
  tCase tp (fun tp => match evalK ff [c] with
    | some [.bool b] => cond b (x ff σ tp q) (y ff σ tp q)
    | _ => none)
    (fun tp a => Ans.rec (motive := fun _ => TX) (fun _ _ => none) (fun _ => none) (fun _ _ => none) (fun b => cond b (x ff σ tp (evalK ff [c] = some [.bool b] ∧ q)) (y ff σ tp (evalK ff [c] = some [.bool b] ∧ q))) (fun _ _ _ _ => none) a)
def tBlock (id : Nat) (r : TX) : TX :=
  Option.rec (motive := fun _ => TX) none (fun r => AExit.rec (motive := fun _ => TX) (some r) (fun i => cond (Nat.beq i id) (some ⟨.normal, r.ff, r.σ, r.tp, r.q⟩) (some r)) (some r) r.e) r
def tLoop (keep : List Bool) (c : ACode) (ff : FF) (σ : Sto) (tp : Tape) (q : Prop) : TX :=
  tCase tp (fun _ => none) (fun tp a => Ans.rec (motive := fun _ => TX) (fun _ _ => none) (fun _ => none) (fun _ _ => none) (fun _ => none)
    (fun ls e ff1 σ1 => some ⟨e, ff1, σ1, tp, AzJ pur R keep c (pickF ls (AqR ff keep 0)) σ e ff1 σ1 ∧ q⟩) a)
def tRun (c : ACode) : FF → Sto → Tape → Prop → TX :=
  ACode.rec (motive := fun _ => FF → Sto → Tape → Prop → TX)
    (fun ff σ tp q => some ⟨.normal, ff, σ, tp, q⟩)
    (fun ops => tOps pur R ops)
    (fun _ _ iha ihb ff σ tp q => bindT (iha ff σ tp q) ihb)
    (fun c _ _ iht ihe => tCond c iht ihe)
    (fun id _ ih ff σ tp q => tBlock id (ih ff σ tp q))
    (fun keep c _ => tLoop pur R keep c)
    (fun id ff σ tp q => some ⟨.exit id, ff, σ, tp, q⟩)
    (fun ff σ tp q => some ⟨.ret, ff, σ, tp, q⟩) c
end
end
section
variable {pur : FuncId → Bool} {R : Nat → Caller} {ff ff' ff0 : FF} {σ σ' : Sto} {tp tp' : Tape} {q q' : Prop} {e : AExit}
theorem AzH (h : Sub ff ff0) : ∀ (zs : List AArg) (vs : List PV), evalK ff zs = some vs → evalK ff0 zs = some vs
  | [], vs, he => he
  | .slot t :: zs, vs, he => by
    have he' : (Option.rec (motive := fun _ => Option (List PV)) none (fun v => Option.rec (motive := fun _ => Option (List PV)) none (fun vs => some (v :: vs)) (evalK ff zs)) (getK ff t)) = some vs := he
    show (Option.rec (motive := fun _ => Option (List PV)) none (fun v => Option.rec (motive := fun _ => Option (List PV)) none (fun vs => some (v :: vs)) (evalK ff0 zs)) (getK ff0 t)) = some vs
    cases hg : getK ff t with
    | none => rw [hg] at he'; cases he'
    | some v =>
      rw [hg] at he';cases hr : evalK ff zs with
      | none => rw [hr] at he'; cases he'
      | some ws =>
        rw [hr] at he';rw [h t v hg, AzH h zs ws hr]; exact he'
  | .val v :: zs, vs, he => by
    have he' : (Option.rec (motive := fun _ => Option (List PV)) none (fun vs => some (v :: vs)) (evalK ff zs)) = some vs := he
    show (Option.rec (motive := fun _ => Option (List PV)) none (fun vs => some (v :: vs)) (evalK ff0 zs)) = some vs
    cases hr : evalK ff zs with
    | none => rw [hr] at he'; cases he'
    | some ws =>
      rw [hr] at he';rw [AzH h zs ws hr]; exact he'
theorem Bj0 : ∀ (ts : List Nat) (vs : List (Option PV)) {ff ff0 : FF}, Sub ff ff0 → Sub (putK ts vs ff) (putK ts vs ff0)
  | [], vs, ff, ff0, h => by cases vs <;> exact h
  | t :: ts, [], ff, ff0, h => h
  | t :: ts, v :: vs, ff, ff0, h => by
    refine Bj0 ts vs (ff := (t, v) :: ff) (ff0 := (t, v) :: ff0) fun s x hx => ?_
    rw [AkT] at hx ⊢;cases hb : Nat.beq t s with
    | true => simp only [hb, cond_true] at hx ⊢; exact hx
    | false => simp only [hb, cond_false] at hx ⊢; exact h s x hx
theorem BjF {d : Option Nat} {ex clr : List Nat} {rs : List (Option PV)} (h : Sub ff ff0) (he : finT d ex clr ff rs σ = some (ff', σ')) : ∃ ff1, finT d ex clr ff0 rs σ = some (ff1, σ') ∧ Sub ff' ff1 := by
  unfold finT at he ⊢;cases hb : Nat.beq rs.length (d.toList.length + ex.length) with
  | true => rw [hb] at he; cases he; exact ⟨_, rfl, Bj0 _ _ h⟩
  | false =>
    rw [hb] at he;cases hc : (d.isNone && ex.isEmpty && clr.isEmpty) with
    | true => rw [hc] at he; cases he; exact ⟨_, rfl, h⟩
    | false => rw [hc] at he; cases he
theorem sem_noCall {call : Caller} {k : AK} {vs : List PV} {x : List (Option PV) × Sto} (h : sem pur Bq2 k vs σ = some x) : sem pur call k vs σ = some x := by
  cases k with
  | p k => exact h
  | r k => exact h
  | c f =>
    simp only [sem, Bq2] at h
    split at h <;> simp at h
  | w k =>
    simp only [sem] at h ⊢;unfold semW at h ⊢
    split at h <;> first
      | exact h
      | (simp only [Bq2] at h; repeat' split at h; all_goals simp at h)
theorem runK_of {call : Caller} {o : AOp} {vs : List PV} {rs : List (Option PV)} {σ1 : Sto} (hv : evalK ff o.args = some vs) (hs : sem pur call o.k vs σ = some (rs, σ1)) : runK' pur call o ff σ = finT o.dst o.ex o.clr ff rs σ1 := by
  unfold runK';rw [hv]; dsimp only; rw [hs]; rfl
theorem runK_inv {call : Caller} {o : AOp} (h : runK' pur call o ff σ = some (ff', σ')) : ∃ vs rs σ1, evalK ff o.args = some vs ∧ sem pur call o.k vs σ = some (rs, σ1) ∧ finT o.dst o.ex o.clr ff rs σ1 = some (ff', σ') := by
  unfold runK' at h;cases hv : evalK ff o.args with
  | none => rw [hv] at h; cases h
  | some vs =>
    rw [hv] at h;dsimp only at h;cases hs : sem pur call o.k vs σ with
    | none => rw [hs] at h; cases h
    | some r =>
      rw [hs] at h;exact ⟨vs, r.1, r.2, rfl, hs, h⟩
theorem Bz9 {call : Caller} {o : AOp} (h : Sub ff ff0) (he : runK' pur Bq2 o ff σ = some (ff', σ')) : ∃ ff1, runK' pur call o ff0 σ = some (ff1, σ') ∧ Sub ff' ff1 := by
  obtain ⟨vs, rs, σ1, h1, h2, h3⟩ := runK_inv he;rw [runK_of (AzH h _ _ h1) (sem_noCall h2)];exact BjF h h3
theorem Ak1 {g : Nat} {b d : Bool} (h : Sub ff ff0) (he : AxX (getK ff g) b = some d) : AxX (getK ff0 g) b = some d := by
  cases hg : getK ff g with
  | none => rw [hg] at he; simp [AxX] at he
  | some v => rw [h g v hg, ← hg]; exact he
theorem Aj9 {call : Caller} {o : AOp} {g : Nat × Bool} {d : Bool} (hg : o.guard = some g) (hw : AxX (getK ff g.1) g.2 = some d) :
    execK pur call o ff σ = cond d (runK' pur call o ff σ) (cond (o.ex.isEmpty && o.clr.isEmpty) (some (putK o.wr [some AjE] ff, σ)) none) := by
  unfold execK;rw [hg]; dsimp only; rw [hw]
theorem BjR {o : AOp} (h : Sub ff ff0) (he : cond (o.ex.isEmpty && o.clr.isEmpty) (some (putK o.wr [some AjE] ff, σ)) none = some (ff', σ')) :
    ∃ ff1, cond (o.ex.isEmpty && o.clr.isEmpty) (some (putK o.wr [some AjE] ff0, σ)) none = some (ff1, σ') ∧ Sub ff' ff1 := by
  cases hc : (o.ex.isEmpty && o.clr.isEmpty) with
  | true => rw [hc] at he; cases he; exact ⟨_, rfl, Bj0 _ _ h⟩
  | false => rw [hc] at he; cases he
theorem execK_sub {call : Caller} {o : AOp} (h : Sub ff ff0) (he : execK pur Bq2 o ff σ = some (ff', σ')) : ∃ ff1, execK pur call o ff0 σ = some (ff1, σ') ∧ Sub ff' ff1 := by
  cases hg : o.guard with
  | none =>
    unfold execK at he ⊢;rw [hg] at he ⊢;exact Bz9 h he
  | some g =>
    cases hw : AxX (getK ff g.1) g.2 with
    | none =>
      unfold execK at he;rw [hg] at he; dsimp only at he; rw [hw] at he; cases he
    | some d =>
      rw [Aj9 hg hw] at he;rw [Aj9 hg (Ak1 h hw)];cases d with
      | true => exact Bz9 h he
      | false => exact BjR h he
theorem execK_none {call : Caller} {o : AOp} (hg : o.guard = none) : execK pur call o ff σ = runK' pur call o ff σ := by
  unfold execK; rw [hg]
def OpT (pur : FuncId → Bool) (R : Nat → Caller) (o : AOp) (ff : FF) (σ : Sto) (ff' : FF) (σ' : Sto) : Prop :=
  ∃ N, ∀ n, N ≤ n → ∀ ff0, Sub ff ff0 → ∃ ff1, execK pur (R n) o ff0 σ = some (ff1, σ') ∧ Sub ff' ff1
theorem Aw8 {r : RFS} {x : TO} (h : toTX tp q r = some x) : ∃ ff' σ', r = some (ff', σ') ∧ x = ⟨.normal, ff', σ', tp, q⟩ := by
  cases r with
  | none => cases h
  | some r => cases h; exact ⟨r.1, r.2, rfl, rfl⟩
theorem tSpec_sound {o : AOp} {a : Ans} {x : TO} (h : tSpec pur R o ff σ tp q a = some x) : x.e = .normal ∧ (x.q → q) ∧ (x.q → OpT pur R o ff σ x.ff x.σ) := by
  cases a with
  | br b => cases h
  | loop ls e f s => cases h
  | res rs σ1 =>
    cases hg : o.guard with
    | some g => simp only [tSpec, hg] at h; cases h
    | none =>
      simp only [tSpec, hg] at h;cases hv : evalK ff o.args with
      | none => rw [hv] at h; cases h
      | some vs =>
        rw [hv] at h;obtain ⟨ff', σ', h1, rfl⟩ := Aw8 h;refine ⟨rfl, fun hq => hq.2, fun hq => ?_⟩
        obtain ⟨N, hN⟩ := hq.1;refine ⟨N, fun n hn ff0 hs => ?_⟩
        rw [execK_none hg, runK_of (AzH hs _ _ hv) (hN n hn)];exact BjF hs h1
  | grd d =>
    cases hg : o.guard with
    | none => simp only [tSpec, hg] at h; cases h
    | some g =>
      simp only [tSpec, hg] at h;obtain ⟨ff', σ', h1, rfl⟩ := Aw8 h;refine ⟨rfl, fun hq => hq.2, fun hq => ⟨0, fun n _ ff0 hs => ?_⟩⟩
      rw [Aj9 hg (Ak1 hs hq.1)];cases d with
      | true => exact Bz9 hs h1
      | false => exact BjR hs h1
  | grdr rs σ1 =>
    cases hg : o.guard with
    | none => simp only [tSpec, hg] at h; cases h
    | some g =>
      simp only [tSpec, hg] at h;cases hv : evalK ff o.args with
      | none => rw [hv] at h; cases h
      | some vs =>
        rw [hv] at h;obtain ⟨ff', σ', h1, rfl⟩ := Aw8 h;refine ⟨rfl, fun hq => hq.2.2, fun hq => ?_⟩
        obtain ⟨N, hN⟩ := hq.1;refine ⟨N, fun n hn ff0 hs => ?_⟩
        rw [Aj9 hg (Ak1 hs hq.2.1), cond_true, runK_of (AzH hs _ _ hv) (hN n hn)];exact BjF hs h1
theorem AwK {α : Type} {tp : Tape} {plain : Tape → α} {spec : Tape → Ans → α} (P : α → Prop) (h1 : ∀ t, P (plain t)) (h2 : ∀ t a, P (spec t a)) : P (tCase tp plain spec) := by
  cases tp with
  | nil => exact h1 _
  | cons x tp =>
    obtain ⟨n, a⟩ := x;cases n with
    | zero => exact h2 _ _
    | succ n => exact h1 _
theorem tOp_sound {o : AOp} : ∀ {x : TO}, tOp pur R o ff σ tp q = some x → x.e = .normal ∧ (x.q → q) ∧ (x.q → OpT pur R o ff σ x.ff x.σ) := by
  unfold tOp;refine AwK (fun r => ∀ {x : TO}, r = some x → x.e = .normal ∧ (x.q → q) ∧ (x.q → OpT pur R o ff σ x.ff x.σ)) (fun t {x} h => ?_) (fun t a {x} h => tSpec_sound h)
  obtain ⟨ff', σ', h1, rfl⟩ := Aw8 h;exact ⟨rfl, id, fun _ => ⟨0, fun n _ ff0 hs => execK_sub hs h1⟩⟩
theorem bindT_inv {r : TX} {k : FF → Sto → Tape → Prop → TX} {x : TO} (h : bindT r k = some x) : ∃ y, r = some y ∧ ((y.e = .normal ∧ k y.ff y.σ y.tp y.q = some x) ∨ (y.e ≠ .normal ∧ y = x)) := by
  cases r with
  | none => cases h
  | some y =>
    refine ⟨y, rfl, ?_⟩
    have h' : cond (Ax9 y.e) (k y.ff y.σ y.tp y.q) (some y) = some x := h;obtain ⟨e, f, s, t, q⟩ := y;cases e with
    | normal => exact .inl ⟨rfl, h'⟩
    | exit i => exact .inr ⟨by simp, Option.some.inj h'⟩
    | ret => exact .inr ⟨by simp, Option.some.inj h'⟩
theorem opsK_cons (call : Caller) (o : AOp) (os : List AOp) : opsK pur call (o :: os) ff σ = Option.rec (motive := fun _ => RX) none (fun r => opsK pur call os r.1 r.2) (execK pur call o ff σ) := rfl
theorem BqU : ∀ (os : List AOp) {ff : FF} {σ : Sto} {tp : Tape} {q : Prop} {x : TO}, tOps pur R os ff σ tp q = some x → (x.q → q) ∧ (x.q → Aw2 pur R (.region os) ff σ x.e x.ff x.σ)
  | [], ff, σ, tp, q, x, h => by cases h; exact ⟨id, fun _ => ⟨0, fun n _ ff0 hs => ⟨ff0, rfl, hs⟩⟩⟩
  | o :: os, ff, σ, tp, q, x, h => by
    have h' : bindT (tOp pur R o ff σ tp q) (tOps pur R os) = some x := h;obtain ⟨y, hy, hc⟩ := bindT_inv h';obtain ⟨e1, hq1, ho⟩ := tOp_sound hy;rcases hc with ⟨_, hk⟩ | ⟨hne, _⟩
    · obtain ⟨hq2, hr⟩ := BqU os hk;refine ⟨fun hx => hq1 (hq2 hx), fun hx => ?_⟩
      obtain ⟨N1, H1⟩ := ho (hq2 hx);obtain ⟨N2, H2⟩ := hr hx;refine ⟨max N1 N2, fun n hn ff0 hs => ?_⟩
      obtain ⟨ff1, a1, a2⟩ := H1 n (by omega) ff0 hs
      obtain ⟨ff2, b1, b2⟩ := H2 n (by omega) ff1 a2
      refine ⟨ff2, ?_, b2⟩
      show opsK pur (R n) (o :: os) ff0 σ = _;rw [opsK_cons, a1]; exact b1
    · exact absurd e1 hne
theorem Az7 : ∀ (c : ACode) {ff : FF} {σ : Sto} {tp : Tape} {q : Prop} {x : TO}, tRun pur R c ff σ tp q = some x → (x.q → q) ∧ (x.q → Aw2 pur R c ff σ x.e x.ff x.σ) := by
  intro c
  induction c with
  | skip => intro ff σ tp q x h; cases h; exact ⟨id, fun _ => ⟨0, fun n _ ff0 hs => ⟨ff0, rfl, hs⟩⟩⟩
  | region ops => intro ff σ tp q x h; exact BqU ops h
  | exit i => intro ff σ tp q x h; cases h; exact ⟨id, fun _ => ⟨0, fun n _ ff0 hs => ⟨ff0, rfl, hs⟩⟩⟩
  | ret => intro ff σ tp q x h; cases h; exact ⟨id, fun _ => ⟨0, fun n _ ff0 hs => ⟨ff0, rfl, hs⟩⟩⟩
  | seq a b iha ihb =>
    intro ff σ tp q x h;have h' : bindT (tRun pur R a ff σ tp q) (tRun pur R b) = some x := h;obtain ⟨y, hy, hc⟩ := bindT_inv h';obtain ⟨hq1, ho⟩ := iha hy;have hseq : ∀ n ff0, arunK pur (R n) n (.seq a b) ff0 σ = Option.rec (motive := fun _ => RX) none (fun r => cond (Ax9 r.1) (arunK pur (R n) n b r.2.1 r.2.2) (some r)) (arunK pur (R n) n a ff0 σ) := fun _ _ => rfl
    rcases hc with ⟨he, hk⟩ | ⟨hne, rfl⟩
    · obtain ⟨hq2, hr⟩ := ihb hk;refine ⟨fun hx => hq1 (hq2 hx), fun hx => ?_⟩
      obtain ⟨N1, H1⟩ := ho (hq2 hx);obtain ⟨N2, H2⟩ := hr hx;rw [he] at H1;refine ⟨max N1 N2, fun n hn ff0 hs => ?_⟩
      obtain ⟨ff1, a1, a2⟩ := H1 n (by omega) ff0 hs
      obtain ⟨ff2, b1, b2⟩ := H2 n (by omega) ff1 a2
      refine ⟨ff2, ?_, b2⟩
      rw [hseq, a1]; exact b1
    · refine ⟨hq1, fun hx => ?_⟩
      obtain ⟨N1, H1⟩ := ho hx;refine ⟨N1, fun n hn ff0 hs => ?_⟩
      obtain ⟨ff1, a1, a2⟩ := H1 n hn ff0 hs;refine ⟨ff1, ?_, a2⟩
      rw [hseq, a1];obtain ⟨e, f, s, t, qq⟩ := y;cases e with
      | normal => exact absurd rfl hne
      | exit i => rfl
      | ret => rfl
  | cond c a b iha ihb =>
    intro ff σ tp q x h;have hcond : ∀ n ff0, arunK pur (R n) n (.cond c a b) ff0 σ = condK (evalK ff0 [c]) (arunK pur (R n) n a ff0 σ) (arunK pur (R n) n b ff0 σ) := fun _ _ => rfl
    have key : ∀ (bb : Bool) (t : Tape) (qq : Prop), evalK ff [c] = some [.bool bb] → cond bb (tRun pur R a ff σ t qq) (tRun pur R b ff σ t qq) = some x → (x.q → qq) ∧ (x.q → Aw2 pur R (.cond c a b) ff σ x.e x.ff x.σ) := by
      intro bb t qq hv hx;cases bb with
      | true =>
        obtain ⟨h1, h2⟩ := iha hx;refine ⟨h1, fun hq => ?_⟩
        obtain ⟨N, H⟩ := h2 hq;refine ⟨N, fun n hn ff0 hs => ?_⟩
        rw [hcond, AzH hs _ _ hv]; exact H n hn ff0 hs
      | false =>
        obtain ⟨h1, h2⟩ := ihb hx;refine ⟨h1, fun hq => ?_⟩
        obtain ⟨N, H⟩ := h2 hq;refine ⟨N, fun n hn ff0 hs => ?_⟩
        rw [hcond, AzH hs _ _ hv]; exact H n hn ff0 hs
    have h' : tCond c (tRun pur R a) (tRun pur R b) ff σ tp q = some x := h
    revert h'
    unfold tCond;refine AwK (fun r => r = some x → (x.q → q) ∧ (x.q → Aw2 pur R (.cond c a b) ff σ x.e x.ff x.σ)) (fun t hx => ?_) (fun t an hx => ?_)
    · split at hx
      · rename_i bb hv; exact key bb t q hv hx
      · cases hx
    · cases an with
      | br bb =>
        have hx' : cond bb (tRun pur R a ff σ t (evalK ff [c] = some [.bool bb] ∧ q)) (tRun pur R b ff σ t (evalK ff [c] = some [.bool bb] ∧ q)) = some x := hx
        have hq : x.q → (evalK ff [c] = some [.bool bb] ∧ q) := by
          cases bb with
          | true => exact (iha hx').1
          | false => exact (ihb hx').1
        exact ⟨fun hq' => (hq hq').2, fun hq' => (key bb t _ (hq hq').1 hx').2 hq'⟩
      | _ => cases hx
  | block id c ih =>
    intro ff σ tp q x h;have h' : tBlock id (tRun pur R c ff σ tp q) = some x := h;have hb : ∀ n ff0, arunK pur (R n) n (.block id c) ff0 σ = Option.rec (motive := fun _ => RX) none (fun r => AExit.rec (motive := fun _ => RX) (some r) (fun i => cond (Nat.beq i id) (some (.normal, r.2)) (some r)) (some r) r.1) (arunK pur (R n) n c ff0 σ) := fun _ _ => rfl
    cases hr : tRun pur R c ff σ tp q with
    | none => rw [hr] at h'; cases h'
    | some y =>
      rw [hr] at h';obtain ⟨hq1, ho⟩ := ih hr;obtain ⟨e, f, s, t, qq⟩ := y;cases e with
      | normal =>
        cases h';refine ⟨hq1, fun hq => ?_⟩
        obtain ⟨N, H⟩ := ho hq;refine ⟨N, fun n hn ff0 hs => ?_⟩
        obtain ⟨ff1, a1, a2⟩ := H n hn ff0 hs;exact ⟨ff1, by rw [hb, a1], a2⟩
      | ret =>
        cases h';refine ⟨hq1, fun hq => ?_⟩
        obtain ⟨N, H⟩ := ho hq;refine ⟨N, fun n hn ff0 hs => ?_⟩
        obtain ⟨ff1, a1, a2⟩ := H n hn ff0 hs;exact ⟨ff1, by rw [hb, a1], a2⟩
      | exit i =>
        have h'' : cond (Nat.beq i id) (some (⟨.normal, f, s, t, qq⟩ : TO)) (some ⟨.exit i, f, s, t, qq⟩) = some x := h';cases hi : Nat.beq i id with
        | true =>
          rw [hi] at h'';cases h'';refine ⟨hq1, fun hq => ?_⟩
          obtain ⟨N, H⟩ := ho hq;refine ⟨N, fun n hn ff0 hs => ?_⟩
          obtain ⟨ff1, a1, a2⟩ := H n hn ff0 hs;exact ⟨ff1, by rw [hb, a1]; dsimp only; rw [hi]; rfl, a2⟩
        | false =>
          rw [hi] at h'';cases h'';refine ⟨hq1, fun hq => ?_⟩
          obtain ⟨N, H⟩ := ho hq;refine ⟨N, fun n hn ff0 hs => ?_⟩
          obtain ⟨ff1, a1, a2⟩ := H n hn ff0 hs;exact ⟨ff1, by rw [hb, a1]; dsimp only; rw [hi]; rfl, a2⟩
  | loop keep c _ =>
    intro ff σ tp q x h;have h' : tLoop pur R keep c ff σ tp q = some x := h
    revert h'
    unfold tLoop;refine AwK (fun r => r = some x → (x.q → q) ∧ (x.q → Aw2 pur R (.loop keep c) ff σ x.e x.ff x.σ)) (fun t hx => by cases hx) (fun t an hx => ?_)
    cases an with
    | loop ls e f s =>
      cases hx;refine ⟨fun hq => hq.2, fun hq => ?_⟩
      obtain ⟨N, H⟩ := hq.1;refine ⟨N, fun n hn ff0 hs => ?_⟩
      refine H n hn n hn (AqR ff0 keep 0) ((AkK _ _).trans fun t v hv => ?_)
      exact mask_sub hs keep 0 t v hv
    | _ => cases hx
  where
  mask_sub {ff ff0 : FF} (hs : Sub ff ff0) : ∀ (keep : List Bool) (i : Nat), Sub (AqR ff keep i) (AqR ff0 keep i)
    | [], i, t, v, h => by cases h
    | b :: keep, i, t, v, h => by
      cases b with
      | false => exact mask_sub hs keep (i + 1) t v h
      | true =>
        have h' : cond (Nat.beq i t) (getK ff i) (getK (AqR ff keep (i + 1)) t) = some v := h;show cond (Nat.beq i t) (getK ff0 i) (getK (AqR ff0 keep (i + 1)) t) = some v;cases hb : Nat.beq i t with
        | true => rw [hb] at h'; exact hs i v h'
        | false => rw [hb] at h'; exact mask_sub hs keep (i + 1) t v h'
end
section
variable (pur : FuncId → Bool) (R : Nat → Caller)
noncomputable def outE (e : AExit) (x : Option (PV × Sto × Prop)) : Option (PV × Sto × Prop) := AExit.rec (motive := fun _ => Option (PV × Sto × Prop)) x (fun _ => none) x e
noncomputable def runT (fn : AFunc) (args : List PV) (σ : Sto) (tp : Tape) : Option (PV × Sto × Prop) :=
  cond (Nat.beq args.length fn.nargs && Nat.ble args.length fn.ntmps)
    (Option.rec (motive := fun _ => Option (PV × Sto × Prop)) none (fun o => outE o.e (Option.rec (motive := fun _ => Option (PV × Sto × Prop)) none (fun vs => Option.rec (motive := fun _ => Option (PV × Sto × Prop)) none (fun r => some (r, o.σ, o.q)) (packR vs)) (resK o.ff fn.results))) (tRun pur R fn.code (initK args 0) σ tp True)) none
noncomputable def runTO (fn : AFunc) (args : List PV) (σ : Sto) (tp : Tape) (r : PV) : Option (PV × Sto × Prop) :=
  cond (Nat.beq args.length fn.nargs && Nat.ble args.length fn.ntmps)
    (Option.rec (motive := fun _ => Option (PV × Sto × Prop)) none (fun o => outE o.e (some (r, o.σ, (resK o.ff fn.results).bind packR = some r ∧ o.q))) (tRun pur R fn.code (initK args 0) σ tp True)) none
noncomputable def nextT (keep : List Bool) (c : ACode) (ls : List Nat) (ff : FF) (σ : Sto) (tp : Tape) : Option (FF × Sto × Prop) :=
  Option.rec (motive := fun _ => Option (FF × Sto × Prop)) none (fun o => cond (Ax9 o.e) (some (pickF ls (AqR o.ff keep 0), o.σ, o.q)) none) (tRun pur R c ff σ tp True)
noncomputable def leaveT (c : ACode) (ls : List Nat) (ff : FF) (σ : Sto) (tp : Tape) : Option (AExit × FF × Sto × Prop) :=
  Option.rec (motive := fun _ => Option (AExit × FF × Sto × Prop)) none (fun o => cond (Ax9 o.e) none (some (o.e, pickF ls o.ff, o.σ, o.q))) (tRun pur R c ff σ tp True)
end
section
variable {pur : FuncId → Bool} {R : Nat → Caller}
theorem AwA {ff ff0 : FF} (h : Sub ff ff0) : ∀ (rs : List (Nat × Option Nat)) (vs : List PV), resK ff rs = some vs → resK ff0 rs = some vs
  | [], vs, hr => hr
  | (t, n) :: rs, vs, hr => by
    have hr' : (match getK ff t, resK ff rs with | some v, some vs => if resOk v n then some (v.Aq0 :: vs) else none | _, _ => none) = some vs := hr
    show (match getK ff0 t, resK ff0 rs with | some v, some vs => if resOk v n then some (v.Aq0 :: vs) else none | _, _ => none) = some vs
    split at hr'
    · rename_i v ws hg hw;rw [h t v hg, AwA h rs ws hw]; exact hr'
    · cases hr'
theorem fn_rule {f : FuncId} {af : AFunc} {args : List PV} {σ σ' : Sto} {r : PV} {tp : Tape} {q : Prop} (hR : ∀ n, R (n + 1) f args σ = AjH pur (R n) n af args σ) (hq : q) (h : runT pur R af args σ tp = some (r, σ', q)) : Ev R f args σ r σ' := by
  unfold runT at h;cases hb : (Nat.beq args.length af.nargs && Nat.ble args.length af.ntmps) with
  | false => rw [hb] at h; cases h
  | true =>
    rw [hb] at h;cases hx : tRun pur R af.code (initK args 0) σ tp True with
    | none => rw [hx] at h; cases h
    | some o =>
      rw [hx] at h;obtain ⟨_, hs⟩ := Az7 af.code hx;obtain ⟨e, f1, s1, t1, q1⟩ := o;dsimp only [cond_true] at h hs
      have fin : ∀ {e}, e = .normal ∨ e = .ret → Aw2 pur R af.code (initK args 0) σ e f1 s1 →
          (Option.rec (motive := fun _ => Option (PV × Sto × Prop)) none (fun vs => Option.rec (motive := fun _ => Option (PV × Sto × Prop)) none (fun r => some (r, s1, q1)) (packR vs)) (resK f1 af.results)) = some (r, σ', q) → Ev R f args σ r σ' := by
        intro e he hc hh;cases hv : resK f1 af.results with
        | none => rw [hv] at hh; cases hh
        | some vs =>
          rw [hv] at hh;dsimp only at hh;cases hp : packR vs with
          | none => rw [hp] at hh; cases hh
          | some p =>
            rw [hp] at hh;cases hh;obtain ⟨N, H⟩ := hc;refine ⟨N + 1, fun n hn => ?_⟩
            obtain ⟨n, rfl⟩ : ∃ m, n = m + 1 := ⟨n - 1, by omega⟩
            rw [hR];obtain ⟨ff1, a1, a2⟩ := H n (by omega) _ (Sub.refl _)
            unfold AjH;rw [hb, a1];have hv' := AwA a2 _ _ hv;rcases he with rfl | rfl
            · dsimp only [cond_true];rw [hv']; simp [hp]
            · dsimp only [cond_true];rw [hv']; simp [hp]
      cases e with
      | normal =>
        have h' := h
        have hq' : q1 := by
          cases hv : resK f1 af.results with
          | none => simp only [outE, hv] at h'; cases h'
          | some vs =>
            simp only [outE, hv] at h';cases hp : packR vs with
            | none => rw [hp] at h'; cases h'
            | some p => rw [hp] at h'; cases h'; exact hq
        exact fin (.inl rfl) (hs hq') h
      | exit i => cases h
      | ret =>
        have h' := h
        have hq' : q1 := by
          cases hv : resK f1 af.results with
          | none => simp only [outE, hv] at h'; cases h'
          | some vs =>
            simp only [outE, hv] at h';cases hp : packR vs with
            | none => rw [hp] at h'; cases h'
            | some p => rw [hp] at h'; cases h'; exact hq
        exact fin (.inr rfl) (hs hq') h
theorem fn_ruleO {f : FuncId} {af : AFunc} {args : List PV} {σ σ' : Sto} {r : PV} {tp : Tape} {q : Prop} (hR : ∀ n, R (n + 1) f args σ = AjH pur (R n) n af args σ) (hq : q) (h : runTO pur R af args σ tp r = some (r, σ', q)) : Ev R f args σ r σ' := by
  unfold runTO at h;cases hb : (Nat.beq args.length af.nargs && Nat.ble args.length af.ntmps) with
  | false => rw [hb] at h; cases h
  | true =>
    rw [hb] at h;cases hx : tRun pur R af.code (initK args 0) σ tp True with
    | none => rw [hx] at h; cases h
    | some o =>
      rw [hx] at h;obtain ⟨_, hs⟩ := Az7 af.code hx;obtain ⟨e, f1, s1, t1, q1⟩ := o;dsimp only [cond_true] at h hs
      have fin : ∀ {e}, e = .normal ∨ e = .ret → Aw2 pur R af.code (initK args 0) σ e f1 s1 → (resK f1 af.results).bind packR = some r → s1 = σ' → Ev R f args σ r σ' := by
        rintro e he hc hh rfl
        obtain ⟨vs, hv, hp⟩ := Option.bind_eq_some_iff.1 hh;obtain ⟨N, H⟩ := hc;refine ⟨N + 1, fun n hn => ?_⟩
        obtain ⟨n, rfl⟩ : ∃ m, n = m + 1 := ⟨n - 1, by omega⟩
        rw [hR];obtain ⟨ff1, a1, a2⟩ := H n (by omega) _ (Sub.refl _)
        unfold AjH;rw [hb, a1];have hv' := AwA a2 _ _ hv;rcases he with rfl | rfl
        · dsimp only [cond_true];rw [hv']; simp [hp]
        · dsimp only [cond_true];rw [hv']; simp [hp]
      cases e with
      | normal => cases h; exact fin (.inl rfl) (hs hq.2) hq.1 rfl
      | exit i => cases h
      | ret => cases h; exact fin (.inr rfl) (hs hq.2) hq.1 rfl
theorem BxH (keep : List Bool) (body : FF → Sto → RX) (m : Nat) (ff : FF) (σ : Sto) : iterK keep body (m + 1) ff σ = Option.rec (motive := fun _ => RX) none (fun r => cond (Ax9 r.1) (iterK keep body m (AqR r.2.1 keep 0) r.2.2) (some r)) (body ff σ) := rfl
theorem loop_next {keep : List Bool} {c : ACode} {ls : List Nat} {ff ffn ff' : FF} {σ σn σ' : Sto} {e : AExit} {tp : Tape} {q : Prop} (hq : q) (hl : AzJ pur R keep c ffn σn e ff' σ') (h : nextT pur R keep c ls ff σ tp = some (ffn, σn, q)) : AzJ pur R keep c ff σ e ff' σ' := by
  unfold nextT at h;cases hx : tRun pur R c ff σ tp True with
  | none => rw [hx] at h; cases h
  | some o =>
    rw [hx] at h;obtain ⟨_, hs⟩ := Az7 c hx;obtain ⟨e1, f1, s1, t1, q1⟩ := o;cases e1 with
    | exit i => cases h
    | ret => cases h
    | normal =>
      cases h;obtain ⟨N1, H1⟩ := hs hq;obtain ⟨N2, H2⟩ := hl;refine ⟨max N1 (N2 + 1), fun n hn m hm ff0 hs0 => ?_⟩
      obtain ⟨m, rfl⟩ : ∃ m', m = m' + 1 := ⟨m - 1, by omega⟩
      obtain ⟨ff1, a1, a2⟩ := H1 n (by omega) ff0 hs0
      obtain ⟨ff2, b1, b2⟩ := H2 n (by omega) m (by omega) (AqR ff1 keep 0) ((AkK _ _).trans (Az7.mask_sub a2 keep 0))
      refine ⟨ff2, ?_, b2⟩
      rw [BxH, a1]; exact b1
theorem BxC {keep : List Bool} {c : ACode} {ls : List Nat} {ff ff' : FF} {σ σ' : Sto} {e : AExit} {tp : Tape} {q : Prop} (hq : q) (h : leaveT pur R c ls ff σ tp = some (e, ff', σ', q)) : AzJ pur R keep c ff σ e ff' σ' := by
  unfold leaveT at h;cases hx : tRun pur R c ff σ tp True with
  | none => rw [hx] at h; cases h
  | some o =>
    rw [hx] at h;obtain ⟨_, hs⟩ := Az7 c hx;obtain ⟨e1, f1, s1, t1, q1⟩ := o
    have key : Ax9 e1 = false → (e1, pickF ls f1, s1, q1) = (e, ff', σ', q) → AzJ pur R keep c ff σ e ff' σ' := by
      intro hn0 he;cases he;obtain ⟨N1, H1⟩ := hs hq;refine ⟨N1 + 1, fun n hn m hm ff0 hs0 => ?_⟩
      obtain ⟨m, rfl⟩ : ∃ m', m = m' + 1 := ⟨m - 1, by omega⟩
      obtain ⟨ff1, a1, a2⟩ := H1 n (by omega) ff0 hs0
      refine ⟨ff1, ?_, (AkK _ _).trans a2⟩
      rw [BxH, a1];show cond (Ax9 _) _ _ = _;rw [hn0]; rfl
    cases e1 with
    | normal => cases h
    | exit i => exact key rfl (Option.some.inj h)
    | ret => exact key rfl (Option.some.inj h)
theorem op_p {k : PK} {vs : List PV} {σ : Sto} {rs : List (Option PV)} (h : semP k vs = some rs) : OpEv pur R (.p k) vs σ rs σ := ⟨0, fun _ _ => by simp only [sem, h, Option.map_some]⟩
theorem op_r {k : RK} {vs : List PV} {σ : Sto} {rs : List (Option PV)} (h : semR k vs σ = some rs) : OpEv pur R (.r k) vs σ rs σ := ⟨0, fun _ _ => by simp only [sem, h, Option.map_some]⟩
theorem op_c {f : FuncId} {vs zs : List PV} {σ s : Sto} {r r' : PV} (h : Ev R f zs [] r s) (hv : vs.map PV.Aq0 = zs) (hf : (vs.all PV.free && vs.all PV.flat) = true) (hr : r.flat = true) (hd : r.Aq0 = r') : OpEv pur R (.c f) vs σ [some r'] σ := by
  obtain ⟨N, H⟩ := h;exact ⟨N, fun n hn => by simp only [sem, hf, if_true, hv, H n hn, Option.bind_some, hr, hd]⟩
theorem op_wc {f : FuncId} {vs zs : List PV} {σ σ' : Sto} {r r' : PV} (h : Ev R f zs σ r σ') (hp : pur f = false) (hv : vs.map PV.Aq0 = zs) (hf : vs.all PV.free = true) (hd : r.Aq0 = r') : OpEv pur R (.w (.call f)) vs σ [some r'] σ' := by
  obtain ⟨N, H⟩ := h;refine ⟨N, fun n hn => ?_⟩
  show semW pur (R n) (.call f) vs σ = _;unfold semW;simp only [hf, if_true, hp, Bool.false_eq_true, if_false, hv, H n hn, Option.map_some, hd]
theorem op_wd {f : FuncId} {fs cs vs zs : List PV} {σ σ' : Sto} {r r' : PV} (h : Ev R f zs σ r σ') (hp : pur f = false) (hv : (fs ++ vs ++ cs).map PV.Aq0 = zs) (hf : vs.all PV.free = true) (hd : r.Aq0 = r') : OpEv pur R (.w .calld) (.func f fs cs :: vs) σ [some r'] σ' := by
  obtain ⟨N, H⟩ := h;refine ⟨N, fun n hn => ?_⟩
  show semW pur (R n) .calld (.func f fs cs :: vs) σ = _;unfold semW;simp only [hf, if_true, hp, Bool.false_eq_true, if_false, hv, H n hn, Option.map_some, hd]
theorem AjU {f : FuncId} {fs cs vs zs : List PV} {σ s : Sto} {r r' : PV} (h : Ev R f zs [] r s) (hp : pur f = true) (hv : (fs ++ vs ++ cs).map PV.Aq0 = zs) (hf : vs.all PV.free = true) (hfl : zs.all PV.flat = true) (hr : r.flat = true) (hd : r.Aq0 = r') : OpEv pur R (.w .calld) (.func f fs cs :: vs) σ [some r'] σ := by
  obtain ⟨N, H⟩ := h;refine ⟨N, fun n hn => ?_⟩
  show semW pur (R n) .calld (.func f fs cs :: vs) σ = _;unfold semW;simp only [hf, if_true, hp, hv, hfl, H n hn, Option.bind_some, hr, hd]
end
end Go.Abs

namespace Go.Abs.Z
open Go.Proofs Go.RowKit
abbrev E := Ev run
abbrev LE := AzJ pur run
abbrev N (n : Nat) : PV := .int .i64 (n : Int)
abbrev I (x : Int) : PV := .int .i64 x
def Rn (f : FuncId) (af : AFunc) : Prop := ∀ n args σ, run (n + 1) f args σ = AjH pur (run n) n af args σ
structure Stp where
  g : Nat
  a : Ans
  q : Prop → Prop
  pf : ∀ {x : Prop}, x → q x
section
variable {R : Nat → Caller} {k : AK} {vs : List PV} {σ σ' : Sto} {rs : List (Option PV)}
def st (g : Nat) (h : OpEv pur R k vs σ rs σ') : Stp := ⟨g, .res rs σ', fun x => OpEv pur R k vs σ rs σ' ∧ x, fun x => ⟨h, x⟩⟩
def sg (g : Nat) (h : OpEv pur R k vs σ rs σ') : Stp := ⟨g, .grdr rs σ', fun x => OpEv pur R k vs σ rs σ' ∧ (some true = some true ∧ x), fun x => ⟨h, rfl, x⟩⟩
def sl (g : Nat) (ls : List Nat) {keep : List Bool} {c : ACode} {ff ff1 : FF} {e : AExit} (h : AzJ pur R keep c ff σ e ff1 σ') : Stp := ⟨g, .loop ls e ff1 σ', fun x => AzJ pur R keep c ff σ e ff1 σ' ∧ x, fun x => ⟨h, x⟩⟩
end
noncomputable def AvI (l : List Stp) : Tape := List.rec (motive := fun _ => Tape) [] (fun s _ ih => (s.g, s.a) :: ih) l
noncomputable def qOf (l : List Stp) : Prop → Prop := List.rec (motive := fun _ => Prop → Prop) (fun x => x) (fun s _ ih x => ih (s.q x)) l
theorem AvM : ∀ (l : List Stp) {x : Prop}, x → qOf l x
  | [], _, h => h
  | s :: l, _, h => AvM l (s.pf h)
theorem rule {f : FuncId} {af : AFunc} {args : List PV} {σ σ' : Sto} {r : PV} (hR : Rn f af) (l : List Stp) (h : runT pur run af args σ (AvI l) = some (r, σ', qOf l True) := by kernel_rfl) : E f args σ r σ' := fn_rule (fun n => hR n args σ) (AvM l trivial) h
theorem ruleO {f : FuncId} {af : AFunc} {args : List PV} {σ σ' : Sto} {r : PV} {ff : FF} {rs : List (Nat × Option Nat)} (hR : Rn f af) (l : List Stp) (ho : (resK ff rs).bind packR = some r) (h : runTO pur run af args σ (AvI l) r = some (r, σ', (resK ff rs).bind packR = some r ∧ qOf l True) := by kernel_rfl) : E f args σ r σ' := fn_ruleO (fun n => hR n args σ) ⟨ho, AvM l trivial⟩ h
theorem ruleN {keep : List Bool} {c : ACode} {ff ffn ff' : FF} {σ σn σ' : Sto} {e : AExit} (ls : List Nat) (l : List Stp) (hl : AzJ pur run keep c ffn σn e ff' σ') (h : nextT pur run keep c ls ff σ (AvI l) = some (ffn, σn, qOf l True) := by kernel_rfl) : AzJ pur run keep c ff σ e ff' σ' := loop_next (AvM l trivial) hl h
theorem ruleX {keep : List Bool} {c : ACode} {ff ff' : FF} {σ σ' : Sto} {e : AExit} (ls : List Nat) (l : List Stp) (h : leaveT pur run c ls ff σ (AvI l) = some (e, ff', σ', qOf l True) := by kernel_rfl) : AzJ pur run keep c ff σ e ff' σ' := BxC (AvM l trivial) h
theorem P {k : PK} {vs : List PV} {rs : List (Option PV)} (h : semP k vs = some rs) : OpEv pur run (.p k) vs [] rs [] := op_p h
theorem PS (σ : Sto) {k : PK} {vs : List PV} {rs : List (Option PV)} (h : semP k vs = some rs) : OpEv pur run (.p k) vs σ rs σ := op_p h
theorem Q {k : RK} {vs : List PV} {rs : List (Option PV)} (h : semR k vs [] = some rs) : OpEv pur run (.r k) vs [] rs [] := op_r h
theorem QS (σ : Sto) {k : RK} {vs : List PV} {rs : List (Option PV)} (h : semR k vs σ = some rs) : OpEv pur run (.r k) vs σ rs σ := op_r h
theorem ev_of_run {f : FuncId} {args : List PV} {σ σ' : Sto} {r : PV} (N : Nat) (h : ∀ n, N ≤ n → run (n + 1) f args σ = some (r, σ')) : E f args σ r σ' :=
  ⟨N + 1, fun n hn => by obtain ⟨n, rfl⟩ : ∃ m, n = m + 1 := ⟨n - 1, by omega⟩; exact h n (by omega)⟩
def accP (size : Nat) : List PV → PV
  | [] => .nils
  | es => .slice true size es
def accD (size : Nat) : List PV → PV
  | [] => .nils
  | es => .slice false size es
section
variable {σ : Sto} {k : IntKind}
theorem mv_of {v x : PV} (hf : v.free = true) (h : v.Aq0 = x) : semP .mv [v] = some [some x] := by rw [p_mv v hf, h]
theorem AjQ (size : Nat) (es : List PV) : (accP size es).Aq0 = accD size es := by cases es <;> rfl
theorem BqL (size : Nat) (es : List PV) : (accD size es).Aq0 = accD size es := by cases es <;> rfl
theorem BjP (size : Nat) (es : List PV) : (accP size es).free = true := by cases es <;> rfl
theorem accd_free (size : Nat) (es : List PV) : (accD size es).free = true := by cases es <;> rfl
theorem accd_flat (size : Nat) (es : List PV) : (accD size es).flat = true := by cases es <;> rfl
theorem acc_flat (size : Nat) (es : List PV) : (accP size es).flat = true := by cases es <;> rfl
theorem kp_disown (T : Tr) : T.kp.Aq0 = T.kp := by
  obtain ⟨k, t, a, e, n, ks⟩ := T; cases n <;> rfl
theorem kp_own0 (T : Tr) : T.kp.own0 = T.kp := T.kp_ok.1
theorem kp_free (T : Tr) : T.kp.free = true := by
  obtain ⟨k, t, a, e, n, ks⟩ := T; cases n <;> rfl
theorem kp_flat (T : Tr) : T.kp.flat = true := by
  obtain ⟨k, t, a, e, n, ks⟩ := T; cases n <;> rfl
theorem mv_acc (size : Nat) (es : List PV) : semP .mv [accP size es] = some [some (accD size es)] := mv_of (BjP ..) (AjQ ..)
theorem Bj8 (size : Nat) (es : List PV) : semP .mv [accD size es] = some [some (accD size es)] := mv_of (accd_free ..) (BqL ..)
theorem mvo_of {v x : PV} (hf : v.free = true) (h : v.Aq0 = x) : semP .mvo [v] = some [some v, some x] := by
  show (if v.free = true then _ else _) = _
  rw [if_pos hf, h]
theorem AvD (size : Nat) (es : List PV) : semP .mvo [accP size es] = some [some (accP size es), some (accD size es)] := mvo_of (BjP ..) (AjQ ..)
theorem bx_of {v x : PV} (hf : v.flat = true) (h : v.Aq0 = x) : semP .bx [v] = some [some (.vptr x)] := by rw [p_bx v hf, h]
theorem bx_tr (T : Tr) : semP .bx [T.pv] = some [some (.vptr T.pv)] := bx_of T.pv_flat T.AzV
theorem AqK (T : Tr) : semP (.sti 5) [.hole 5, T.pv] = some [some (.vptr T.pv)] := by
  show (if _ then _ else _) = _
  rw [if_pos ⟨rfl, T.Bq0, T.pv_flat, T.pv_ones⟩, T.AzV]
theorem ld_of {n : Nat} {ag : Bool} {v x : PV} (h1 : fits n ag v = true) (h2 : v.free = true) (h : v.Aq0 = x) : semR (.ld n ag) [.vptr v] σ = some [some x] := by
  show (if fits n ag v = true ∧ v.free = true then some v else none).map (fun v => [some v.Aq0]) = _
  rw [if_pos ⟨h1, h2⟩, ← h]; rfl
theorem ld_tr (T : Tr) : semR (.ld 5 true) [.vptr T.pv] σ = some [some T.pv] := ld_of (by rw [Tr.pv_nd]; rfl) T.pv_free T.AzV
theorem ld_kp (T : Tr) : semR (.ld 1 false) [.vptr T.kp] σ = some [some T.kp] := ld_of (by obtain ⟨k, t, a, e, n, ks⟩ := T; cases n <;> rfl) (kp_free T) (kp_disown T)
theorem ldp_tr (T : Tr) : semP (.ldp 5 true) [.vptr T.pv] = some [some T.pv] := by
  show (if fits 5 true T.pv = true ∧ T.pv.free = true then some T.pv else none).map (fun v => [some v.Aq0]) = _
  rw [if_pos ⟨by rw [Tr.pv_nd]; rfl, T.pv_free⟩, Option.map_some, T.AzV]
theorem fa_tr0 (T : Tr) : semP (.fa 0 1 false) [.vptr T.pv] = some [some (.vptr (.int .i64 T.kind))] := by rw [Tr.pv_nd]; rfl
theorem fa_tr1 (T : Tr) : semP (.fa 1 1 false) [.vptr T.pv] = some [some (.vptr (.str T.text))] := by rw [Tr.pv_nd]; rfl
theorem fa_tr2 (T : Tr) : semP (.fa 2 1 false) [.vptr T.pv] = some [some (.vptr (.int .i64 T.st))] := by rw [Tr.pv_nd]; rfl
theorem BxR (T : Tr) : semP (.fa 4 1 false) [.vptr T.pv] = some [some (.vptr T.kp)] := by rw [Tr.pv_nd]; exact p_fa4 T.kp_ok
theorem len_kp {T : Tr} (h : T.wf) : semP (.len false) [T.kp] = some [some (.int .i64 (T.kids.length : Nat))] := by
  obtain ⟨k, t, a, e, n, ks⟩ := T;cases n
  · show some [some (PV.int .i64 ((Tr.pvs ks).length : Nat))] = _;rw [Tr.Aj5, List.length_map]; rfl
  · have : ks = [] := h.1 rfl;subst this; rfl
theorem len_trs (o : Bool) (s : Nat) (ts : List Tr) : semP (.len false) [.slice o s (Tr.pvs ts)] = some [some (.int .i64 (ts.length : Nat))] := by
  show some [some (PV.int .i64 ((Tr.pvs ts).length : Nat))] = _;rw [Tr.Aj5, List.length_map]
theorem AkP (o : Bool) (s : Nat) (ts : List (List UInt8)) : semP (.len false) [.slice o s (ts.map .str)] = some [some (.int .i64 (ts.length : Nat))] := by
  show some [some (PV.int .i64 ((ts.map PV.str).length : Nat))] = _;rw [List.length_map]
theorem idx_trs {o : Bool} {s : Nat} {ts : List Tr} {U : Tr} (j : Nat) (h : ts[j]? = some U) : semP (.idx s) [.slice o s (Tr.pvs ts), .int .i64 (j : Nat)] = some [some (.vptr U.pv)] :=
  p_idx _ _ _ _ _ (by rw [Tr.Aj5, List.getElem?_map, h]; rfl)
theorem AwE {o : Bool} {s : Nat} {ts : List (List UInt8)} {t : List UInt8} (j : Nat) (h : ts[j]? = some t) : semP (.idx s) [.slice o s (ts.map .str), .int .i64 (j : Nat)] = some [some (.vptr (.str t))] :=
  p_idx _ _ _ _ _ (by rw [List.getElem?_map, h]; rfl)
theorem idx_kp {T U : Tr} (j : Nat) (w : T.wf) (h : T.kids[j]? = some U) : semP (.idx 5) [T.kp, .int .i64 (j : Nat)] = some [some (.vptr U.pv)] := by
  obtain ⟨k, t, a, e, n, ks⟩ := T;cases n with
  | false => exact idx_trs j h
  | true =>
    have : ks = [] := w.1 rfl;subst this; cases h
theorem Az4 {op : BinOp} {c : Nat} {x y : PV} {e v : Bool} (h : e = v) (hs : semP (.bin op c) [x, y] = some [some (.bool e)]) : semP (.bin op c) [x, y] = some [some (.bool v)] := by rw [hs, h]
theorem beq_of_eq {α : Type} [BEq α] [LawfulBEq α] {x y : α} (h : x = y) : (x == y) = true := by simp [h]
theorem beq_of_ne {α : Type} [BEq α] [LawfulBEq α] {x y : α} (h : x ≠ y) : (x == y) = false := by simp [h]
theorem bne_of_eq {α : Type} [BEq α] [LawfulBEq α] {x y : α} (h : x = y) : (x != y) = false := by simp [h]
theorem bne_of_ne {α : Type} [BEq α] [LawfulBEq α] {x y : α} (h : x ≠ y) : (x != y) = true := by simp [h]
theorem nbeq_of_eq {α : Type} [BEq α] [LawfulBEq α] {x y : α} (h : x = y) : (!(x == y)) = false := by simp [h]
theorem nbeq_of_ne {α : Type} [BEq α] [LawfulBEq α] {x y : α} (h : x ≠ y) : (!(x == y)) = true := by simp [h]
theorem add_of {x y z : Int} (h : k.wrap (x + y) = z) : semP (.bin .add 0) [.int k x, .int k y] = some [some (.int k z)] := by
  rw [← h]; cases k <;> rfl
theorem sub_of {x y z : Int} (h : k.wrap (x - y) = z) : semP (.bin .sub 0) [.int k x, .int k y] = some [some (.int k z)] := by
  rw [← h]; cases k <;> rfl
theorem mul_of {x y z : Int} (h : k.wrap (x * y) = z) : semP (.bin .mul 0) [.int k x, .int k y] = some [some (.int k z)] := by
  rw [← h]; cases k <;> rfl
theorem Aq3 (j m : Nat) (h : j < 2000000000) (hm : m < 2000000000) : semP (.bin .add 0) [.int .i64 (j : Nat), .int .i64 (m : Nat)] = some [some (.int .i64 ((j + m : Nat) : Int))] := by
  apply add_of;simp [IntKind.wrap, IntKind.bits, IntKind.signed]; omega
theorem cvt_of {k' : IntKind} {x z : Int} (h : k'.wrap x = z) : semP (.cvt k') [.int k x] = some [some (.int k' z)] := by rw [← h]; rfl
theorem Ax7 (i : Nat) {vs : List PV} {v x : PV} (h : vs[i]? = some v) (h2 : vs.all PV.free = true ∧ v.Aq0 = x) : semP (.ext i) [.tuple vs] = some [some x] := by
  show (if vs.all PV.free = true then _ else _) = _
  rw [if_pos h2.1, h, Option.map_some, h2.2]
theorem bsl_of {size : Nat} {vs ws : List PV} (h : vs.all (fun v => v.cells.length == size && v.flat) = true) (h2 : vs.map PV.Aq0 = ws) : semP (.bsl size) vs = some [some (.slice true size ws)] := by
  show (if vs.all (fun v => v.cells.length == size && v.flat) = true then _ else _) = _
  rw [if_pos h, h2]
theorem app_gen {size : Nat} {s x : PV} {es xs : List PV} (h1 : appS size s = some es) (h2 : appX size x = some xs) (h3 : xs.isEmpty = false) (h4 : es.length + xs.length ≤ AqE) (h5 : xs.all PV.ones = true) : semP (.app size) [s, x] = some [some (.slice true size (es ++ xs)), some s.Aq0] := by
  show appV size s x = _;unfold appV;rw [h1, h2];dsimp only;rw [if_neg (by simp [h3]), if_pos ⟨h4, h5⟩]
theorem AzI {size : Nat} {es xs : List PV} {o : Bool} (h4 : es.length + xs.length ≤ AqE) (h : xs.isEmpty = false ∧ xs.all PV.ones = true) : semP (.app size) [accP size es, .slice o size xs] = some [some (accP size (es ++ xs)), some (accD size es)] := by
  have h2 : appX size (.slice o size xs) = some xs := by simp [appX]
  have h1 : appS size (accP size es) = some es := by cases es <;> simp [accP, appS]
  rw [app_gen h1 h2 h.1 h4 h.2, AjQ];cases es with
  | nil => cases xs with
    | nil => simp at h
    | cons => rfl
  | cons => rfl
theorem app_lit {size : Nat} {o' : Bool} {es xs : List PV} (h4 : es.length + xs.length ≤ AqE) (h3 : xs.isEmpty = false) (h5 : xs.all PV.ones = true) : semP (.app size) [.slice true size es, .slice o' size xs] = some [some (.slice true size (es ++ xs)), some (.slice false size es)] :=
  app_gen (by simp [appS]) (by simp [appX]) h3 h4 h5
theorem stl_of {off n : Nat} {c v r : PV} (h1 : v.cells.length = n) (h2 : v.okc = true) (h3 : v.ones = true) (h : upd c off v.Aq0 = some r) : semP (.stl off n) [c, v] = some [some r] := by
  show (if _ then _ else _) = _
  rw [if_pos ⟨h1, h2, h3⟩, h]; rfl
theorem upd_all {c x : PV} (h5 : c.cells.length = 5) (h : x.cells.length = 5) (hc : ∃ cs, c = .agg cs) (hx : ∃ xs, x = .agg xs) : upd c 0 x = some x := by
  obtain ⟨cs, rfl⟩ := hc;obtain ⟨xs, rfl⟩ := hx;simp only [PV.cells] at h h5;show (if _ then _ else _) = _
  rw [if_pos (by simp [PV.cells, h, h5])]
  simp [PV.cells, h, h5]
theorem stl_tr5 {c : PV} (T : Tr) (h5 : c.cells.length = 5) (hc : ∃ cs, c = .agg cs) : semP (.stl 0 5) [c, T.pv] = some [some T.pv] :=
  stl_of T.Bq0 T.pv_okc T.pv_ones (by rw [T.AzV]; exact upd_all h5 T.Bq0 hc ⟨_, T.pv_nd⟩)
theorem stl_lit (a b c d e : PV) (T : Tr) : semP (.stl 0 5) [.agg [a, b, c, d, e], T.pv] = some [some T.pv] := stl_tr5 T rfl ⟨_, rfl⟩
theorem stl_trt (U T : Tr) : semP (.stl 0 5) [U.pv, T.pv] = some [some T.pv] := stl_tr5 T U.Bq0 ⟨_, U.pv_nd⟩
section
variable {x y : Int}
theorem Aq5 (k : IntKind) (h : x < y) : semP (.bin .lss 0) [.int k x, .int k y] = some [some (.bool true)] := Az4 (e := decide (x < y)) (decide_eq_true h) (by cases k <;> rfl)
theorem AqD (k : IntKind) (h : ¬ x < y) : semP (.bin .lss 0) [.int k x, .int k y] = some [some (.bool false)] := Az4 (e := decide (x < y)) (decide_eq_false h) (by cases k <;> rfl)
theorem b_leqT (k : IntKind) (h : x ≤ y) : semP (.bin .leq 0) [.int k x, .int k y] = some [some (.bool true)] := Az4 (e := decide (x ≤ y)) (decide_eq_true h) (by cases k <;> rfl)
theorem b_leqF (k : IntKind) (h : ¬ x ≤ y) : semP (.bin .leq 0) [.int k x, .int k y] = some [some (.bool false)] := Az4 (e := decide (x ≤ y)) (decide_eq_false h) (by cases k <;> rfl)
theorem AxD (k : IntKind) (h : x > y) : semP (.bin .gtr 0) [.int k x, .int k y] = some [some (.bool true)] := Az4 (e := decide (x > y)) (decide_eq_true h) (by cases k <;> rfl)
theorem Ax3 (k : IntKind) (h : ¬ x > y) : semP (.bin .gtr 0) [.int k x, .int k y] = some [some (.bool false)] := Az4 (e := decide (x > y)) (decide_eq_false h) (by cases k <;> rfl)
theorem b_geqT (k : IntKind) (h : x ≥ y) : semP (.bin .geq 0) [.int k x, .int k y] = some [some (.bool true)] := Az4 (e := decide (x ≥ y)) (decide_eq_true h) (by cases k <;> rfl)
theorem b_geqF (k : IntKind) (h : ¬ x ≥ y) : semP (.bin .geq 0) [.int k x, .int k y] = some [some (.bool false)] := Az4 (e := decide (x ≥ y)) (decide_eq_false h) (by cases k <;> rfl)
theorem AqI (k : IntKind) (h : x = y) : semP (.bin .eql 0) [.int k x, .int k y] = some [some (.bool true)] := Az4 (e := (x == y)) (beq_of_eq h) (by cases k <;> rfl)
theorem Aq7 (k : IntKind) (h : x ≠ y) : semP (.bin .eql 0) [.int k x, .int k y] = some [some (.bool false)] := Az4 (e := (x == y)) (beq_of_ne h) (by cases k <;> rfl)
theorem AxW (k : IntKind) (h : x ≠ y) : semP (.bin .neq 0) [.int k x, .int k y] = some [some (.bool true)] := Az4 (e := (x != y)) (bne_of_ne h) (by cases k <;> rfl)
theorem AxN (k : IntKind) (h : x = y) : semP (.bin .neq 0) [.int k x, .int k y] = some [some (.bool false)] := Az4 (e := (x != y)) (bne_of_eq h) (by cases k <;> rfl)
end
section
variable {x y : List UInt8}
theorem AwP (h : x = y) : semP (.bin .eql 0) [.str x, .str y] = some [some (.bool true)] := Az4 (e := (x == y)) (beq_of_eq h) rfl
theorem AkB (h : x ≠ y) : semP (.bin .eql 0) [.str x, .str y] = some [some (.bool false)] := Az4 (e := (x == y)) (beq_of_ne h) rfl
theorem s_neqT (h : x ≠ y) : semP (.bin .neq 0) [.str x, .str y] = some [some (.bool true)] := Az4 (e := (!(x == y))) (nbeq_of_ne h) rfl
theorem s_neqF (h : x = y) : semP (.bin .neq 0) [.str x, .str y] = some [some (.bool false)] := Az4 (e := (!(x == y))) (nbeq_of_eq h) rfl
end
theorem Aj3 (ff : FF) (t : Nat) (n : Option Nat) (rs : List (Nat × Option Nat)) : resK ff ((t, n) :: rs) = (match getK ff t, resK ff rs with | some v, some vs => if resOk v n then some (v.Aq0 :: vs) else none | _, _ => none) := rfl
theorem res_nil (ff : FF) : resK ff [] = some [] := rfl
theorem ok_tr (T : Tr) : resOk T.pv (some 5) = true := by rw [Tr.pv_nd]; obtain ⟨k, t, a, e, n, ks⟩ := T; cases n <;> rfl
theorem ok_none (v : PV) : resOk v none = v.free := rfl
theorem agg_disown (cs : List PV) : (PV.agg cs).Aq0 = .agg (cs.map PV.own0) := rfl
theorem own0_int (k : IntKind) (x : Int) : (PV.int k x).own0 = .int k x := rfl
theorem own0_str (x : List UInt8) : (PV.str x).own0 = .str x := rfl
theorem own0_bool (x : Bool) : (PV.bool x).own0 = .bool x := rfl
theorem own0_nils : PV.nils.own0 = .nils := rfl
theorem own0_slice (o : Bool) (s : Nat) (x : List PV) : (PV.slice o s x).own0 = .slice false s x := rfl
theorem own0_acc (size : Nat) (es : List PV) : (accP size es).own0 = accD size es := by cases es <;> rfl
theorem own0_accd (size : Nat) (es : List PV) : (accD size es).own0 = accD size es := by cases es <;> rfl
theorem agg_free (cs : List PV) : (PV.agg cs).free = true := rfl
theorem agg_flat (cs : List PV) : (PV.agg cs).flat = true := rfl
theorem BjU (cs : List PV) : (PV.tuple cs).Aq0 = .tuple cs := rfl
theorem tuple_flat (cs : List PV) : (PV.tuple cs).flat = cs.all PV.flat0 := by simp [PV.flat]
theorem tuple_free (cs : List PV) : (PV.tuple cs).free = true := rfl
theorem flat0_int (k : IntKind) (x : Int) : (PV.int k x).flat0 = true := rfl
theorem flat0_str (x : List UInt8) : (PV.str x).flat0 = true := rfl
theorem flat0_bool (x : Bool) : (PV.bool x).flat0 = true := rfl
theorem flat0_tr (T : Tr) : T.pv.flat0 = true := by rw [Tr.pv_nd]; rfl
theorem flat0_slice (o : Bool) (s : Nat) (x : List PV) : (PV.slice o s x).flat0 = true := rfl
theorem flat0_nils : PV.nils.flat0 = true := rfl
theorem flat0_accd (size : Nat) (es : List PV) : (accD size es).flat0 = true := by cases es <;> rfl
theorem cells_agg (cs : List PV) : (PV.agg cs).cells = cs := rfl
theorem ones_agg (cs : List PV) : (PV.agg cs).ones = cs.all PV.one := rfl
theorem one_kp (T : Tr) : T.kp.one = true := by obtain ⟨k, t, a, e, n, ks⟩ := T; cases n <;> rfl
theorem ones_tr (T : Tr) : T.pv.ones = true := T.pv_ones
theorem cells_tr (T : Tr) : T.pv.cells.length = 5 := T.Bq0
theorem ones_str (x : List UInt8) : (PV.str x).ones = true := rfl
theorem ones_int (k : IntKind) (x : Int) : (PV.int k x).ones = true := rfl
theorem one_str (x : List UInt8) : (PV.str x).one = true := rfl
theorem one_int (k : IntKind) (x : Int) : (PV.int k x).one = true := rfl
theorem ref_tr (T : Tr) : T.pv.isRef = false := by rw [Tr.pv_nd]; rfl
theorem tr_disown (T : Tr) : T.pv.Aq0 = T.pv := T.AzV
theorem tr_flat (T : Tr) : T.pv.flat = true := T.pv_flat
theorem tr_free (T : Tr) : T.pv.free = true := T.pv_free
end
attribute [simp] kp_disown kp_own0 kp_free kp_flat AjQ BqL BjP accd_free accd_flat acc_flat tr_disown tr_flat tr_free ok_tr ok_none agg_disown own0_int own0_str own0_bool own0_nils own0_slice own0_acc own0_accd agg_free agg_flat BjU tuple_flat tuple_free
  flat0_int flat0_str flat0_bool flat0_tr flat0_slice flat0_nils flat0_accd cells_agg ones_agg one_kp ones_tr cells_tr ref_tr res_nil ones_str ones_int one_str one_int
theorem oC {f : FuncId} {xs : List PV} {r : PV} {s : Sto} (h : E f xs [] r s) (hs : (xs.all PV.free && xs.all PV.flat) = true ∧ xs.map PV.Aq0 = xs ∧ r.flat = true ∧ r.Aq0 = r := by first | exact ⟨rfl, rfl, rfl, rfl⟩ | simp) : OpEv pur run (.c f) xs [] [some r] [] := op_c h hs.2.1 hs.1 hs.2.2.1 hs.2.2.2
theorem oCS (σ : Sto) {f : FuncId} {xs : List PV} {r : PV} {s : Sto} (h : E f xs [] r s) (hs : (xs.all PV.free && xs.all PV.flat) = true ∧ xs.map PV.Aq0 = xs ∧ r.flat = true ∧ r.Aq0 = r := by first | exact ⟨rfl, rfl, rfl, rfl⟩ | simp) : OpEv pur run (.c f) xs σ [some r] σ := op_c h hs.2.1 hs.1 hs.2.2.1 hs.2.2.2
end Go.Abs.Z

namespace Go.Abs.Z
open Go.Proofs Go.RowKit
structure Tk where
  k : Nat
  f : Nat
  a : Nat
  e : Nat
def Tk.pv (t : Tk) : PV := .agg [N t.k, N t.f, N t.a, N t.e]
structure Dg where
  c : Nat
  a : Nat
  e : Nat
  t : List UInt8
def Dg.pv (d : Dg) : PV := .agg [N d.c, N d.a, N d.e, .str d.t, .nils]
def pc (s : List UInt8) (ls : List Tk) (k l : Nat) (wr : PV) (b : Int) : List PV := [.str s, .slice true 4 (ls.map Tk.pv), N k, N l, wr, I b]
section
variable {s : List UInt8} {ls : List Tk} {k l : Nat} {wr : PV} {b : Int} {T : Sto}
theorem st_pc {o : Nat} {v : PV} {cs : List PV} (hw : wr.isSelf = false) (hv : v.cells.length = 1 ∧ v.okc = true ∧ v.ones = true) (ho : o + 1 ≤ 6) (h : AqW (pc s ls k l wr b) o v.Aq0.cells = cs) :
    OpEv pur run (.w (.st 1)) [.ref 0 o, v] (pc s ls k l wr b :: T) [] (cs :: T) := by
  have hs : (pc s ls k l wr b).any PV.isSelf = false := by
    show (false || (false || (false || (false || (wr.isSelf || (false || false)))))) = false
    rw [hw]; rfl
  refine ⟨0, fun n _ => ?_⟩
  have hc : v.cells.length = 1 ∧ o + 1 ≤ (pc s ls k l wr b).length ∧ v.okc = true ∧ v.ones = true ∧ (pc s ls k l wr b).any PV.isSelf = false := ⟨hv.1, ho, hv.2.1, hv.2.2, hs⟩;show (if _ then _ else _) = _
  rw [if_pos hc, h]; rfl
theorem stK (hw : wr.isSelf = false) {j : Nat} : OpEv pur run (.w (.st 1)) [.ref 0 2, N j] (pc s ls k l wr b :: T) [] (pc s ls j l wr b :: T) := st_pc hw ⟨rfl, rfl, rfl⟩ (by omega) rfl
theorem stL (hw : wr.isSelf = false) {j : Nat} : OpEv pur run (.w (.st 1)) [.ref 0 3, N j] (pc s ls k l wr b :: T) [] (pc s ls k j wr b :: T) := st_pc hw ⟨rfl, rfl, rfl⟩ (by omega) rfl
theorem stB (hw : wr.isSelf = false) {z : Int} : OpEv pur run (.w (.st 1)) [.ref 0 5, I z] (pc s ls k l wr b :: T) [] (pc s ls k l wr z :: T) := st_pc hw ⟨rfl, rfl, rfl⟩ (by omega) rfl
theorem stW (hw : wr.isSelf = false) {v : PV} (hv : v.cells.length = 1 ∧ v.okc = true ∧ v.ones = true ∧ v.Aq0.cells = [v] := by exact ⟨rfl, rfl, rfl, rfl⟩) : OpEv pur run (.w (.st 1)) [.ref 0 4, v] (pc s ls k l wr b :: T) [] (pc s ls k l v b :: T) :=
  st_pc hw ⟨hv.1, hv.2.1, hv.2.2.1⟩ (by omega) (by rw [hv.2.2.2]; rfl)
theorem BjM {X : List PV} {o : Bool} {d : PV} (hd : (d.Aq0, d.ones, d.okc) = (d, true, true)) : OpEv pur run (.w (.appA 5)) [.nils, .slice o 5 [d]] (X :: T) [some (.arr (T.length + 1) 0 0 1 5)] (X :: (T ++ [[.arrv 0 5 [d]]])) := by
  obtain ⟨h1, h2⟩ := Prod.mk.inj hd;obtain ⟨h2, h3⟩ := Prod.mk.inj h2;refine ⟨0, fun n _ => ?_⟩
  have hx : appXA 5 (X :: T) (.slice o 5 [d]) = some [d] := by simp [appXA]
  show (match appXA 5 (X :: T) (.slice o 5 [d]) with | some xs => appA 5 .nils xs (X :: T) | none => none) = _
  rw [hx];simp only [appA];rw [if_neg (by simp), if_pos ⟨by simp [AqE], by simp [h2], by simp [h3]⟩]
  simp [h1]
theorem BjN {X : List PV} {B : Sto} {g n : Nat} {Ds : List PV} {o : Bool} {d : PV} (hd : (d.Aq0, d.ones, d.okc) = (d, true, true)) (hn : Ds.length = n) (hm : n + 1 ≤ AqE) :
    OpEv pur run (.w (.appA 5)) [.arr (B.length + 1) g 0 n 5, .slice o 5 [d]] (X :: (B ++ [[.arrv g 5 Ds]])) [some (.arr (B.length + 1) (g + 1) 0 (n + 1) 5)] (X :: (B ++ [[.arrv (g + 1) 5 (Ds ++ [d])]])) := by
  subst hn;obtain ⟨h1, h2⟩ := Prod.mk.inj hd;obtain ⟨h2, h3⟩ := Prod.mk.inj h2
  have hr : rowA (X :: (B ++ [[.arrv g 5 Ds]])) (B.length + 1) g 0 Ds.length 5 = some Ds := by
    unfold rowA;simp [arrOf]
  refine ⟨0, fun n _ => ?_⟩
  have hx : appXA 5 (X :: (B ++ [[.arrv g 5 Ds]])) (.slice o 5 [d]) = some [d] := by simp [appXA]
  show (match appXA 5 (X :: (B ++ [[PV.arrv g 5 Ds]])) (.slice o 5 [d]) with | some xs => appA 5 (.arr (B.length + 1) g 0 Ds.length 5) xs (X :: (B ++ [[PV.arrv g 5 Ds]])) | none => none) = _
  rw [hx];simp only [appA, if_true, hr];rw [if_neg (by simp), if_pos ⟨hm, by simp [h2], by simp [h3]⟩]
  simp [h1]
end
theorem sub_nat (j m : Nat) (h : m ≤ j) (hj : j < 2000000000) : semP (.bin .sub 0) [.int .i64 (j : Nat), .int .i64 (m : Nat)] = some [some (.int .i64 ((j - m : Nat) : Int))] := by
  apply sub_of;simp [IntKind.wrap, IntKind.bits, IntKind.signed]; omega
theorem min_nat (a b : Nat) : semP .min [.int .i64 (a : Nat), .int .i64 (b : Nat)] = some [some (.int .i64 ((min a b : Nat) : Int))] := by
  show some [some (PV.int .i64 (if (b : Int) < a then (b : Int) else a))] = _
  congr 4
  split <;> omega
theorem mint (a b : Int) : semP .min [.int .i64 a, .int .i64 b] = some [some (.int .i64 (min a b))] := by
  show some [some (PV.int .i64 (if b < a then b else a))] = _
  have : (if b < a then b else a) = min a b := by rw [Int.min_def]; split <;> split <;> omega
  rw [this]
theorem AqX {o : Bool} {s : Nat} {ts : List Tk} {t : Tk} (j : Nat) (h : ts[j]? = some t) : semP (.idx s) [.slice o s (ts.map Tk.pv), .int .i64 (j : Nat)] = some [some (.vptr t.pv)] := p_idx _ _ _ _ _ (by rw [List.getElem?_map, h]; rfl)
theorem BjD {o : Bool} {s : Nat} {ts : List Dg} {t : Dg} (j : Nat) (h : ts[j]? = some t) : semP (.idx s) [.slice o s (ts.map Dg.pv), .int .i64 (j : Nat)] = some [some (.vptr t.pv)] := p_idx _ _ _ _ _ (by rw [List.getElem?_map, h]; rfl)
theorem Ak5 (o : Bool) (s : Nat) (ts : List Tk) : semP (.len false) [.slice o s (ts.map Tk.pv)] = some [some (.int .i64 (ts.length : Nat))] := by
  show some [some (PV.int .i64 ((ts.map Tk.pv).length : Nat))] = _;rw [List.length_map]
theorem len_dgs (o : Bool) (s : Nat) (ts : List Dg) : semP (.len false) [.slice o s (ts.map Dg.pv)] = some [some (.int .i64 (ts.length : Nat))] := by
  show some [some (PV.int .i64 ((ts.map Dg.pv).length : Nat))] = _;rw [List.length_map]
theorem AvT (T : Tr) : semP (.ldl 0 5 true) [T.pv] = some [some T.pv] := by
  have hk := T.kp_ok;rw [Tr.pv_nd]
  have : sub (nd T.kind T.text T.st T.en T.kp) 0 5 true = some (nd T.kind T.text T.st T.en T.kp) := by
    show (if _ then _ else _) = _
    rw [if_pos]
    · rfl
    · refine ⟨Nat.le_refl 5, ?_⟩
      show (true && (true && (true && (true && (T.kp.flat && true))))) = true;rw [hk.2.2.2]; rfl
  show (sub (nd T.kind T.text T.st T.en T.kp) 0 5 true).map _ = _;rw [this, Option.map_some, nd_disown hk]
theorem AkJ (ts : List Tr) (U : Tr) : Tr.pvs (ts ++ [U]) = Tr.pvs ts ++ [U.pv] := by rw [Tr.Aj5, Tr.Aj5, List.map_append]; rfl
theorem app_trs {ts : List Tr} (o : Bool) (U : Tr) (h : ts.length + 1 ≤ AqE) : semP (.app 5) [.slice true 5 (Tr.pvs ts), .slice o 5 [U.pv]] = some [some (.slice true 5 (Tr.pvs (ts ++ [U]))), some (.slice false 5 (Tr.pvs ts))] := by
  rw [AkJ];exact app_lit (by rw [Tr.Aj5, List.length_map]; exact h) rfl (by simp)
theorem app_tks {ts : List Tk} (o : Bool) (t : Tk) (h : ts.length + 1 ≤ AqE) : semP (.app 4) [.slice true 4 (ts.map Tk.pv), .slice o 4 [t.pv]] = some [some (.slice true 4 ((ts ++ [t]).map Tk.pv)), some (.slice false 4 (ts.map Tk.pv))] := by
  rw [List.map_append];exact app_lit (by rw [List.length_map]; exact h) rfl rfl
theorem ref_disown (a b : Nat) : (PV.ref a b).Aq0 = .ref a b := rfl
theorem ref_free (a b : Nat) : (PV.ref a b).free = true := rfl
theorem fun_disown (f : FuncId) (x y : List PV) : (PV.func f x y).Aq0 = .func f x y := rfl
theorem fun_free (f : FuncId) (x y : List PV) : (PV.func f x y).free = true := rfl
theorem tk_disown (t : Tk) : t.pv.Aq0 = t.pv := rfl
theorem tk_free (t : Tk) : t.pv.free = true := rfl
theorem tk_flat (t : Tk) : t.pv.flat = true := rfl
theorem tk_ones (t : Tk) : t.pv.ones = true := rfl
theorem nils_one : PV.nils.one = true := rfl
theorem okc_tr (T : Tr) : T.pv.okc = true := T.pv_okc
theorem okc_agg (l : List PV) : (PV.agg l).okc = true := rfl
theorem ok_agg (cs : List PV) (n : Nat) : resOk (.agg cs) (some n) = ((true && cs.length == n) && cs.all PV.flat) := rfl
theorem one_accd (z : Nat) (es : List PV) : (accD z es).one = true := by cases es <;> rfl
theorem one_acc (z : Nat) (es : List PV) : (accP z es).one = true := by cases es <;> rfl
attribute [simp] ok_agg one_accd one_acc
attribute [simp] ref_disown ref_free tk_disown tk_free tk_flat tk_ones nils_one fun_disown fun_free okc_tr okc_agg
theorem BjC {d : Nat} {a b c e : PV} {z : Nat} {es : List PV} : semP (.ldfo d) [.lref d 4, .agg [a, b, c, e, accP z es]] = some [some (accP z es), some (.agg [a, b, c, e, accD z es])] := by
  show (if d = d then _ else _) = _
  rw [if_pos rfl];cases es <;> rfl
theorem Bz5 {d : Nat} {a b c e o : PV} {z : Nat} {es : List PV} : semP (.stfo d) [.lref d 4, .agg [a, b, c, e, o], accP z es] = some [some (.agg [a, b, c, e, accP z es]), some (accD z es)] := by
  show (if d = d then _ else _) = _
  rw [if_pos rfl];cases es <;> rfl
theorem ldl_acc {a b c e : PV} {z : Nat} {es : List PV} (h : a.flat = true ∧ b.flat = true ∧ c.flat = true ∧ e.flat = true ∧ a.own0 = a ∧ b.own0 = b ∧ c.own0 = c ∧ e.own0 = e := by exact ⟨rfl, rfl, rfl, rfl, rfl, rfl, rfl, rfl⟩) :
    semP (.ldl 0 5 true) [.agg [a, b, c, e, accP z es]] = some [some (.agg [a, b, c, e, accD z es])] := by
  obtain ⟨h1, h2, h3, h4, h5, h6, h7, h8⟩ := h
  have hs : sub (.agg [a, b, c, e, accP z es]) 0 5 true = some (.agg [a, b, c, e, accP z es]) := by
    show (if _ then _ else _) = _
    rw [if_pos]
    · rfl
    · refine ⟨Nat.le_refl 5, ?_⟩
      show (a.flat && (b.flat && (c.flat && (e.flat && ((accP z es).flat && true))))) = true;rw [h1, h2, h3, h4, acc_flat]; rfl
  show (sub (.agg [a, b, c, e, accP z es]) 0 5 true).map _ = _;rw [hs];show some [some (PV.agg [a.own0, b.own0, c.own0, e.own0, (accP z es).own0])] = _;rw [h5, h6, h7, h8, own0_acc]
theorem oW {f : FuncId} {xs : List PV} {σ σ' : Sto} {r : PV} (h : E f xs σ r σ') (hp : pur f = false := by rfl) (hs : xs.map PV.Aq0 = xs ∧ xs.all PV.free = true ∧ r.Aq0 = r := by first | exact ⟨rfl, rfl, rfl⟩ | simp) : OpEv pur run (.w (.call f)) xs σ [some r] σ' := op_wc h hp hs.1 hs.2.1 hs.2.2
abbrev r0 : PV := .ref 0 0
abbrev Z1 : PV := .agg [(I 0), (.str []), (I 0), (I 0), .nils]
abbrev Hk (x : Sto) (n : Nat) : Prop := semR (.ld 1 false) [.ref 0 2] x = some [some (N n)]
abbrev Hc (x : Sto) (n : Nat) : Prop := E 25 [r0] x (N n) x
abbrev Hp (x : Sto) (n m : Nat) : Prop := E 75 [r0] x (.tuple [N n, N m]) x
abbrev Hb (f : FuncId) (w : List UInt8) (x : Sto) (b : Bool) (y : Sto) : Prop := E f [r0, .str w] x (.bool b) y
abbrev Hq (f : FuncId) (w : List UInt8) (x : Sto) (y : Sto) : Prop := E f [r0, .str w] x (.tuple []) y
abbrev Hw (ws : List PV) (x : Sto) (b : Bool) : Prop := E 50 [r0, .slice false 1 ws] x (.bool b) x
abbrev Hi (n : Int) (x : Sto) (b : Bool) : Prop := E 49 [r0, I n] x (.bool b) x
abbrev Hs (f : FuncId) (x : Sto) (w : List UInt8) (y : Sto) : Prop := E f [r0] x (.str w) y
abbrev Hx (n : Int) (x : Sto) (U : Tr) (y : Sto) : Prop := E 36 [r0, I n] x U.pv y
abbrev Ht (f : FuncId) (x : Sto) (U : Tr) (y : Sto) : Prop := E f [r0] x U.pv y
abbrev Hn (j : Nat) (k : Int) (w : List UInt8) (ks : PV) (x : Sto) (U : Tr) : Prop := E 31 [r0, N j, I k, .str w, ks] x U.pv x
abbrev Hm (k : Int) (w : List UInt8) (j l : Nat) (ks : PV) (x : Sto) (U : Tr) : Prop := E 78 [r0, I k, .str w, N j, N l, ks] x U.pv x
theorem bz0 (q : Sto) : OpEv pur run (.p (.bsl 5)) [] q [some (.slice true 5 [])] q := op_p (bsl_of (by simp) (by simp))
theorem bz1 (q : Sto) (U : Tr) : OpEv pur run (.p (.bsl 5)) [U.pv] q [some (.slice true 5 [U.pv])] q := op_p (bsl_of (by simp) (by simp))
theorem bz2 (q : Sto) (U V : Tr) : OpEv pur run (.p (.bsl 5)) [U.pv, V.pv] q [some (.slice true 5 [U.pv, V.pv])] q := op_p (bsl_of (by simp) (by simp))
theorem bz3 (q : Sto) (U V W : Tr) : OpEv pur run (.p (.bsl 5)) [U.pv, V.pv, W.pv] q [some (.slice true 5 [U.pv, V.pv, W.pv])] q := op_p (bsl_of (by simp) (by simp))
theorem wn {j : Nat} {k : Int} {w : List UInt8} {xs : List PV} {q : Sto} {U : Tr} (h : Hn j k w (.slice false 5 xs) q U) : OpEv pur run (.w (.call 31)) [r0, N j, I k, .str w, .slice true 5 xs] q [some U.pv] q := op_wc h (by rfl) (by rfl) (by rfl) (by simp)
theorem wm {j l : Nat} {k : Int} {w : List UInt8} {xs : List PV} {q : Sto} {U : Tr} (h : Hm k w j l (.slice false 5 xs) q U) : OpEv pur run (.w (.call 78)) [r0, I k, .str w, N j, N l, .slice true 5 xs] q [some U.pv] q := op_wc h (by rfl) (by rfl) (by rfl) (by simp)
theorem zl (q : Sto) (U : Tr) : OpEv pur run (.p (.stl 0 5)) [Z1, U.pv] q [some U.pv] q := PS q (stl_lit (I 0) (.str []) (I 0) (I 0) .nils U)
theorem rz (n : Nat) (U : Tr) : (resK [(n, some U.pv)] [(n, some 5)]).bind packR = some U.pv := by simp [Aj3, packR]
end Go.Abs.Z
