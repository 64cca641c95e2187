/- A part of the proof: A9 A10 A11 A12. -/
import Derived.Test.YtakhbjefcjmelaaGreatDoorKb
import Derived.Laws.Tables
import Derived.MapKept

set_option linter.unusedVariables false
set_option linter.unusedSimpArgs false
namespace Go.Abs
open Go.RowKit
section
variable {P : Program} {pur : FuncId → Bool} {call : Caller} {fi : FI} {cx : Cx} {G : Gh} {a : Act} {w : World} {A A' : Frm} {σ σ' : Sto}
theorem run_builtin {o : Oper} {c : Call} {b : Builtin} (ho : o.op = .call c) (hb : c.callee = .builtin b) :
    ∃ consts, (execOp a.eval o).run P w = (builtin b c.argTypes o.type consts (c.args.map a.eval)).run P w := by
  simp only [execOp, ho, resolve, hb, invoke, Sem.run_bind, Sem.run_pure, Result.andThen_ok]
  exact ⟨_, rfl⟩
theorem gives2 (hi : Inv cx G a w A σ) (hkd : ∀ t, cx.kd t = fi.kind t) (hnt : cx.nt = fi.nt) {o : Oper} {k : PK} {xs : List Operand} {as : List AArg} (hd : plainDst fi o.dst = true)
    (hrun : runA pur call { dst := o.dst, k := .p k, args := as } A σ = some (A', σ')) (hc : compArgs fi xs = some as)
    {V : PV → PV → Option PV} (hk2 : ∀ vs rs, semP k vs = some rs → ∃ p q r, vs = [p, q] ∧ V p q = some r ∧ rs = [some r])
    (hsem : ∀ x y p q r, xs = [x, y] → V p q = some r → (p.free = true → RepT G.I G.bl w (a.eval x) p) → (q.free = true → RepT G.I G.bl w (a.eval y) q) →
      r.free = true ∧ ∃ v, (execOp a.eval o).run P w = .ok (.value v) w ∧ RepT G.I G.bl w v r ∧ ∀ tag, OwnOk G w tag v r) : Gives P cx o a w A' σ' := by
  refine gives0 hi hkd hnt hd hrun fun vs rs he hs => ?_
  obtain ⟨p, q, r, rfl, hv, rfl⟩ := hk2 vs rs hs
  obtain ⟨x, x', y, y', rfl, rfl, h1, h2, h3, h4⟩ := args2 hc he
  obtain ⟨hf, v, h5, h6, h7⟩ := hsem x x' p q r rfl hv (fun hf => arg_rep hi hkd h1 h3 hf) (fun hf => arg_rep hi hkd h2 h4 hf)
  exact ⟨r, v, rfl, hf, h5, h6, h7⟩
theorem gives1 (hi : Inv cx G a w A σ) (hkd : ∀ t, cx.kd t = fi.kind t) (hnt : cx.nt = fi.nt) {o : Oper} {k : PK} {xs : List Operand} {as : List AArg} (hd : plainDst fi o.dst = true)
    (hrun : runA pur call { dst := o.dst, k := .p k, args := as } A σ = some (A', σ')) (hc : compArgs fi xs = some as)
    {V : PV → Option PV} (hk2 : ∀ vs rs, semP k vs = some rs → ∃ p r, vs = [p] ∧ V p = some r ∧ rs = [some r])
    (hsem : ∀ x p r, xs = [x] → V p = some r → (p.free = true → RepT G.I G.bl w (a.eval x) p) →
      r.free = true ∧ ∃ v, (execOp a.eval o).run P w = .ok (.value v) w ∧ RepT G.I G.bl w v r ∧ ∀ tag, OwnOk G w tag v r) : Gives P cx o a w A' σ' := by
  refine gives0 hi hkd hnt hd hrun fun vs rs he hs => ?_
  obtain ⟨p, r, rfl, hv, rfl⟩ := hk2 vs rs hs
  obtain ⟨x, y, rfl, rfl, h1, h3⟩ := args1 hc he
  obtain ⟨hf, v, h5, h6, h7⟩ := hsem x p r rfl hv (fun hf => arg_rep hi hkd h1 h3 hf)
  exact ⟨r, v, rfl, hf, h5, h6, h7⟩
theorem two_of {k : PK} {V : PV → PV → Option PV} (h2 : ∀ p q, semP k [p, q] = (V p q).map fun v => [some v]) (h0 : semP k [] = none) (h1 : ∀ p, semP k [p] = none) (h3 : ∀ p q r l, semP k (p :: q :: r :: l) = none) :
    ∀ vs rs, semP k vs = some rs → ∃ p q r, vs = [p, q] ∧ V p q = some r ∧ rs = [some r] := by
  intro vs rs h
  match vs with
  | [] => rw [h0] at h; cases h
  | [p] => rw [h1] at h; cases h
  | [p, q] =>
    rw [h2] at h
    obtain ⟨r, hr, e⟩ := Option.map_eq_some_iff.1 h
    exact ⟨p, q, r, rfl, hr, e.symm⟩
  | p :: q :: r :: l => rw [h3] at h; cases h
theorem one_of {k : PK} {V : PV → Option PV} (h1 : ∀ p, semP k [p] = (V p).map fun v => [some v]) (h0 : semP k [] = none) (h3 : ∀ p q l, semP k (p :: q :: l) = none) :
    ∀ vs rs, semP k vs = some rs → ∃ p r, vs = [p] ∧ V p = some r ∧ rs = [some r] := by
  intro vs rs h
  match vs with
  | [] => rw [h0] at h; cases h
  | [p] =>
    rw [h1] at h
    obtain ⟨r, hr, e⟩ := Option.map_eq_some_iff.1 h
    exact ⟨p, r, rfl, hr, e.symm⟩
  | p :: q :: l => rw [h3] at h; cases h
theorem sim_len (hi : Inv cx G a w A σ) (hkd : ∀ t, cx.kd t = fi.kind t) (hnt : cx.nt = fi.nt) {o : Oper} {c : Call} (ho : o.op = .call c) (hb : c.callee = .builtin .len) {st : Bool}
    (ht : (st = true ∧ c.argTypes.toList.map P.underlying = [some .string]) ∨ (st = false ∧ ∃ e, c.argTypes.toList.map P.underlying = [some (.slice e)]))
    {as : List AArg} (hc : compArgs fi c.args.toList = some as) (hd : plainDst fi o.dst = true) (hrun : runA pur call { dst := o.dst, k := .p (.len st), args := as } A σ = some (A', σ')) : Gives P cx o a w A' σ' := by
  refine gives1 hi hkd hnt hd hrun hc (one_of (V := lenV st) (fun _ => rfl) rfl (fun _ _ _ => rfl)) fun x p r hx hv hp => ?_
  have hx' : c.args = #[x] := by apply Array.toList_inj.1; simpa using hx
  obtain ⟨consts, hr⟩ := run_builtin (P := P) (w := w) (a := a) ho hb
  rw [hx'] at hr
  have htt : ∃ t, c.argTypes = #[t] ∧ ((st = true ∧ P.underlying t = some .string) ∨ (st = false ∧ ∃ e, P.underlying t = some (.slice e))) := by
    rcases ht with ⟨h, ht⟩ | ⟨h, e, ht⟩ <;> (
      cases hl : c.argTypes.toList with
      | nil => rw [hl] at ht; simp at ht
      | cons t r => cases r with
        | nil =>
          rw [hl] at ht; simp at ht
          refine ⟨t, by apply Array.toList_inj.1; simpa using hl, ?_⟩
          first | exact .inl ⟨h, ht⟩ | exact .inr ⟨h, e, ht⟩
        | cons _ _ => rw [hl] at ht; simp at ht)
  obtain ⟨t, htt, hu⟩ := htt
  clear ht
  rw [htt] at hr
  cases p with
  | str l =>
    obtain ⟨s, e, rfl⟩ := (hp rfl).str_inv
    simp only [lenV] at hv
    rcases hu with ⟨rfl, hu⟩ | ⟨rfl, _⟩
    · simp at hv; subst hv
      refine ⟨rfl, .int .i64 s.data.toList.length, ?_, .one (.inl (.int _ _)), fun _ => trivial⟩
      rw [hr, ← Lib.size_eq]
      simp [builtin, Builtin.len_, e, underlying, hu, goInt]
    · simp at hv
  | slice own sz es =>
    obtain ⟨b, len, cap, cv, e, e1, _⟩ := (hp rfl).slice_inv
    simp only [lenV] at hv
    rcases hu with ⟨rfl, _⟩ | ⟨rfl, el, hu⟩
    · simp at hv
    · simp at hv; subst hv
      refine ⟨rfl, .int .i64 es.length, ?_, .one (.inl (.int _ _)), fun _ => trivial⟩
      rw [hr]
      simp [builtin, Builtin.len_, e, underlying, hu, goInt, e1]
  | arr id gen off len sz =>
    obtain ⟨b, base, n, cap, b', o', _, _, _, _, e⟩ := (hp rfl).arr_inv
    simp only [lenV] at hv
    rcases hu with ⟨rfl, _⟩ | ⟨rfl, el, hu⟩
    · simp at hv
    · simp at hv; subst hv
      refine ⟨rfl, .int .i64 len, ?_, .one (.inl (.int _ _)), fun _ => trivial⟩
      rw [hr]
      simp [builtin, Builtin.len_, e, underlying, hu, goInt]
  | empt =>
    obtain ⟨ad, e⟩ := (hp rfl).empt_inv
    simp only [lenV] at hv
    rcases hu with ⟨rfl, _⟩ | ⟨rfl, el, hu⟩
    · simp at hv
    · simp at hv; subst hv
      refine ⟨rfl, .int .i64 0, ?_, .one (.inl (.int _ _)), fun _ => trivial⟩
      rw [hr]
      simp [builtin, Builtin.len_, e, underlying, hu, goInt]
  | nils =>
    have e := (hp rfl).nils_inv
    simp only [lenV] at hv
    rcases hu with ⟨rfl, _⟩ | ⟨rfl, el, hu⟩
    · simp at hv
    · simp at hv; subst hv
      refine ⟨rfl, .int .i64 0, ?_, .one (.inl (.int _ _)), fun _ => trivial⟩
      rw [hr]
      simp [builtin, Builtin.len_, e, underlying, hu, goInt]
  | _ => simp [lenV] at hv
theorem sim_cap0 (hi : Inv cx G a w A σ) (hkd : ∀ t, cx.kd t = fi.kind t) (hnt : cx.nt = fi.nt) {o : Oper} {c : Call} (ho : o.op = .call c) (hb : c.callee = .builtin .cap)
    (ht : ∃ e, c.argTypes.toList.map P.underlying = [some (.slice e)])
    {as : List AArg} (hc : compArgs fi c.args.toList = some as) (hd : plainDst fi o.dst = true) (hrun : runA pur call { dst := o.dst, k := .p .cap0, args := as } A σ = some (A', σ')) : Gives P cx o a w A' σ' := by
  refine gives1 hi hkd hnt hd hrun hc (one_of (V := fun x => match x with | .nils | .empt => some (.int .i64 0) | _ => none) (fun p => by cases p <;> rfl) rfl (fun _ _ _ => rfl)) fun x p r hx hv hp => ?_
  have hx' : c.args = #[x] := by apply Array.toList_inj.1; simpa using hx
  obtain ⟨consts, hr⟩ := run_builtin (P := P) (w := w) (a := a) ho hb
  rw [hx'] at hr
  obtain ⟨el, ht⟩ := ht
  have htt : ∃ t, c.argTypes = #[t] ∧ P.underlying t = some (.slice el) := by
    cases hl : c.argTypes.toList with
    | nil => rw [hl] at ht; simp at ht
    | cons t r => cases r with
      | nil =>
        rw [hl] at ht; simp at ht
        exact ⟨t, by apply Array.toList_inj.1; simpa using hl, ht⟩
      | cons _ _ => rw [hl] at ht; simp at ht
  obtain ⟨t, htt, hu⟩ := htt
  rw [htt] at hr
  cases p with
  | nils =>
    have e := (hp rfl).nils_inv
    cases hv
    refine ⟨rfl, .int .i64 0, ?_, .one (.inl (.int _ _)), fun _ => trivial⟩
    rw [hr]
    simp [builtin, Builtin.cap_, e, underlying, hu, goInt]
  | empt =>
    obtain ⟨ad, e⟩ := (hp rfl).empt_inv
    cases hv
    refine ⟨rfl, .int .i64 0, ?_, .one (.inl (.int _ _)), fun _ => trivial⟩
    rw [hr]
    simp [builtin, Builtin.cap_, e, underlying, hu, goInt]
  | _ => simp at hv
theorem sim_min (hi : Inv cx G a w A σ) (hkd : ∀ t, cx.kd t = fi.kind t) (hnt : cx.nt = fi.nt) {o : Oper} {c : Call} (ho : o.op = .call c) (hb : c.callee = .builtin .min)
    {as : List AArg} (hc : compArgs fi c.args.toList = some as) (hd : plainDst fi o.dst = true) (hrun : runA pur call { dst := o.dst, k := .p .min, args := as } A σ = some (A', σ')) : Gives P cx o a w A' σ' := by
  refine gives2 hi hkd hnt hd hrun hc (two_of (V := minV) (fun _ _ => rfl) rfl (fun _ => rfl) (fun _ _ _ _ => rfl)) fun x y p q r hx hv hp hq => ?_
  have hx' : c.args = #[x, y] := by apply Array.toList_inj.1; simpa using hx
  obtain ⟨consts, hr⟩ := run_builtin (P := P) (w := w) (a := a) ho hb
  rw [hx'] at hr
  cases p with
  | int k n => cases q with
    | int k' m =>
      simp only [minV] at hv; cases hv
      have e1 := (hp rfl).int_inv
      have e2 := (hq rfl).int_inv
      exact ⟨rfl, .int k (if m < n then m else n), by rw [hr]; simp [builtin, Builtin.min_, Builtin.min2, e1, e2], .one (.inl (.int _ _)), fun _ => trivial⟩
    | _ => simp [minV] at hv
  | _ => simp [minV] at hv
theorem sim_max (hi : Inv cx G a w A σ) (hkd : ∀ t, cx.kd t = fi.kind t) (hnt : cx.nt = fi.nt) {o : Oper} {c : Call} (ho : o.op = .call c) (hb : c.callee = .builtin .max)
    {as : List AArg} (hc : compArgs fi c.args.toList = some as) (hd : plainDst fi o.dst = true) (hrun : runA pur call { dst := o.dst, k := .p .max, args := as } A σ = some (A', σ')) : Gives P cx o a w A' σ' := by
  refine gives2 hi hkd hnt hd hrun hc (two_of (V := maxV) (fun _ _ => rfl) rfl (fun _ => rfl) (fun _ _ _ _ => rfl)) fun x y p q r hx hv hp hq => ?_
  have hx' : c.args = #[x, y] := by apply Array.toList_inj.1; simpa using hx
  obtain ⟨consts, hr⟩ := run_builtin (P := P) (w := w) (a := a) ho hb
  rw [hx'] at hr
  cases p with
  | int k n => cases q with
    | int k' m =>
      simp only [maxV] at hv; cases hv
      have e1 := (hp rfl).int_inv
      have e2 := (hq rfl).int_inv
      exact ⟨rfl, .int k (if n < m then m else n), by rw [hr]; simp [builtin, Builtin.max_, Builtin.max2, e1, e2], .one (.inl (.int _ _)), fun _ => trivial⟩
    | _ => simp [maxV] at hv
  | _ => simp [maxV] at hv
theorem sim_sidx (hi : Inv cx G a w A σ) (hkd : ∀ t, cx.kd t = fi.kind t) (hnt : cx.nt = fi.nt) {o : Oper} {t : TypeId} {x y : Operand} (ho : o.op = .index t x y) (ht : P.underlying t = some .string)
    {as : List AArg} (hc : compArgs fi [x, y] = some as) (hd : plainDst fi o.dst = true) (hrun : runA pur call { dst := o.dst, k := .p .sidx, args := as } A σ = some (A', σ')) : Gives P cx o a w A' σ' := by
  refine gives2 hi hkd hnt hd hrun hc (two_of (V := sidxV) (fun _ _ => rfl) rfl (fun _ => rfl) (fun _ _ _ _ => rfl)) fun x' y' p q r hx hv hp hq => ?_
  cases hx
  cases p with
  | str l => cases q with
    | int k i =>
      obtain ⟨s, e1, rfl⟩ := (hp rfl).str_inv
      have e2 := (hq rfl).int_inv
      simp only [sidxV] at hv
      split at hv
      · rename_i h0
        obtain ⟨b, hb, rfl⟩ := Option.map_eq_some_iff.1 hv
        refine ⟨rfl, .int .u8 b.toNat, ?_, .one (.inl (.int _ _)), fun _ => trivial⟩
        have hlt := (List.getElem?_eq_some_iff.1 hb).1
        have hsz := Lib.size_eq s
        have hlt' : i.toNat < s.size := by omega
        have hget : s[i.toNat]? = some b := by
          rw [getElem?_pos s i.toNat hlt']
          have := (List.getElem?_eq_some_iff.1 hb).2
          rw [← this]
          rfl
        simp [execOp, ho, Instr.index, e1, e2, asIntOf, underlying, ht, h0, hget]
      · cases hv
    | _ => simp [sidxV] at hv
  | _ => simp [sidxV] at hv
end
end Go.Abs

namespace Go.Abs
open Go.RowKit
section
variable {P : Program} {pur : FuncId → Bool} {call : Caller} {fi : FI} {cx : Cx} {G : Gh} {a : Act} {w : World} {A A' : Frm} {σ σ' : Sto}
theorem RefOk.noflat {bl : Bl} {v : Value} {p : PV} (h : RefOk bl v p) : p.flat = false := by cases h <;> rfl
theorem RefOk.noflat0' {bl : Bl} {v : Value} {p : PV} (h : RefOk bl v p) : p.flat0 = false := by cases h <;> rfl
theorem add_none (b off n : Nat) : Addr.add ⟨b, off, none⟩ n = ⟨b, off + n, none⟩ := by
  unfold Addr.add; split
  · rename_i h; simp [h]
  · rfl
theorem RepT.flat {I : Imm} {bl : Bl} {v : Value} {p : PV} (h : RepT I bl w v p) (hf : p.flat = true) : Rep I w v p := by
  cases h with
  | one h =>
    rcases h with h | h
    · exact h
    · rw [h.noflat] at hf; cases hf
  | @func f fs cs first cap h1 h2 hf' hc =>
    simp only [PV.flat, Bool.and_eq_true, List.all_eq_true] at hf
    refine .func h1 h2 (fun i p hp => ?_) (fun i p hp => ?_)
    · rcases hf' i p hp with h | h
      · exact h
      · have := hf.1 _ (List.mem_of_getElem? hp); rw [h.noflat0'] at this; cases this
    · rcases hc i p hp with h | h
      · exact h
      · have := hf.2 _ (List.mem_of_getElem? hp); rw [h.noflat0'] at this; cases this
  | tuple h hr =>
    simp only [PV.flat, List.all_eq_true] at hf
    refine .tuple h fun i p hp => ?_
    rcases hr i p hp with h | h
    · exact h
    · have := hf _ (List.mem_of_getElem? hp); rw [h.noflat0'] at this; cases this
  | aggr _ _ => cases hf
theorem RepT.rep1 {I : Imm} {bl : Bl} {v : Value} {p : PV} (h : RepT I bl w v p) (hf : (p.flat || p.isRef) = true) : Rep1 I bl w v p := by
  rcases Bool.or_eq_true_iff.1 hf with hf | hf
  · exact .inl (h.flat hf)
  · cases h with
    | one h => exact h
    | func _ _ _ _ => cases hf
    | tuple _ _ => cases hf
    | aggr _ _ => cases hf
theorem free_of_flatRef {p : PV} (h : (p.flat || p.isRef) = true) : p.free = true := by
  cases p <;> first | rfl | simp [PV.flat, PV.isRef] at h
theorem run_bound {x : Value} {k : IntKind} {i : Int} {y : Nat} {c : BoundsCode} (hx : x = .int k i) (h0 : 0 ≤ i) (h1 : i ≤ y) : (Instr.sliceBound x y c).run P w = .ok i.toNat w := by
  subst hx
  simp [Instr.sliceBound, asIntOf, h0, h1]
theorem run_bounds {isSlice : Bool} {n cap : Nat} (hcap : n ≤ cap) {lo hi : Option Operand} {bs : List PV} {l h : Nat} (hb : cutB lo.isSome hi.isSome n bs = some (l, h))
    (hrep : ∀ (i : Nat) (x : Operand) (p : PV), (lo.toList ++ hi.toList)[i]? = some x → bs[i]? = some p → p.free = true → RepT G.I G.bl w (a.eval x) p) :
    (Instr.sliceBounds isSlice n cap (lo.map a.eval) (hi.map a.eval) none).run P w = .ok (l, h, cap) w ∧ l ≤ h ∧ h ≤ n := by
  unfold cutB at hb
  split at hb
  · rename_i k1 l' k2 h' e1 e2
    obtain ⟨x, rfl⟩ := Option.isSome_iff_exists.1 e1
    obtain ⟨y, rfl⟩ := Option.isSome_iff_exists.1 e2
    split at hb
    · rename_i hc
      cases hb
      obtain ⟨c1, c2, c3⟩ := hc
      have r1 := (hrep 0 x (.int k1 l') rfl rfl rfl).int_inv
      have r2 := (hrep 1 y (.int k2 h') rfl rfl rfl).int_inv
      refine ⟨?_, by omega, by omega⟩
      simp only [Instr.sliceBounds, Option.map_some, Sem.run_bind, Sem.run_pure, Result.andThen_ok]
      rw [run_bound r2 (by omega) (by omega), Result.andThen_ok, run_bound r1 c1 (by omega)]
      rfl
    · cases hb
  · rename_i k1 l' e1 e2
    obtain ⟨x, rfl⟩ := Option.isSome_iff_exists.1 e1
    cases hi with
    | some y => simp at e2
    | none =>
      split at hb
      · rename_i hc
        cases hb
        obtain ⟨c1, c2⟩ := hc
        have r1 := (hrep 0 x (.int k1 l') rfl rfl rfl).int_inv
        refine ⟨?_, by omega, by omega⟩
        simp only [Instr.sliceBounds, Option.map_some, Option.map_none, Sem.run_bind, Sem.run_pure, Result.andThen_ok]
        rw [run_bound r1 c1 (by omega)]
        rfl
      · cases hb
  · rename_i k1 h' e1 e2
    obtain ⟨y, rfl⟩ := Option.isSome_iff_exists.1 e2
    cases lo with
    | some y => simp at e1
    | none =>
      split at hb
      · rename_i hc
        cases hb
        obtain ⟨c1, c2⟩ := hc
        have r1 := (hrep 0 y (.int k1 h') rfl rfl rfl).int_inv
        refine ⟨?_, by omega, by omega⟩
        simp only [Instr.sliceBounds, Option.map_some, Option.map_none, Sem.run_bind, Sem.run_pure, Result.andThen_ok]
        rw [run_bound r1 c1 (by omega)]
        rfl
      · cases hb
  · rename_i e1 e2
    cases hb
    cases lo with
    | some y => simp at e1
    | none => cases hi with
      | some y => simp at e2
      | none => exact ⟨rfl, by omega, by omega⟩
  · cases hb
theorem givesN (hi : Inv cx G a w A σ) (hkd : ∀ t, cx.kd t = fi.kind t) (hnt : cx.nt = fi.nt) {o : Oper} {k : PK} {xs : List Operand} {as : List AArg} (hd : plainDst fi o.dst = true)
    (hrun : runA pur call { dst := o.dst, k := .p k, args := as } A σ = some (A', σ')) (hc : compArgs fi xs = some as)
    (hsem : ∀ vs rs, semP k vs = some rs → xs.length = vs.length → (∀ (i : Nat) (x : Operand) (p : PV), xs[i]? = some x → vs[i]? = some p → p.free = true → RepT G.I G.bl w (a.eval x) p) →
      ∃ r v, rs = [some r] ∧ r.free = true ∧ (execOp a.eval o).run P w = .ok (.value v) w ∧ RepT G.I G.bl w v r ∧ ∀ tag, OwnOk G w tag v r) : Gives P cx o a w A' σ' := by
  refine gives0 hi hkd hnt hd hrun fun vs rs he hs => ?_
  have key : ∀ {xs : List Operand} {as : List AArg}, compArgs fi xs = some as → ∀ {vs : List PV}, evalArgs A as = some vs →
      xs.length = vs.length ∧ ∀ (i : Nat) (x : Operand) (p : PV), xs[i]? = some x → vs[i]? = some p → p.free = true → RepT G.I G.bl w (a.eval x) p := by
    intro xs
    induction xs with
    | nil => intro as h vs h'; cases h; cases h'; exact ⟨rfl, fun i x p h => by simp at h⟩
    | cons x xs ih =>
      intro as h vs h'
      obtain ⟨y, zs, rfl, h1, h2⟩ := compArgs_cons h
      obtain ⟨p, qs, rfl, h3, h4⟩ := evalArgs_cons h'
      obtain ⟨hl, hr⟩ := ih h2 h4
      refine ⟨by simp [hl], fun i x' p' hx hp hf => ?_⟩
      cases i with
      | zero => simp at hx hp; subst hx hp; exact arg_rep hi hkd h1 h3 hf
      | succ i => exact hr i x' p' (by simpa using hx) (by simpa using hp) hf
  obtain ⟨hl, hr⟩ := key hc he
  obtain ⟨r, v, h1, h2⟩ := hsem vs rs hs hl hr
  exact ⟨r, v, h1, h2⟩
theorem sim_ssl (hi : Inv cx G a w A σ) (hkd : ∀ t, cx.kd t = fi.kind t) (hnt : cx.nt = fi.nt) {o : Oper} {t : TypeId} {x : Operand} {lo hi' : Option Operand} (ho : o.op = .slice t x lo hi' none)
    (ht : P.underlying t = some .string)
    {as : List AArg} (hc : compArgs fi (x :: (lo.toList ++ hi'.toList)) = some as) (hd : plainDst fi o.dst = true) (hrun : runA pur call { dst := o.dst, k := .p (.ssl lo.isSome hi'.isSome), args := as } A σ = some (A', σ')) : Gives P cx o a w A' σ' := by
  refine givesN hi hkd hnt hd hrun hc fun vs rs hs hl hrep => ?_
  match vs, hl with
  | p :: bs, _ =>
    cases p with
    | str l =>
      obtain ⟨s, e, rfl⟩ := (hrep 0 x _ rfl rfl rfl).str_inv
      simp only [semP] at hs
      obtain ⟨⟨l, h⟩, hb, e'⟩ := Option.map_eq_some_iff.1 hs
      cases e'
      rw [← Lib.size_eq] at hb
      obtain ⟨hr, h1, h2⟩ := run_bounds (P := P) (G := G) (a := a) (w := w) (isSlice := false) (cap := s.size) (Nat.le_refl _) hb (fun i x p hx hp hf => hrep (i + 1) x p (by simpa using hx) (by simpa using hp) hf)
      refine ⟨_, .string (s.extract l h), rfl, rfl, ?_, ?_, fun _ => trivial⟩
      · simp [execOp, ho, Instr.sliceAt, Instr.slice, underlying, ht, e, hr]
      · rw [← Lib.extract_data]; exact .one (.inl (.str _))
    | _ => simp [semP] at hs
  | [], hl => simp at hl
theorem sim_vsl (hi : Inv cx G a w A σ) (hkd : ∀ t, cx.kd t = fi.kind t) (hnt : cx.nt = fi.nt) {o : Oper} {t e : TypeId} {x : Operand} {lo hi' : Option Operand} (ho : o.op = .slice t x lo hi' none)
    (ht : P.underlying t = some (.slice e)) {size : Nat} {ag : Bool} (hsz : cellsT P e = some (size, ag))
    {as : List AArg} (hc : compArgs fi (x :: (lo.toList ++ hi'.toList)) = some as) (hd : plainDst fi o.dst = true) (hrun : runA pur call { dst := o.dst, k := .p (.vsl size lo.isSome hi'.isSome), args := as } A σ = some (A', σ')) : Gives P cx o a w A' σ' := by
  refine givesN hi hkd hnt hd hrun hc fun vs rs hs hl hrep => ?_
  match vs, hl with
  | p :: bs, _ =>
    cases p with
    | slice own sz es =>
      obtain ⟨ad, len, cap, cv, ev, e1, e2, e3, e4, e5, e6, e7⟩ := (hrep 0 x _ rfl rfl rfl).slice_inv
      simp only [semP] at hs
      split at hs
      · rename_i hsz'
        subst hsz'
        obtain ⟨⟨l, h⟩, hb, e'⟩ := Option.map_eq_some_iff.1 hs
        cases e'
        rw [← e1] at hb
        obtain ⟨hr, h1, h2⟩ := run_bounds (P := P) (G := G) (a := a) (w := w) (isSlice := true) (cap := cap) e2 hb (fun i x p hx hp hf => hrep (i + 1) x p (by simpa using hx) (by simpa using hp) hf)
        have hsize : (sizeOf e).run P w = .ok sz w := by
          unfold cellsT at hsz
          split at hsz
          · rename_i i d hi hd; cases hsz; simp [sizeOf, typeInfo, hi]
          · cases hsz
        have hget : ∀ i el, ((es.drop l).take (h - l))[i]? = some el → i < h - l ∧ es[l + i]? = some el := by
          intro i el hel
          rw [List.getElem?_take] at hel
          split at hel
          · rename_i hlt
            rw [List.getElem?_drop] at hel
            exact ⟨hlt, hel⟩
          · cases hel
        refine ⟨_, .slice (if cap = l then some ad else (some ad).map (·.add (l * sz))) (h - l) (cap - l), rfl, rfl, ?_, ?_, fun _ => trivial⟩
        · simp [execOp, ho, Instr.sliceAt, Instr.slice, underlying, ht, ev, hr, hsize]
        · refine .one (.inl ?_)
          have hlen : h - l = ((es.drop l).take (h - l)).length := by
            rw [List.length_take, List.length_drop]; omega
          by_cases hcl : cap = l
          · rw [if_pos hcl]
            have h0 : h - l = 0 := by omega
            have hemp : (es.drop l).take (h - l) = [] := by rw [h0]; simp
            rw [hemp] at hlen ⊢
            exact .slice (fun i j => cv (l + i) j) hlen (by omega) (fun hne => absurd rfl hne) (fun i e h => by simp at h) (fun i e j p h => by simp at h) (fun i e j p h => by simp at h) (fun i e j p h => by simp at h)
          · rw [if_neg hcl]
            simp only [Option.map_some]
            have hadd : es ≠ [] → ad.add (l * sz) = ⟨ad.block, ad.off + l * sz, none⟩ := by
              intro hne
              have hsp := e3 hne
              unfold Addr.add
              split
              · rename_i h0
                rw [h0]
                cases ad
                dsimp only at hsp
                rw [hsp]
                rfl
              · rfl
            have hblk : (ad.add (l * sz)).block = ad.block ∧ (ad.add (l * sz)).off = ad.off + l * sz := by
              unfold Addr.add; split
              · rename_i h0; simp [h0]
              · exact ⟨rfl, rfl⟩
            refine .slice (fun i j => cv (l + i) j) hlen (by omega) (fun hne => ?_) ?_ ?_ ?_ ?_
            · have : es ≠ [] := by intro h0; rw [h0] at hne; simp at hne
              rw [hadd this]
            · intro i el hel; exact e4 _ _ (hget i el hel).2
            · intro i el j q hel hq
              rw [hblk.1, hblk.2]
              have := e5 _ _ j q (hget i el hel).2 hq
              rw [Nat.add_mul] at this
              rw [show ad.off + l * sz + i * sz + j = ad.off + (l * sz + i * sz) + j from by omega]; exact this
            · intro i el j q hel hq
              rw [hblk.1, hblk.2]
              have := e6 _ _ j q (hget i el hel).2 hq
              rw [Nat.add_mul] at this
              rw [show ad.off + l * sz + i * sz + j = ad.off + (l * sz + i * sz) + j from by omega]; exact this
            · intro i el j q hel hq
              exact e7 _ _ j q (hget i el hel).2 hq
      · cases hs
    | arr id gen off len sz =>
      obtain ⟨b, base, n, cap, b', o', e1, e2, e3, e4, ev⟩ := (hrep 0 x _ rfl rfl rfl).arr_inv
      simp only [semP] at hs
      split at hs
      · rename_i hsz'
        subst hsz'
        obtain ⟨⟨l, h⟩, hb, e'⟩ := Option.map_eq_some_iff.1 hs
        cases e'
        obtain ⟨hr, h1, h2⟩ := run_bounds (P := P) (G := G) (a := a) (w := w) (isSlice := true) (cap := cap) e2 hb (fun i x p hx hp hf => hrep (i + 1) x p (by simpa using hx) (by simpa using hp) hf)
        have hsize : (sizeOf e).run P w = .ok sz w := by
          unfold cellsT at hsz
          split at hsz
          · rename_i i d hi hd; cases hsz; simp [sizeOf, typeInfo, hi]
          · cases hsz
        by_cases hcl : cap = l
        · subst hcl
          refine ⟨_, .slice (some ⟨b', o', none⟩) (h - cap) (cap - cap), rfl, rfl, ?_, ?_, fun _ => trivial⟩
          · simp [execOp, ho, Instr.sliceAt, Instr.slice, underlying, ht, ev, hr, hsize]
          · refine .one (.inr (.arr e1 (by omega) ?_ (by omega)))
            show base + (off + cap + (cap - cap)) * sz ≤ n
            rw [show off + cap + (cap - cap) = off + cap by omega]; exact e3
        · refine ⟨_, .slice (some ⟨b', o' + l * sz, none⟩) (h - l) (cap - l), rfl, rfl, ?_, ?_, fun _ => trivial⟩
          · simp [execOp, ho, Instr.sliceAt, Instr.slice, underlying, ht, ev, hr, hsize, hcl, add_none]
          · refine .one (.inr (.arr e1 (by omega) ?_ (fun hc => ?_)))
            · show base + (off + l + (cap - l)) * sz ≤ n
              rw [show off + l + (cap - l) = off + cap by omega]; exact e3
            · obtain ⟨rfl, rfl⟩ := e4 (by omega)
              refine ⟨rfl, ?_⟩
              show base + off * sz + l * sz = base + (off + l) * sz
              rw [Nat.add_mul]; omega
      · cases hs
    | nils =>
      have ev := (hrep 0 x _ rfl rfl rfl).nils_inv
      simp only [semP] at hs
      obtain ⟨⟨l, h⟩, hb, e'⟩ := Option.map_eq_some_iff.1 hs
      cases e'
      obtain ⟨hr, h1, h2⟩ := run_bounds (P := P) (G := G) (a := a) (w := w) (isSlice := true) (cap := 0) (Nat.le_refl _) hb (fun i x p hx hp hf => hrep (i + 1) x p (by simpa using hx) (by simpa using hp) hf)
      have hsize : (sizeOf e).run P w = .ok size w := by
        unfold cellsT at hsz
        split at hsz
        · rename_i i d hi hd; cases hsz; simp [sizeOf, typeInfo, hi]
        · cases hsz
      obtain ⟨rfl, rfl⟩ : l = 0 ∧ h = 0 := by omega
      exact ⟨_, .slice none 0 0, rfl, rfl, by simp [execOp, ho, Instr.sliceAt, Instr.slice, underlying, ht, ev, hr, hsize], .one (.inl .nils), fun _ => trivial⟩
    | empt =>
      obtain ⟨ad, ev⟩ := (hrep 0 x _ rfl rfl rfl).empt_inv
      simp only [semP] at hs
      obtain ⟨⟨l, h⟩, hb, e'⟩ := Option.map_eq_some_iff.1 hs
      cases e'
      obtain ⟨hr, h1, h2⟩ := run_bounds (P := P) (G := G) (a := a) (w := w) (isSlice := true) (cap := 0) (Nat.le_refl _) hb (fun i x p hx hp hf => hrep (i + 1) x p (by simpa using hx) (by simpa using hp) hf)
      have hsize : (sizeOf e).run P w = .ok size w := by
        unfold cellsT at hsz
        split at hsz
        · rename_i i d hi hd; cases hsz; simp [sizeOf, typeInfo, hi]
        · cases hsz
      obtain ⟨rfl, rfl⟩ : l = 0 ∧ h = 0 := by omega
      exact ⟨_, .slice (some ad) 0 0, rfl, rfl, by simp [execOp, ho, Instr.sliceAt, Instr.slice, underlying, ht, ev, hr, hsize], .one (.inl .empt), fun _ => trivial⟩
    | _ => simp [semP] at hs
  | [], hl => simp at hl
theorem sim_cut0 (hi : Inv cx G a w A σ) (hkd : ∀ t, cx.kd t = fi.kind t) (hnt : cx.nt = fi.nt) {o : Oper} {t e : TypeId} {x : Operand} {k1 k2 : IntKind} (ho : o.op = .slice t x none (some (.const (.int k1 0))) (some (.const (.int k2 0))))
    (ht : P.underlying t = some (.slice e)) {size : Nat} {ag : Bool} (hsz : cellsT P e = some (size, ag))
    {as : List AArg} (hc : compArgs fi [x] = some as) (hd : plainDst fi o.dst = true) (hrun : runA pur call { dst := o.dst, k := .p .cut0, args := as } A σ = some (A', σ')) : Gives P cx o a w A' σ' := by
  refine givesN hi hkd hnt hd hrun hc fun vs rs hs hl hrep => ?_
  have hsize : (sizeOf e).run P w = .ok size w := by
    unfold cellsT at hsz
    split at hsz
    · rename_i i d hi hd; cases hsz; simp [sizeOf, typeInfo, hi]
    · cases hsz
  have hbd : ∀ len cap, (Instr.sliceBounds true len cap none (some (.int k1 0)) (some (.int k2 0))).run P w = .ok (0, 0, 0) w := by
    intro len cap
    simp only [Instr.sliceBounds, Sem.run_bind, Sem.run_pure, Result.andThen_ok]
    rw [run_bound rfl (by omega) (by omega), Result.andThen_ok, run_bound rfl (by omega) (by omega)]
    rfl
  have hgen : ∀ (ad : Option Addr) (len cap : Nat), a.eval x = .slice ad len cap → (execOp a.eval o).run P w = .ok (.value (.slice ad 0 0)) w := by
    intro ad len cap ev
    have h1 : a.eval (.const (.int k1 0)) = .int k1 0 := rfl
    have h2 : a.eval (.const (.int k2 0)) = .int k2 0 := rfl
    simp [execOp, ho, Instr.sliceAt, Instr.slice, underlying, ht, ev, hbd, hsize, h1, h2]
  match vs, hl with
  | [p], _ =>
    cases p with
    | nils =>
      have ev := (hrep 0 x _ rfl rfl rfl).nils_inv
      cases hs
      exact ⟨_, _, rfl, rfl, hgen _ _ _ ev, .one (.inl .nils), fun _ => trivial⟩
    | slice own sz es =>
      obtain ⟨ad, len, cap, cv, ev, _⟩ := (hrep 0 x _ rfl rfl rfl).slice_inv
      cases hs
      exact ⟨_, _, rfl, rfl, hgen _ _ _ ev, .one (.inl .empt), fun _ => trivial⟩
    | arr id gen off len sz =>
      obtain ⟨b, base, n, cap, b', o', _, _, _, _, ev⟩ := (hrep 0 x _ rfl rfl rfl).arr_inv
      cases hs
      exact ⟨_, _, rfl, rfl, hgen _ _ _ ev, .one (.inl .empt), fun _ => trivial⟩
    | empt =>
      obtain ⟨ad, ev⟩ := (hrep 0 x _ rfl rfl rfl).empt_inv
      cases hs
      exact ⟨_, _, rfl, rfl, hgen _ _ _ ev, .one (.inl .empt), fun _ => trivial⟩
    | _ => simp [semP] at hs
  | [], hl => simp at hl
  | _ :: _ :: _, hl => simp at hl
end
end Go.Abs

namespace Go.Abs
open Go.RowKit
section
variable {P : Program} {pur : FuncId → Bool} {call : Caller} {fi : FI} {cx : Cx} {G : Gh} {a : Act} {w : World} {A A' : Frm} {σ σ' : Sto}
theorem Rep1.disown {I : Imm} {bl : Bl} {v : Value} {p : PV} (h : Rep1 I bl w v p) : Rep1 I bl w v p.disown := by
  rcases h with h | h
  · exact .inl h.disown
  · exact .inr (by rw [h.disown]; exact h)
theorem getD_map_eval (xs : Array Operand) (i : Nat) (x : Operand) (h : xs.toList[i]? = some x) (f : Operand → Value) : (xs.map f).getD i undef = f x := by
  rw [Array.getD_eq_getD_getElem?, Array.getElem?_map]
  rw [Array.getElem?_toList] at h
  rw [h]; rfl
theorem sim_mkf (hi : Inv cx G a w A σ) (hkd : ∀ t, cx.kd t = fi.kind t) (hnt : cx.nt = fi.nt) {o : Oper} {f : FuncId} {first cap : Array Operand} (ho : o.op = .makeFunc (.func f) first cap)
    {as : List AArg} (hc : compArgs fi (first.toList ++ cap.toList) = some as) (hd : plainDst fi o.dst = true) (hrun : runA pur call { dst := o.dst, k := .p (.mkf f first.size), args := as } A σ = some (A', σ')) : Gives P cx o a w A' σ' := by
  refine givesN hi hkd hnt hd hrun hc fun vs rs hs hl hrep => ?_
  simp only [semP] at hs
  split at hs
  · rename_i hall
    cases hs
    rw [List.all_eq_true] at hall
    have hlen : first.size + cap.size = vs.length := by simpa using hl
    have key : ∀ (i : Nat) (x : Operand) (p : PV), (first.toList ++ cap.toList)[i]? = some x → vs[i]? = some p → Rep1 G.I G.bl w (a.eval x) p.disown := by
      intro i x p hx hp
      have hm := hall p (List.mem_of_getElem? hp)
      exact ((hrep i x p hx hp (free_of_flatRef hm)).rep1 hm).disown
    refine ⟨_, .func (.func f) (first.map a.eval) (cap.map a.eval), rfl, rfl, by simp [execOp, ho, Instr.makeFunc], ?_, fun _ => trivial⟩
    refine .func (by simp; omega) (by simp; omega) (fun i p hp => ?_) (fun i p hp => ?_)
    · rw [List.getElem?_take] at hp
      split at hp
      · rename_i hlt
        rw [List.getElem?_map] at hp
        obtain ⟨q, hq, rfl⟩ := Option.map_eq_some_iff.1 hp
        have hx : first.toList[i]? = some first[i] := by rw [Array.getElem?_toList]; exact Array.getElem?_eq_getElem hlt
        rw [getD_map_eval _ _ _ hx]
        exact key i _ q (by rw [List.getElem?_append_left (by simpa using hlt)]; exact hx) hq
      · cases hp
    · rw [List.getElem?_drop, List.getElem?_map] at hp
      obtain ⟨q, hq, rfl⟩ := Option.map_eq_some_iff.1 hp
      have hlt : i < cap.size := by have := (List.getElem?_eq_some_iff.1 hq).1; omega
      have hx : cap.toList[i]? = some cap[i] := by rw [Array.getElem?_toList]; exact Array.getElem?_eq_getElem hlt
      rw [getD_map_eval _ _ _ hx]
      exact key (first.size + i) _ q (by rw [List.getElem?_append_right (by simp)]; simp at hx ⊢) hq
  · cases hs
theorem run_sizeOf {e : TypeId} {n : Nat} {ag : Bool} (h : cellsT P e = some (n, ag)) : (sizeOf e).run P w = .ok n w := by
  unfold cellsT at h
  split at h
  · rename_i i d hi hd; cases h; simp [sizeOf, typeInfo, hi]
  · cases h
theorem run_isAgg {e : TypeId} {n : Nat} {ag : Bool} (h : cellsT P e = some (n, ag)) : (isAgg e).run P w = .ok ag w := by
  unfold cellsT at h
  split at h
  · rename_i i d hi hd
    cases h
    cases d <;> simp [isAgg, underlying, hd, isAggD]
  · cases h
theorem sim_idx (hi : Inv cx G a w A σ) (hkd : ∀ t, cx.kd t = fi.kind t) (hnt : cx.nt = fi.nt) {o : Oper} {t e : TypeId} {x y : Operand} (ho : o.op = .indexAddr t x y) (ht : P.underlying t = some (.slice e))
    {size : Nat} {ag : Bool} (hsz : cellsT P e = some (size, ag))
    {as : List AArg} (hc : compArgs fi [x, y] = some as) (hd : plainDst fi o.dst = true) (hrun : runA pur call { dst := o.dst, k := .p (.idx size), args := as } A σ = some (A', σ')) : Gives P cx o a w A' σ' := by
  refine gives2 hi hkd hnt hd hrun hc (two_of (V := idxV size) (fun _ _ => rfl) rfl (fun _ => rfl) (fun _ _ _ _ => rfl)) fun x' y' p q r hx hv hp hq => ?_
  cases hx
  cases p with
  | slice own sz es => cases q with
    | int k i =>
      obtain ⟨ad, len, cap, cv, ev, e1, e2, e3, e4, e5, e6, e7⟩ := (hp rfl).slice_inv
      have e' := (hq rfl).int_inv
      simp only [idxV] at hv
      split at hv
      · rename_i hc'
        obtain ⟨rfl, h0⟩ := hc'
        obtain ⟨el, hel, rfl⟩ := Option.map_eq_some_iff.1 hv
        have hlt := (List.getElem?_eq_some_iff.1 hel).1
        have hne : es ≠ [] := by intro h; subst h; simp at hlt
        have hsp := e3 hne
        have had : ad = ⟨ad.block, ad.off, none⟩ := by cases ad; dsimp only at hsp; rw [hsp]
        refine ⟨rfl, .pointer (some ⟨ad.block, ad.off + i.toNat * sz, none⟩), ?_, ?_, fun _ => trivial⟩
        · have hb : 0 ≤ i ∧ i < (len : Int) := ⟨h0, by omega⟩
          have hs' := run_sizeOf (P := P) (w := w) hsz
          rw [had] at ev
          have : Addr.add ⟨ad.block, ad.off, none⟩ (i.toNat * sz) = ⟨ad.block, ad.off + i.toNat * sz, none⟩ := add_none ..
          simp [execOp, ho, Instr.indexAt, ev, e', asIntOf, underlying, ht, hb, hs', this]
        · exact .one (.inl (.vptr (fun j => cv i.toNat j) (fun j p hp => e5 _ _ _ _ hel hp) (fun j p hp => e6 _ _ _ _ hel hp) (fun j p hp => e7 _ _ _ _ hel hp)))
      · cases hv
    | _ => simp [idxV] at hv
  | arr id gen off len sz => cases q with
    | int k i =>
      obtain ⟨b, base, n, cap, b', o', e1, e2, e3, e4, ev⟩ := (hp rfl).arr_inv
      have e' := (hq rfl).int_inv
      simp only [idxV] at hv
      split at hv
      · rename_i hc'
        obtain ⟨rfl, h0, h1⟩ := hc'
        cases hv
        obtain ⟨rfl, rfl⟩ := e4 (by omega)
        have hb : 0 ≤ i ∧ i < (len : Int) := ⟨h0, h1⟩
        have hs' := run_sizeOf (P := P) (w := w) hsz
        refine ⟨rfl, .pointer (some ⟨b', base + (off + i.toNat) * sz + 0, none⟩), ?_, .one (.inr (.aptr e1)), fun _ => trivial⟩
        have : base + (off + i.toNat) * sz + 0 = base + off * sz + i.toNat * sz := by rw [Nat.add_mul]; omega
        rw [this]
        simp [execOp, ho, Instr.indexAt, ev, e', asIntOf, underlying, ht, hb, hs', add_none]
      · cases hv
    | _ => simp [idxV] at hv
  | _ => simp [idxV] at hv
theorem sub_cells {v x : PV} {off n : Nat} {ag : Bool} (h : sub v off n ag = some x) : ∀ (j : Nat) (p : PV), x.cells[j]? = some p → v.cells[off + j]? = some p := by
  intro j p hp
  unfold sub at h
  cases ag with
  | true =>
    dsimp only at h
    cases v with
    | agg cs =>
      dsimp only at h
      split at h
      · cases h
        simp only [PV.cells] at hp ⊢
        rw [List.getElem?_take] at hp
        split at hp
        · rw [List.getElem?_drop] at hp; exact hp
        · cases hp
      · cases h
    | _ => cases h
  | false =>
    dsimp only at h
    split at h
    · rename_i y hy
      split at h
      · cases h
      · rename_i hag
        cases h
        have : x.cells = [x] := by
          cases x with
          | agg cs => exact absurd rfl hag
          | aggr cs => exact absurd rfl hag
          | _ => rfl
        rw [this] at hp
        cases j with
        | zero => simp at hp; subst hp; exact hy
        | succ j => simp at hp
    · cases h
theorem run_fieldAt {s : TypeId} {fs : Array Field} {f : Nat} {fl : Field} (hs : P.underlying s = some (.struct fs)) (hf : fs[f]? = some fl) {n : Nat} {ag : Bool} (hn : cellsT P fl.type = some (n, ag)) (hn0 : n ≠ 0) (b off : Nat) :
    (Instr.fieldAt s (.pointer (some ⟨b, off, none⟩)) f).run P w = .ok (.pointer (some ⟨b, off + fl.offset, none⟩)) w := by
  simp [Instr.fieldAt, underlying, hs, hf, Instr.sureAddr, fieldPlace, run_sizeOf hn, hn0, add_none]
theorem sim_fa (hi : Inv cx G a w A σ) (hkd : ∀ t, cx.kd t = fi.kind t) (hnt : cx.nt = fi.nt) {o : Oper} {t : TypeId} {x : Operand} {f : Nat} (ho : o.op = .fieldAddr t x f)
    {fs : Array Field} {fl : Field} (hs' : P.underlying t = some (.struct fs)) (hf : fs[f]? = some fl) {n : Nat} {ag : Bool} (hn : cellsT P fl.type = some (n, ag)) (hn0 : n ≠ 0)
    (hnl : ∀ p, ∀ d off, p = PV.lref d off → ∀ y, compArg fi x = some y → evalArgs A [y] ≠ some [p])
    {as : List AArg} (hc : compArgs fi [x] = some as) (hd : plainDst fi o.dst = true) (hrun : runA pur call { dst := o.dst, k := .p (.fa fl.offset n ag), args := as } A σ = some (A', σ')) : Gives P cx o a w A' σ' := by
  refine gives0 hi hkd hnt hd hrun fun vs rs he hs => ?_
  obtain ⟨p, r, rfl, hv, rfl⟩ := one_of (V := faV fl.offset n ag) (k := .fa fl.offset n ag) (fun _ => rfl) rfl (fun _ _ _ => rfl) vs rs hs
  obtain ⟨x', y, e, rfl, hy, hp⟩ := args1 hc he
  cases e
  cases p with
  | vptr v =>
    obtain ⟨b, off, cv, ev, h1, h2, h3⟩ := (arg_rep hi hkd hy hp rfl).vptr_inv
    simp only [faV] at hv
    obtain ⟨u, hu, rfl⟩ := Option.map_eq_some_iff.1 hv
    have hsc := sub_cells hu
    refine ⟨_, .pointer (some ⟨b, off + fl.offset, none⟩), rfl, rfl, by simp [execOp, ho, ev, run_fieldAt hs' hf hn hn0], ?_, fun _ => trivial⟩
    refine .one (.inl (.vptr (fun j => cv (fl.offset + j)) (fun j q hq => ?_) (fun j q hq => ?_) (fun j q hq => ?_)))
    · have := h1 _ _ (hsc j q hq); rw [← Nat.add_assoc] at this; exact this
    · have := h2 _ _ (hsc j q hq); rw [← Nat.add_assoc] at this; exact this
    · exact h3 _ _ (hsc j q hq)
  | ref id off =>
    obtain ⟨b, h1, ev⟩ := (arg_rep hi hkd hy hp rfl).ref_inv
    simp only [faV] at hv
    cases hv
    exact ⟨_, .pointer (some ⟨b, off + fl.offset, none⟩), rfl, rfl, by simp [execOp, ho, ev, run_fieldAt hs' hf hn hn0], .one (.inr (.ref h1)), fun _ => trivial⟩
  | aptr id gen size i off =>
    obtain ⟨b, base, n', h1, ev⟩ := (arg_rep hi hkd hy hp rfl).aptr_inv
    simp only [faV] at hv
    cases hv
    exact ⟨_, .pointer (some ⟨b, base + i * size + (off + fl.offset), none⟩), rfl, rfl, by simp [execOp, ho, ev, run_fieldAt hs' hf hn hn0, Nat.add_assoc], .one (.inr (.aptr h1)), fun _ => trivial⟩
  | lref d off => exact absurd hp (hnl _ d off rfl y hy)
  | _ => simp [faV] at hv
theorem run_loadVar {t : TypeId} {n : Nat} {ag : Bool} (hn : cellsT P t = some (n, ag)) {b off : Nat} {v : PV} {cv : Nat → Value} (hf : fits n ag v = true)
    (hc : ∀ (j : Nat) (p : PV), v.cells[j]? = some p → w.cell? ⟨b, off + j, none⟩ = some (cv j)) :
    ∃ c, (Instr.loadAt t (.pointer (some ⟨b, off, none⟩))).run P w = .ok c w ∧ (∀ I : Imm, (∀ (j : Nat) (p : PV), v.cells[j]? = some p → Rep I w (cv j) p) → Rep I w c v) ∧ (ag = false → c = cv 0 ∧ v.cells = [v]) := by
  cases ag with
  | true =>
    cases v with
    | agg cs =>
      simp [fits] at hf
      refine ⟨.agg ((List.range n).map cv).toArray, ?_, fun I hr => ?_, fun h => by cases h⟩
      · have h := run_loadCells (P := P) (w := w) ⟨b, off, none⟩ n cv (fun j hj => by
          rw [add_none]
          have : cs[j]? = some cs[j] := List.getElem?_eq_getElem (by omega)
          exact hc j _ this)
        simp [Instr.loadAt, Instr.sureAddr, loadVar, run_isAgg hn, run_sizeOf hn, h]
      · refine .agg (by simp [hf]) fun i p hp => ?_
        have hlt := (List.getElem?_eq_some_iff.1 hp).1
        have : (((List.range n).map cv).toArray).getD i undef = cv i := by
          simp [Array.getD, hf ▸ hlt]
        rw [this]; exact hr i p hp
    | _ => simp [fits] at hf
  | false =>
    have hcell : v.cells = [v] := by
      cases v with
      | agg cs => simp [fits] at hf
      | aggr cs => simp [fits] at hf
      | _ => rfl
    have h0 := hc 0 v (by rw [hcell]; rfl)
    refine ⟨cv 0, ?_, fun I hr => hr 0 v (by rw [hcell]; rfl), fun _ => ⟨rfl, hcell⟩⟩
    rw [Nat.add_zero] at h0
    simp [Instr.loadAt, Instr.sureAddr, loadVar, run_isAgg hn, run_load, h0]
theorem sim_ldp (hi : Inv cx G a w A σ) (hkd : ∀ t, cx.kd t = fi.kind t) (hnt : cx.nt = fi.nt) {o : Oper} {t : TypeId} {x : Operand} (ho : o.op = .load t x) {n : Nat} {ag : Bool} (hn : cellsT P t = some (n, ag))
    {as : List AArg} (hc : compArgs fi [x] = some as) (hd : plainDst fi o.dst = true) (hrun : runA pur call { dst := o.dst, k := .p (.ldp n ag), args := as } A σ = some (A', σ')) : Gives P cx o a w A' σ' := by
  refine gives1 hi hkd hnt hd hrun hc (one_of (V := fun p => (ldV n ag p).map PV.disown) (fun p => by simp [semP]; rfl) rfl (fun _ _ _ => rfl)) fun x' p r hx hv hp => ?_
  cases hx
  obtain ⟨q, hq, rfl⟩ := Option.map_eq_some_iff.1 hv
  cases p with
  | vptr v =>
    obtain ⟨b, off, cv, ev, h1, h2, h3⟩ := (hp rfl).vptr_inv
    simp only [ldV] at hq
    split at hq
    · rename_i hf
      cases hq
      obtain ⟨hfit, hfree⟩ := hf
      obtain ⟨c, hr, hrep, _⟩ := run_loadVar (P := P) (w := w) hn hfit h2
      exact ⟨by rw [free_disown]; exact hfree, c, by simp [execOp, ho, ev, hr], .one (.inl (hrep _ h3).disown), fun _ => OwnOk_disown _⟩
    · cases hq
  | _ => simp [ldV] at hq
end
end Go.Abs

namespace Go.Abs
open Go.RowKit
section
variable {P : Program} {pur : FuncId → Bool} {call : Caller} {fi : FI} {cx : Cx} {G : Gh} {a : Act} {w : World} {A A' : Frm} {σ σ' : Sto}
theorem rep_cells {I : Imm} {v : Value} {p : PV} (h : Rep I w v p) : v.cells.size = p.cells.length ∧ ∀ (j : Nat) (q : PV), p.cells[j]? = some q → Rep I w (v.cells.getD j undef) q := by
  cases h with
  | agg h hr => exact ⟨h, hr⟩
  | _ =>
    refine ⟨rfl, fun j q hq => ?_⟩
    cases j with
    | zero =>
      simp only [PV.cells, List.getElem?_cons_zero, Option.some.injEq] at hq
      subst hq
      constructor <;> assumption
    | succ j => simp [PV.cells] at hq
theorem foldl_set (l : List Value) : ∀ (s off : Nat) (cells : Array Value), off + s + l.length ≤ cells.size →
    (l.zipIdx s).foldl (fun (cs : Array Value) (x : Value × Nat) => cs.setIfInBounds (off + x.2) x.1) cells = 
      (cells.toList.take (off + s) ++ l ++ cells.toList.drop (off + s + l.length)).toArray := by
  induction l with
  | nil => intro s off cells h; simp
  | cons v l ih =>
    intro s off cells h
    simp only [List.zipIdx_cons, List.foldl_cons]
    simp only [List.length_cons] at h
    rw [ih (s + 1) off _ (by simp; omega)]
    apply congrArg
    have hlt : off + s < cells.toList.length := by simp; omega
    have e1 : (cells.setIfInBounds (off + s) v).toList = cells.toList.set (off + s) v := by simp
    rw [e1]
    rw [show off + (s + 1) = (off + s) + 1 from by omega, List.take_set, List.drop_set, if_pos (by omega)]
    have e2 : (cells.toList.take (off + s + 1)).set (off + s) v = cells.toList.take (off + s) ++ [v] := by
      rw [List.take_succ_eq_append_getElem hlt, List.set_append_right _ _ (by simp; omega)]
      have : off + s - (cells.toList.take (off + s)).length = 0 := by rw [List.length_take]; omega
      rw [this]; rfl
    rw [e2]
    simp only [List.length_cons, List.append_assoc, List.cons_append, List.nil_append]
    rw [show off + s + 1 + l.length = off + s + (l.length + 1) from by omega]
theorem fold_cells (v : Value) (off : Nat) (cells : Array Value) (h : off + v.cells.size ≤ cells.size) :
    v.cells.zipIdx.foldl (fun (cs : Array Value) (x : Value × Nat) => cs.setIfInBounds (off + x.2) x.1) cells = (cells.toList.take off ++ v.cells.toList ++ cells.toList.drop (off + v.cells.size)).toArray := by
  have := foldl_set v.cells.toList 0 off cells (by simpa using h)
  rw [← Array.foldl_toList, Array.toList_zipIdx]
  simpa using this
def RepL (I : Imm) (w : World) (cs : List Value) (ps : List PV) : Prop := cs.length = ps.length ∧ ∀ (i : Nat) (p : PV), ps[i]? = some p → ∃ c, cs[i]? = some c ∧ Rep I w c p
theorem RepL.place {I : Imm} {cs : List Value} {ps : List PV} (h : RepL I w cs ps) {ds : List Value} {qs : List PV} (h' : RepL I w ds qs) (off : Nat) (hl : off + qs.length ≤ ps.length) :
    RepL I w (cs.take off ++ ds ++ cs.drop (off + ds.length)) (place1 ps off qs) := by
  unfold place1
  refine ⟨by simp [h.1, h'.1], fun i p hp => ?_⟩
  have e1 : (cs.take off).length = off := by rw [List.length_take, h.1]; omega
  have e2 : (ps.take off).length = off := by rw [List.length_take]; omega
  rw [List.append_assoc] at hp ⊢
  by_cases h1 : i < off
  · rw [List.getElem?_append_left (by omega)] at hp ⊢
    rw [List.getElem?_take, if_pos h1] at hp ⊢
    exact h.2 i p hp
  · rw [List.getElem?_append_right (by omega), e2] at hp
    rw [List.getElem?_append_right (by omega), e1]
    by_cases h2 : i - off < qs.length
    · rw [List.getElem?_append_left h2] at hp
      rw [List.getElem?_append_left (by rw [h'.1]; exact h2)]
      exact h'.2 _ p hp
    · rw [List.getElem?_append_right (by omega), List.getElem?_drop] at hp
      rw [List.getElem?_append_right (by rw [h'.1]; omega), List.getElem?_drop, h'.1]
      exact h.2 _ p hp
theorem RepL.of_rep {I : Imm} {v : Value} {p : PV} (h : Rep I w v p) : RepL I w v.cells.toList p.cells := by
  obtain ⟨h1, h2⟩ := rep_cells h
  refine ⟨by simpa using h1, fun i q hq => ?_⟩
  have hlt : i < v.cells.size := by have := (List.getElem?_eq_some_iff.1 hq).1; omega
  refine ⟨v.cells[i], by rw [Array.getElem?_toList]; exact Array.getElem?_eq_getElem hlt, ?_⟩
  have := h2 i q hq
  simpa [Array.getD, hlt] using this
theorem RepL.agg {I : Imm} {cs : Array Value} {ps : List PV} (h : RepL I w cs.toList ps) : Rep I w (.agg cs) (.agg ps) := by
  refine .agg (by simpa using h.1) fun i p hp => ?_
  obtain ⟨c, hc, hr⟩ := h.2 i p hp
  rw [Array.getElem?_toList] at hc
  rw [Array.getD_eq_getD_getElem?, hc]; exact hr
theorem fill_rep {I : Imm} {places : List (Nat × Nat)} : ∀ (parts : List (Nat × Operand)) (pl : List (Nat × Nat)) (vs : List PV) (cells : Array Value) (cs cs' : List PV),
    partPlaces places parts = some pl → fillP cs pl vs = some cs' → RepL I w cells.toList cs →
    (∀ (i : Nat) (x : Nat × Operand) (p : PV), parts[i]? = some x → vs[i]? = some p → p.flat = true → Rep I w (a.eval x.2) p) →
    ∃ cells', Instr.fill (places.toArray[·]?) cells (parts.map fun x => (x.1, a.eval x.2)) = some cells' ∧ RepL I w cells'.toList cs'
  | [], pl, vs, cells, cs, cs', hp, hf, hr, _ => by
    cases hp
    cases vs with
    | nil => simp only [fillP] at hf; cases hf; exact ⟨cells, rfl, hr⟩
    | cons _ _ => simp [fillP] at hf
  | (i, x) :: parts, pl, vs, cells, cs, cs', hp, hf, hr, hrep => by
    simp only [partPlaces] at hp
    split at hp
    · rename_i p ps h1 h2
      cases hp
      obtain ⟨off, n⟩ := p
      cases vs with
      | nil => simp [fillP] at hf
      | cons v vs =>
        simp only [fillP] at hf
        split at hf
        · rename_i hc
          obtain ⟨hc1, hc2, hc3⟩ := hc
          have hv : Rep I w (a.eval x) v := (hrep 0 (i, x) v rfl rfl hc3)
          have hcell := RepL.of_rep hv.disown
          have hsz := (rep_cells hv).1
          have hlen : cells.size = cs.length := by simpa using hr.1
          have hnew : RepL I w ((a.eval x).cells.zipIdx.foldl (fun (cs : Array Value) (x : Value × Nat) => cs.setIfInBounds (off + x.2) x.1) cells).toList (place1 cs off v.disown.cells) := by
            rw [fold_cells _ _ _ (by omega)]
            have := hr.place hcell off (by rw [cells_disown]; omega)
            simpa using this
          obtain ⟨cells', h3, h4⟩ := fill_rep parts ps vs _ _ cs' h2 hf hnew (fun k y p hy hp hfl => hrep (k + 1) y p (by simpa using hy) (by simpa using hp) hfl)
          refine ⟨cells', ?_, h4⟩
          have hpl : places.toArray[i]? = some (off, n) := by simpa using h1
          simp only [List.map_cons, Instr.fill, hpl]
          rw [if_neg (by simp; omega)]
          exact h3
        · cases hf
    · cases hp
theorem sim_build (hi : Inv cx G a w A σ) (hkd : ∀ t, cx.kd t = fi.kind t) (hnt : cx.nt = fi.nt) {o : Oper} {t : TypeId} {ps : Array (Nat × Operand)} (ho : o.op = .build t ps)
    {fs : Array Field} (hs' : P.underlying t = some (.struct fs)) {z : List PV} (hz : zeroP P t = some (.agg z)) {places : List (Nat × Nat)}
    (hpl : fs.toList.mapM (fun f => (P.info? f.type).map fun i => (f.offset, i.size)) = some places) {pl : List (Nat × Nat)} (hpp : partPlaces places ps.toList = some pl)
    {as : List AArg} (hc : compArgs fi (ps.toList.map (·.2)) = some as) (hd : plainDst fi o.dst = true) (hrun : runA pur call { dst := o.dst, k := .p (.build z pl), args := as } A σ = some (A', σ')) : Gives P cx o a w A' σ' := by
  refine givesN hi hkd hnt hd hrun hc fun vs rs hs hl hrep => ?_
  simp only [semP] at hs
  obtain ⟨cs', hcs, e⟩ := Option.map_eq_some_iff.1 hs
  cases e
  unfold zeroP at hz
  split at hz
  · rename_i it hit
    obtain ⟨zv, hzv, hzp⟩ := Option.bind_eq_some_iff.1 hz
    have hzr : Rep G.I w zv (.agg z) := rep_ofVal hzp
    obtain ⟨cells', h1, h2⟩ := fill_rep (a := a) (I := G.I) (w := w) ps.toList pl vs zv.cells z cs' hpp hcs (by simpa [PV.cells] using RepL.of_rep hzr) (fun i x p hx hp hfl => by
      exact (hrep i x.2 p (by rw [List.getElem?_map, hx]; rfl) hp (free_of_flat hfl)).flat hfl)
    have hb : P.built t ((ps.map fun (i, x) => (i, a.eval x)).toList) = some cells' := by
      unfold Program.built
      simp only [hit, hs', hzv, hpl]
      rw [← h1]
      congr 1
      simp
    refine ⟨_, .agg cells', rfl, rfl, ?_, .one (.inl h2.agg), fun _ => trivial⟩
    simp [execOp, ho, run_build w t _ cells' hb]
  · cases hz
theorem val_inj {k k' : Ky} (h : k.val = k'.val) : k = k' := by
  cases k <;> cases k' <;> simp [Ky.val] at h
  · obtain ⟨rfl, rfl⟩ := h; rfl
  · rename_i l l'; rw [h]
theorem sameNow_val {d : TypeDesc} {k k' : Ky} (hk : sameKind k k' = true) (hd : (∃ i, d = .int i) ∧ (∃ i n, k = .i i n) ∨ d = .string ∧ ∃ l, k = .s l) :
    Instr.sameNow d k.val k'.val = some (decide (k' = k)) := by
  rcases hd with ⟨⟨i, rfl⟩, j, n, rfl⟩ | ⟨rfl, l, rfl⟩
  · cases k' with
    | i j' n' =>
      simp only [sameKind, beq_iff_eq] at hk
      subst hk
      simp only [Ky.val, Instr.sameNow, if_true]
      congr 1
      by_cases h : n = n'
      · subst h; simp
      · have : ¬ (Ky.i j n' = Ky.i j n) := fun e => by cases e; exact h rfl
        rw [decide_eq_false this, beq_eq_false_iff_ne]; exact h
    | s l => simp [sameKind] at hk
  · cases k' with
    | i j' n' => simp [sameKind] at hk
    | s l' =>
      simp only [Ky.val, Instr.sameNow]
      congr 1
      by_cases h : l = l'
      · subst h
        rw [decide_eq_true rfl]
        exact (Go.MapKept.bytes_beq _ _).2 rfl
      · have h1 : ¬ (Ky.s l' = Ky.s l) := fun e => by cases e; exact h rfl
        rw [decide_eq_false h1]
        cases hb : ((⟨⟨l⟩⟩ : ByteArray) == ⟨⟨l'⟩⟩) with
        | false => rfl
        | true => have := (Go.MapKept.bytes_beq _ _).1 hb; cases this; exact absurd rfl h
theorem findNow_some {d : TypeDesc} {k : Ky} (hd : (∃ i, d = .int i) ∧ (∃ i n, k = .i i n) ∨ d = .string ∧ ∃ l, k = .s l) : ∀ (es : List MapEntry) (s : Nat),
    (∀ e ∈ es, ∃ k', e.key = k'.val ∧ sameKind k k' = true) → 
    (∃ j e, es[j]? = some e ∧ e.key = k.val ∧ Instr.findNow d k.val es s = some (some (s + j, e.val))) ∨ ((∀ e ∈ es, e.key ≠ k.val) ∧ Instr.findNow d k.val es s = some none)
  | [], s, _ => .inr ⟨(fun e h => by cases h), rfl⟩
  | e :: es, s, h => by
    obtain ⟨k', h1, h2⟩ := h e (List.mem_cons_self ..)
    have hsn := sameNow_val h2 hd
    simp only [Instr.findNow, h1, hsn]
    by_cases hk : k' = k
    · subst hk
      rw [decide_eq_true rfl]
      exact .inl ⟨0, e, rfl, h1, rfl⟩
    · rw [decide_eq_false hk]
      rcases findNow_some hd es (s + 1) (fun e he => h e (List.mem_cons_of_mem _ he)) with ⟨j, e', he, hke, hf⟩ | ⟨hno, hf⟩
      · exact .inl ⟨j + 1, e', by simpa using he, hke, by rw [hf, show s + 1 + j = s + (j + 1) from by omega]⟩
      · refine .inr ⟨fun e' he' => ?_, hf⟩
        rcases List.mem_cons.1 he' with rfl | h'
        · rw [h1]; exact fun e => hk (val_inj e)
        · exact hno e' h'
theorem findKey_spec (k : Ky) : ∀ (ks : List Ky) (vs : List PV), vs.length = ks.length → (∀ v, findKey k ks vs = some v → ∃ j : Nat, ks[j]? = some k ∧ vs[j]? = some v) ∧ (findKey k ks vs = none → k ∉ ks)
  | [], vs, _ => by cases vs <;> simp [findKey]
  | x :: ks, [], h => by simp at h
  | x :: ks, v :: vs, h => by
    obtain ⟨h1, h2⟩ := findKey_spec k ks vs (by simpa using h)
    simp only [findKey]
    split
    · rename_i hx
      subst hx
      exact ⟨fun u hu => ⟨0, rfl, by simpa using hu⟩, fun h => by cases h⟩
    · rename_i hx
      refine ⟨fun u hu => ?_, fun hn => ?_⟩
      · obtain ⟨j, hj1, hj2⟩ := h1 u hu
        exact ⟨j + 1, by simpa using hj1, by simpa using hj2⟩
      · simp only [List.mem_cons, not_or]
        exact ⟨fun e => hx e.symm, h2 hn⟩
theorem RepT.mapv_inv {I : Imm} {bl : Bl} {v : Value} {ks : List Ky} {vs : List PV} (h : RepT I bl w v (.mapv ks vs)) : ∃ r clock es, ∃ ix : Nat → Nat, v = .map (some r) ∧ w.heap[r]? = some (.map es clock) ∧ vs.length = ks.length ∧
    (∀ (i : Nat) (e : MapEntry), es[i]? = some e → ∃ k ∈ ks, e.key = k.val) ∧ (∀ (i j : Nat) (e f : MapEntry), es[i]? = some e → es[j]? = some f → e.key = f.key → i = j) ∧
    (∀ (j : Nat) (k : Ky), ks[j]? = some k → ((es[ix j]?).map (·.key)) = some k.val) ∧ (∀ (j : Nat) (e : MapEntry) (p : PV), es[ix j]? = some e → vs[j]? = some p → Rep I w e.val p) := by
  cases h.rep rfl (by simp) (by simp) with
  | mapv ix h1 h2 h3 h4 h5 h6 h7 => exact ⟨_, _, _, ix, rfl, h2, h3, h4, h5, h6, h7⟩
theorem run_checkKey {empty : Bool} {t : TypeId} {d : TypeDesc} (ht : P.underlying t = some d) (hd : (∃ k, d = .int k) ∨ d = .string) (v : Value) : (Instr.checkKey empty 10000 t v).run P w = .ok () w := by
  show (Instr.checkKey empty (9999 + 1) t v).run P w = _
  generalize 9999 = n
  rcases hd with ⟨k, rfl⟩ | rfl <;> simp [Instr.checkKey, underlying, ht]
theorem kyOf_val {p : PV} {k : Ky} (h : kyOf p = some k) {v : Value} {I : Imm} {bl : Bl} (hr : RepT I bl w v p) : v = k.val := by
  cases p with
  | int i n => simp only [kyOf] at h; cases h; exact hr.int_inv
  | str l =>
    simp only [kyOf] at h
    cases h
    obtain ⟨s, rfl, rfl⟩ := hr.str_inv
    cases s; rfl
  | _ => simp [kyOf] at h
theorem free_of_ky {p : PV} {k : Ky} (h : kyOf p = some k) : p.free = true := by cases p <;> first | rfl | simp [kyOf] at h
theorem sim_look (hi : Inv cx G a w A σ) (hkd : ∀ t, cx.kd t = fi.kind t) (hnt : cx.nt = fi.nt) {o : Oper} {t kt et : TypeId} {x y : Operand} {ok : Bool} (ho : o.op = .lookup t x y ok) (ht : P.underlying t = some (.map kt et))
    {d : TypeDesc} (hkt : P.underlying kt = some d) (hdk : (∃ k, d = .int k) ∨ d = .string) {z : PV} (hz : zeroP P et = some z)
    {as : List AArg} (hc : compArgs fi [x, y] = some as) (hd : plainDst fi o.dst = true) (hrun : runA pur call { dst := o.dst, k := .p (.look z ok d.isInt), args := as } A σ = some (A', σ')) : Gives P cx o a w A' σ' := by
  refine gives2 hi hkd hnt hd hrun hc (two_of (V := lookV z ok d.isInt) (fun _ _ => rfl) rfl (fun _ => rfl) (fun _ _ _ _ => rfl)) fun x' y' p q r hx hv hp hq => ?_
  cases hx
  cases p with
  | mapv ks vs =>
    obtain ⟨rr, clock, es, ix, ev, hheap, hlen, hkeys, hone, hlt, hrv⟩ := (hp rfl).mapv_inv
    simp only [lookV] at hv
    split at hv
    · rename_i k hk
      have eq := kyOf_val hk (hq (free_of_ky hk))
      split at hv
      · rename_i hc'
        obtain ⟨hall, hint⟩ := hc'
        have hdd : (∃ i, d = .int i) ∧ (∃ i n, k = .i i n) ∨ d = .string ∧ ∃ l, k = .s l := by
          rcases hdk with ⟨i, rfl⟩ | rfl
          · cases k with
            | i j n => exact .inl ⟨⟨i, rfl⟩, j, n, rfl⟩
            | s l => simp [TypeDesc.isInt, Ky.isInt] at hint
          · cases k with
            | i j n => simp [TypeDesc.isInt, Ky.isInt] at hint
            | s l => exact .inr ⟨rfl, l, rfl⟩
        have hsk : ∀ e ∈ es.toList, ∃ k', e.key = k'.val ∧ sameKind k k' = true := by
          intro e he
          obtain ⟨i, hie⟩ := List.mem_iff_getElem?.1 he
          rw [Array.getElem?_toList] at hie
          obtain ⟨k', hk', e'⟩ := hkeys i e hie
          exact ⟨k', e', List.all_eq_true.1 hall k' hk'⟩
        have hzr : ∃ zv, (zeroValue et).run P w = .ok zv w ∧ Rep G.I w zv z ∧ z.free = true := by
          unfold zeroP at hz
          split at hz
          · rename_i it hit
            obtain ⟨zv, hzv, hzp⟩ := Option.bind_eq_some_iff.1 hz
            exact ⟨zv, by simp [zeroValue, typeInfo, hit, hzv], rep_ofVal hzp, free_ofVal hzp⟩
          · cases hz
        obtain ⟨zv, hzrun, hzrep, hzfree⟩ := hzr
        have hck := run_checkKey (P := P) (w := w) (empty := es.isEmpty) hkt hdk k.val
        have hget : (getObj rr).run P w = .ok (.map es clock) w := by simp [getObj, Sem.run, hheap]
        have hund : (underlying kt).run P w = .ok d w := by simp [underlying, hkt]
        obtain ⟨hs1, hs2⟩ := findKey_spec k ks vs hlen
        have fin : ∀ (u : PV) (c : Value) (b : Bool), Rep G.I w c u → u.free = true → r = (if ok then .tuple [u.disown, .bool b] else u.disown) → (execOp a.eval o).run P w = .ok (.value (if ok then .tuple #[c, .bool b] else c)) w →
            r.free = true ∧ ∃ v, (execOp a.eval o).run P w = .ok (.value v) w ∧ RepT G.I G.bl w v r ∧ ∀ tag, OwnOk G w tag v r := by
          intro u c b hr hf e hrun
          subst e
          cases ok with
          | true =>
            refine ⟨rfl, _, hrun, ?_, fun _ => trivial⟩
            refine .tuple rfl fun i p hp => ?_
            match i with
            | 0 => simp at hp; subst hp; exact .inl hr.disown
            | 1 => simp at hp; subst hp; exact .inl (.bool b)
            | n + 2 => simp at hp
          | false => exact ⟨by rw [if_neg (by simp), free_disown]; exact hf, _, hrun, .one (.inl hr.disown), fun _ => OwnOk_disown u⟩
        rcases findNow_some hdd es.toList 0 hsk with ⟨j, e, hej, hke, hfn⟩ | ⟨hno, hfn⟩
        · split at hv
          · rename_i u hu
            split at hv
            · rename_i hfu
              cases hv
              obtain ⟨j', hj1, hj2⟩ := hs1 u hu
              have hix := hlt j' k hj1
              obtain ⟨e', he', hke'⟩ := Option.map_eq_some_iff.1 hix
              rw [Array.getElem?_toList] at hej
              have hjj := hone _ _ _ _ hej he' (hke.trans hke'.symm)
              rw [hjj, he'] at hej
              cases hej
              refine fin u e.val true (hrv j' e u he' hj2) hfu rfl ?_
              simp [execOp, ho, Instr.lookup, ht, underlying, ev, eq, hget, hck, Instr.findKey, hkt, hfn]
            · cases hv
          · rename_i hu
            exfalso
            rw [Array.getElem?_toList] at hej
            obtain ⟨k', hk', e'⟩ := hkeys j e hej
            have := val_inj (e'.symm.trans hke)
            subst this
            exact hs2 hu hk'
        · split at hv
          · rename_i u hu
            exfalso
            obtain ⟨j', hj1, hj2⟩ := hs1 u hu
            have hix := hlt j' k hj1
            obtain ⟨e', he', hke'⟩ := Option.map_eq_some_iff.1 hix
            have : e' ∈ es.toList := by
              rw [← Array.getElem?_toList] at he'
              exact List.mem_of_getElem? he'
            exact hno e' this hke'
          · cases hv
            refine fin z zv false hzrep hzfree rfl ?_
            simp [execOp, ho, Instr.lookup, ht, underlying, ev, eq, hget, hck, Instr.findKey, hkt, hfn, hzrun]
      · cases hv
    · cases hv
  | nilm =>
    have ev : a.eval x = .map none := (hp rfl).nilm_inv
    simp only [lookV] at hv
    split at hv
    · rename_i k hk
      have eq := kyOf_val hk (hq (free_of_ky hk))
      split at hv
      · rename_i hint
        cases hv
        have hzr : ∃ zv, (zeroValue et).run P w = .ok zv w ∧ Rep G.I w zv z ∧ z.free = true := by
          unfold zeroP at hz
          split at hz
          · rename_i it hit
            obtain ⟨zv, hzv, hzp⟩ := Option.bind_eq_some_iff.1 hz
            exact ⟨zv, by simp [zeroValue, typeInfo, hit, hzv], rep_ofVal hzp, free_ofVal hzp⟩
          · cases hz
        obtain ⟨zv, hzrun, hzrep, hzfree⟩ := hzr
        have hck := run_checkKey (P := P) (w := w) (empty := true) hkt hdk k.val
        have hrun : (execOp a.eval o).run P w = .ok (.value (if ok then .tuple #[zv, .bool false] else zv)) w := by
          simp [execOp, ho, Instr.lookup, ht, underlying, ev, eq, hck, Instr.findKey, hkt, Instr.findNow, hzrun]
        cases ok with
        | true =>
          refine ⟨rfl, _, hrun, ?_, fun _ => trivial⟩
          refine .one (.inl (.tuple rfl fun i p hp => ?_))
          match i with
          | 0 => simp at hp; subst hp; exact hzrep.disown
          | 1 => simp at hp; subst hp; exact .bool false
          | n + 2 => simp at hp
        | false => exact ⟨by rw [if_neg (by simp), free_disown]; exact hzfree, _, hrun, .one (.inl hzrep.disown), fun _ => OwnOk_disown z⟩
      · cases hv
    · cases hv
  | _ => simp [lookV] at hv
end
end Go.Abs
