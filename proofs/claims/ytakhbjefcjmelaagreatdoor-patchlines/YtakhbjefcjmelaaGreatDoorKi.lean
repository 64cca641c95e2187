/- A part of the proof: A29 A30. -/
import Derived.Test.YtakhbjefcjmelaaGreatDoorKh

set_option linter.unusedVariables false
set_option linter.unusedSimpArgs false
namespace Go.Abs
open Go.RowKit
section
variable {P : Program} {pur : FuncId → Bool} {call : Caller} {fi : FI} {cx : Cx} {G : Gh} {a : Act} {w : World} {A A' : Frm} {σ σ' : Sto} {rg : RG} {o : Oper} {ao : AOp} {ops : Array Oper}
theorem mk_dst {d : Option Nat} {k : AK} {args : Option (List AArg)} {ex : List Nat} (h : mk fi d k args ex = some ao) : ao.dst = d := by
  obtain ⟨as, _, rfl, _⟩ := mk_some h; rfl
theorem compOp_dst (h : compOp P pur fi rg o = some ao) : ao.dst = o.dst := by
  unfold compOp at h
  dsimp only at h
  repeat' (split at h)
  all_goals first
    | (cases h; done)
    | exact mk_dst h
    | (cases h; rfl)
    | (cases h; simp_all; done)
    | (obtain ⟨_, _, rfl⟩ := Option.map_eq_some_iff.1 h; rfl)
    | (obtain ⟨_, _, rfl⟩ := Option.map_eq_some_iff.1 h; simp_all; done)
theorem compOpN_dst (h : compOpN P pur fi rg o = some ao) : ao.dst = o.dst := by
  unfold compOpN at h
  split at h
  · rename_i a hc
    cases h
    exact compOp_dst hc
  · cases h; rfl
theorem op_soundN {ro : Option Nat} {n : Nat} {K : Act → World → Prop} {Q : Exit → Act → World → Prop} (hS : Sound P call) (hi : Inv cx G a w A σ) (hx : CxOk cx fi) (hc : compOpN P pur fi rg o = some ao)
    (hrun : runA pur call ao A σ = some (A', σ')) (hk : ∀ a' w', Sim cx a' w' A' σ' → Kept o.dst a a' → K a' w') : o.wpIn (FW ro) n P a w K Q := by
  unfold compOpN at hc
  split at hc
  · rename_i a' hc'
    cases hc
    exact op_sound hS hi hx hc' hrun hk
  · cases hc
    obtain ⟨vs, rs, _, hs, _⟩ := runK hrun
    cases vs <;> simp [sem, semP] at hs
def OpOk (P : Program) (pur : FuncId → Bool) (fi : FI) (ops : Array Oper) (o : Oper) (ao : AOp) : Prop :=
  ∃ rg a, compOpN P pur fi rg o = some a ∧ compGuard fi ops o.guard = some ao.guard ∧ ao = { a with guard := ao.guard } ∧ (ao.guard.isSome = true → a.ex = [] ∧ a.clr = [] ∧ plainDst fi a.dst = true)
theorem compList_spec {id : Nat} {rg : RG} : ∀ (l : List Oper) (j : Nat) (as : List AOp), compList P pur fi id rg ops j l = some as →
    as.length = l.length ∧ ∀ (i : Nat) (o : Oper) (ao : AOp), l[i]? = some o → as[i]? = some ao → OpOk P pur fi ops o ao
  | [], j, as, h => by cases h; exact ⟨rfl, fun i o ao h => by simp at h⟩
  | o :: l, j, as, h => by
    simp only [compList] at h
    split at h
    · rename_i a g as' h1 h2 h3
      split at h
      · cases h
      · rename_i hc
        cases h
        obtain ⟨hl, hr⟩ := compList_spec l (j + 1) as' h3
        refine ⟨by simp [hl], fun i o' ao' ho ha => ?_⟩
        cases i with
        | zero =>
          simp at ho ha
          subst ho ha
          refine ⟨_, a, h1, h2, rfl, fun hg => ?_⟩
          have hc' : ¬ (a.ex ≠ [] ∨ a.clr ≠ [] ∨ plainDst fi a.dst = false) := fun h => hc ⟨hg, h⟩
          simp only [not_or, ne_eq, Classical.not_not, Bool.not_eq_false] at hc'
          exact hc'
        | succ i => exact hr i o' ao' (by simpa using ho) (by simpa using ha)
    · cases h
theorem wanted_of (hi : Inv cx G a w A σ) (hx : CxOk cx fi) {g : Option (Nat × Bool)} (hg : compGuard fi ops o.guard = some g) {b : Bool} (hw : wantedA A g = some b) : Region.wanted o (yielded ops a.tmps) = b := by
  unfold Region.wanted
  cases hgu : o.guard with
  | none =>
    rw [hgu] at hg
    simp only [compGuard] at hg
    cases hg
    simp only [wantedA] at hw
    cases hw; rfl
  | some jb =>
    obtain ⟨j, want⟩ := jb
    rw [hgu] at hg
    simp only [compGuard] at hg
    split at hg
    · rename_i t ht
      split at hg
      · rename_i hp
        cases hg
        have hpl := plain1 hx.kd hx.nt hp
        have hlt : t < a.tmps.size := by rw [hi.size]; exact hpl.1
        have hat : a.tmps[t]? = some (at' a t) := by simp [at', Array.getD, hlt]
        simp only [wantedA] at hw
        split at hw
        · rename_i c hc
          cases hw
          have hv := ((SlotOk_val hpl.2 rfl).1 (hi.slot t _ hc)).1.bool_inv
          simp only [yielded, ht, Option.bind_some, hat, hv]
          cases c <;> cases want <;> rfl
        · rename_i hc
          cases hw
          obtain ⟨cs, hv, _⟩ := ((SlotOk_val hpl.2 rfl).1 (hi.slot t _ hc)).1.tuple_inv
          simp only [yielded, ht, Option.bind_some, hat, hv]
          rfl
        · cases hw
      · cases hg
    · cases hg
theorem undef_rep {I : Imm} {bl : Bl} : RepT I bl w undef undefP := by
  refine .tuple (cs := #[]) rfl fun i p h => by simp at h
theorem exec_sound {ro : Option Nat} {n : Nat} {K : Act → World → Prop} {Q : Exit → Act → World → Prop} (hS : Sound P call) (hx : CxOk cx fi) {i : Nat} (ho : ops[i]? = some o) (hok : OpOk P pur fi ops o ao) (hsim : Sim cx a w A σ)
    (hex : execA pur call ao A σ = some (A', σ')) (hk : ∀ a' w', Sim cx a' w' A' σ' → Kept o.dst a a' → K a' w') : wpOpIn (FW ro) n P ops Q i K a w := by
  obtain ⟨G, hi⟩ := hsim
  obtain ⟨rg, a0, hc, hg, he, hpl⟩ := hok
  unfold wpOpIn
  rw [ho]
  dsimp only
  unfold execA at hex
  split at hex
  · rename_i hw
    rw [wanted_of hi hx hg hw, if_pos rfl]
    refine op_soundN hS hi hx hc (pur := pur) (A' := A') (σ' := σ') ?_ hk
    rw [he] at hex
    exact hex
  · rename_i hw
    rw [wanted_of hi hx hg hw, if_neg (by simp)]
    refine ⟨fun _ _ => trivial, hk _ _ ⟨G, ?_⟩ (kept_put _ _ _)⟩
    have hgs : ao.guard.isSome = true := by
      cases hgg : ao.guard with
      | none => rw [hgg] at hw; simp [wantedA] at hw
      | some _ => rfl
    obtain ⟨h1, h2, h3⟩ := hpl hgs
    split at hex
    · cases hex
      have hdst : ao.dst = o.dst := by
        have := compOpN_dst hc
        rw [he]; exact this
      have hex0 : ao.ex = [] := by rw [he]; exact h1
      have hcl0 : ao.clr = [] := by rw [he]; exact h2
      have hpd : plainDst fi o.dst = true := by rw [← compOpN_dst hc]; exact h3
      have hA : putAll A ao.wr [some undefP] = setO A o.dst undefP := by
        simp only [AOp.wr, hex0, hcl0, hdst, List.append_nil]
        cases o.dst <;> rfl
      rw [hA]
      exact hi.put1 (Ext.refl _ _ _) hi.base rfl o.dst (plain_ok hx.kd hx.nt hpd) rfl undef_rep (fun _ _ => trivial)
    · cases hex
  · cases hex
theorem exec_len (h : execA pur call ao A σ = some (A', σ')) : A'.length = A.length := by
  unfold execA at h
  split at h
  · unfold runA at h
    split at h
    · split at h
      · split at h
        · cases h; exact putAll_len ..
        · split at h
          · cases h; rfl
          · cases h
      · cases h
    · cases h
  · split at h
    · cases h; exact putAll_len ..
    · cases h
  · cases h
theorem execOps_len : ∀ (as : List AOp) {A A' : Frm} {σ σ' : Sto}, execOps pur call as A σ = some (A', σ') → A'.length = A.length
  | [], A, A', σ, σ', h => by cases h; rfl
  | ao :: as, A, A', σ, σ', h => by
    simp only [execOps] at h
    split at h
    · rename_i A1 σ1 h1
      rw [execOps_len as h, exec_len h1]
    · cases h
theorem ops_sound {ro : Option Nat} {n : Nat} {Q : Exit → Act → World → Prop} (hS : Sound P call) (hx : CxOk cx fi) {as : List AOp} (hl : as.length = ops.size)
    (hok : ∀ (i : Nat) (o : Oper) (ao : AOp), ops[i]? = some o → as[i]? = some ao → OpOk P pur fi ops o ao) {A' : Frm} {σ' : Sto} {S : Nat → Prop} (hsp : ∀ t, S t → ∀ (i : Nat) (o : Oper), ops[i]? = some o → o.dst ≠ some t) {a0 : Act} (hq : ∀ a' w', Sim cx a' w' A' σ' → (∀ t, S t → at' a' t = at' a0 t) → Q .normal a' w') :
    ∀ (d k : Nat), k + d = ops.size → ∀ (A : Frm) (σ : Sto), execOps pur call (as.drop k) A σ = some (A', σ') → ∀ a w, Sim cx a w A σ → (∀ t, S t → at' a t = at' a0 t) → wpOpsIn (FW ro) n P ops Q (List.range' k d) a w := by
  intro d
  induction d with
  | zero =>
    intro k hk A σ hex a w hs hf
    rw [List.drop_eq_nil_of_le (by omega)] at hex
    cases hex
    exact hq a w hs hf
  | succ d ih =>
    intro k hk A σ hex a w hs hf
    have hlt : k < as.length := by omega
    rw [List.drop_eq_getElem_cons hlt] at hex
    simp only [execOps] at hex
    split at hex
    · rename_i A1 σ1 h1
      rw [List.range'_succ, wpOpsIn_cons]
      have ho : ops[k]? = some ops[k] := Array.getElem?_eq_getElem (by omega)
      exact exec_sound hS hx ho (hok k _ _ ho (List.getElem?_eq_getElem hlt)) hs h1 (fun a' w' hs' hk' => ih (k + 1) (by omega) A1 σ1 hex a' w' hs' fun t ht => (hk' t (hsp t ht k _ ho)).trans (hf t ht))
    · cases hex
theorem Inv.drew (hi : Inv cx G a w A σ) : Inv cx G a w.drew A σ := by
  have := hi.step (fun _ => False) none undef (ext_drew _) (base_drew hi.base) rfl (fun t p hp => .inl ⟨hp, by simp, fun _ h => h, fun _ _ _ _ => by simp, fun _ _ => ⟨by simp, fun h => h⟩⟩) (fun _ cs hc => .inl ⟨hc, fun _ h => h⟩) hi.len hi.abl
  exact this
end
end Go.Abs

namespace Go.Abs
open Go.RowKit
def Esto (σ τ : Sto) : Prop := σ.map (List.map PV.own0) = τ.map (List.map PV.own0)
section
variable {P : Program} {pur : FuncId → Bool} {call : Caller} {fi : FI} {cx : Cx} {G : Gh} {a : Act} {w : World} {A A' B : Frm} {σ σ' τ : Sto} {rg : RG} {o : Oper} {ao : AOp} {ops : Array Oper}
theorem putAll_get_ne : ∀ (ts : List Nat) (vs : List (Option PV)) (A : Frm) (t : Nat), t ∉ ts → (putAll A ts vs).get t = A.get t
  | [], vs, A, t, _ => by cases vs <;> rfl
  | s :: ts, [], A, t, _ => rfl
  | s :: ts, v :: vs, A, t, h => by
    rw [putAll, putAll_get_ne ts vs _ t (fun h' => h (List.mem_cons_of_mem _ h')), get_set, if_neg (fun h' => h (by rw [h'.1]; exact List.mem_cons_self ..))]
theorem putAll_get_eq : ∀ (ts : List Nat) (vs : List (Option PV)) (A B : Frm) (t : Nat), A.length = B.length → ts.length ≤ vs.length → t ∈ ts → (putAll A ts vs).get t = (putAll B ts vs).get t
  | [], vs, A, B, t, _, _, h => by cases h
  | s :: ts, [], A, B, t, _, h, _ => by simp at h
  | s :: ts, v :: vs, A, B, t, hl, hv, h => by
    rw [putAll, putAll]
    by_cases ht : t ∈ ts
    · exact putAll_get_eq ts vs _ _ t (by simp [hl]) (by simpa using hv) ht
    · rw [putAll_get_ne ts vs _ t ht, putAll_get_ne ts vs _ t ht, get_set, get_set]
      have hts : t = s := by
        rcases List.mem_cons.1 h with h | h
        · exact h
        · exact absurd h ht
      subst hts
      by_cases hlt : t < A.length
      · rw [if_pos ⟨rfl, hlt⟩, if_pos ⟨rfl, by omega⟩]
      · rw [if_neg (fun h => hlt h.2), if_neg (fun h => hlt (by omega))]
        unfold Frm.get
        rw [List.getElem?_eq_none (by omega), List.getElem?_eq_none (by omega)]
theorem evalArgs_congr : ∀ (as : List AArg), (∀ t ∈ argSlots as, B.get t = A.get t) → evalArgs B as = evalArgs A as
  | [], _ => rfl
  | .slot t :: as, h => by
    simp only [evalArgs]
    rw [h t (List.mem_cons_self ..), evalArgs_congr as (fun t' ht' => h t' (List.mem_cons_of_mem _ ht'))]
  | .val v :: as, h => by
    simp only [evalArgs]
    rw [evalArgs_congr as (fun t' ht' => h t' ht')]
theorem wantedA_congr (g : Option (Nat × Bool)) (h : ∀ t b, g = some (t, b) → B.get t = A.get t) : wantedA B g = wantedA A g := by
  cases g with
  | none => rfl
  | some x =>
    obtain ⟨t, b⟩ := x
    simp only [wantedA]
    rw [h t b rfl]
theorem isSelf_own0 (x : PV) : x.own0.isSelf = x.isSelf := by cases x <;> rfl
theorem isAgg_own0 (x : PV) : x.own0.isAgg = x.isAgg := by cases x <;> rfl
theorem disown_own0 {x : PV} (h : x.isAgg = false) : x.disown = x.own0 := by cases x <;> first | rfl | (simp [PV.isAgg] at h)
theorem flat_own0 (x : PV) : x.own0.flat = x.flat := by cases x <;> rfl
theorem all_flat (l : List PV) : (l.map PV.own0).all PV.flat = l.all PV.flat := by
  rw [List.all_map]; congr 1; funext x; exact flat_own0 x
theorem arrOf_own0 (cs : List PV) (g s : Nat) : arrOf cs g s = arrOf (cs.map PV.own0) g s := by
  match cs with
  | [] => rfl
  | [x] => cases x <;> rfl
  | x :: y :: l => cases x <;> rfl
theorem arrOf_own {cs ds : List PV} (h : ds.map PV.own0 = cs.map PV.own0) (g s : Nat) : arrOf ds g s = arrOf cs g s := by rw [arrOf_own0, h, ← arrOf_own0]
theorem subO_own {cs ds : List PV} (h : ds.map PV.own0 = cs.map PV.own0) (off n : Nat) (ag : Bool) : (subO ds off n ag).map PV.disown = (subO cs off n ag).map PV.disown := by
  have hl : ds.length = cs.length := by simpa using congrArg List.length h
  have hsl : ((ds.drop off).take n).map PV.own0 = ((cs.drop off).take n).map PV.own0 := by
    rw [List.map_take, List.map_drop, List.map_take, List.map_drop, h]
  cases ag with
  | true =>
    simp only [subO, hl]
    rw [← all_flat ((ds.drop off).take n), hsl, all_flat]
    split
    · simp only [Option.map_some, PV.disown, Option.some.injEq, PV.agg.injEq]
      exact hsl
    · rfl
  | false =>
    simp only [subO]
    have hg := congrArg (fun l => l[off]?) h
    simp only [List.getElem?_map] at hg
    cases hd : ds[off]? with
    | none =>
      rw [hd] at hg
      cases hc : cs[off]? with
      | none => rfl
      | some y => rw [hc] at hg; simp at hg
    | some x =>
      rw [hd] at hg
      cases hc : cs[off]? with
      | none => rw [hc] at hg; simp at hg
      | some y =>
        rw [hc] at hg
        simp only [Option.map_some, Option.some.injEq] at hg
        have hag : x.isAgg = y.isAgg := by rw [← isAgg_own0 x, hg, isAgg_own0]
        have hse : x.isSelf = y.isSelf := by rw [← isSelf_own0 x, hg, isSelf_own0]
        dsimp only
        rw [hag, hse]
        cases hy : y.isAgg with
        | true => rfl
        | false =>
          cases hz : y.isSelf with
          | true => rfl
          | false =>
            simp only [Bool.or_self, Bool.false_eq_true, if_false, Option.map_some]
            rw [disown_own0 (by rw [hag]; exact hy), disown_own0 hy, hg]
theorem semR_local {k : RK} {vs : List PV} (h : Esto τ σ) : semR k vs τ = semR k vs σ := by
  cases k with
  | ld n ag =>
    match vs with
    | [] => rfl
    | x :: y :: l => cases x <;> rfl
    | [x] =>
      cases x with
      | ref id off =>
        simp only [semR]
        have hg := congrArg (fun l => l[id]?) h
        simp only [List.getElem?_map] at hg
        cases hd : τ[id]? with
        | none =>
          rw [hd] at hg
          cases hc : σ[id]? with
          | none => rfl
          | some y => rw [hc] at hg; simp at hg
        | some ds =>
          rw [hd] at hg
          cases hc : σ[id]? with
          | none => rw [hc] at hg; simp at hg
          | some cs =>
            rw [hc] at hg
            simp only [Option.map_some, Option.some.injEq] at hg
            have := subO_own hg off n ag
            dsimp only
            have e : ∀ s : Option PV, (s.map fun v => [some v.disown]) = (s.map PV.disown).map fun v => [some v] := fun s => by cases s <;> rfl
            rw [e, e, this]
      | aptr id gen size i off =>
        simp only [semR]
        have hg := congrArg (fun l => l[id]?) h
        simp only [List.getElem?_map] at hg
        cases hd : τ[id]? with
        | none =>
          rw [hd] at hg
          cases hc : σ[id]? with
          | none => rfl
          | some y => rw [hc] at hg; simp at hg
        | some ds =>
          rw [hd] at hg
          cases hc : σ[id]? with
          | none => rw [hc] at hg; simp at hg
          | some cs =>
            rw [hc] at hg
            simp only [Option.map_some, Option.some.injEq] at hg
            dsimp only
            rw [arrOf_own hg]
      | _ => rfl
theorem sem_local {k : AK} {vs : List PV} {rs : List (Option PV)} (hW : isW k = true → τ = σ) (hE : isP k = false → Esto τ σ) (h : sem pur call k vs σ = some (rs, σ')) :
    ∃ τ', sem pur call k vs τ = some (rs, τ') ∧ (isW k = true → τ' = σ') ∧ (isW k = false → τ' = τ) := by
  cases k with
  | p k =>
    simp only [sem] at h ⊢
    obtain ⟨rs', h1, e⟩ := Option.map_eq_some_iff.1 h
    cases e
    exact ⟨τ, by rw [h1]; rfl, fun h => by simp [isW] at h, fun _ => rfl⟩
  | r k =>
    simp only [sem] at h ⊢
    obtain ⟨rs', h1, e⟩ := Option.map_eq_some_iff.1 h
    cases e
    exact ⟨τ, by rw [semR_local (hE rfl), h1]; rfl, fun h => by simp [isW] at h, fun _ => rfl⟩
  | w k =>
    have := hW rfl
    subst this
    exact ⟨σ', h, fun _ => rfl, fun h => by simp [isW] at h⟩
  | c f =>
    simp only [sem] at h ⊢
    split at h
    · rename_i hf
      rw [if_pos hf]
      obtain ⟨⟨r, σ1⟩, h1, h2⟩ := Option.bind_eq_some_iff.1 h
      dsimp only at h2
      split at h2
      · rename_i hr
        cases h2
        refine ⟨τ, ?_, fun h => by simp [isW] at h, fun _ => rfl⟩
        rw [h1]
        simp [hr]
      · cases h2
    · cases h
theorem exec_local (hl : B.length = A.length) (hrd : ∀ t, t ∈ ao.rd → B.get t = A.get t) (hW : isW ao.k = true → τ = σ) (hE : isP ao.k = false → Esto τ σ) (h : execA pur call ao A σ = some (A', σ')) :
    ∃ B' τ', execA pur call ao B τ = some (B', τ') ∧ B'.length = B.length ∧ (∀ t, t ∈ ao.wr → B'.get t = A'.get t) ∧ (∀ t, t ∉ ao.wr → B'.get t = B.get t) ∧ (isW ao.k = true → τ' = σ') ∧ (isW ao.k = false → τ' = τ) := by
  have hw : wantedA B ao.guard = wantedA A ao.guard := wantedA_congr _ fun t b hg => hrd t (by simp [AOp.rd, hg])
  have he : evalArgs B ao.args = evalArgs A ao.args := evalArgs_congr _ fun t ht => hrd t (by simp only [AOp.rd]; exact List.mem_append_right _ ht)
  have fin : ∀ {B' : Frm} {τ' : Sto}, execA pur call ao B τ = some (B', τ') → B'.length = B.length := fun h => exec_len h
  unfold execA at h
  split at h
  · rename_i hwt
    unfold runA at h
    split at h
    · rename_i vs hvs
      split at h
      · rename_i rs σ1 hs
        have hσ : σ1 = σ' := by
          split at h
          · cases h; rfl
          · split at h <;> cases h; rfl
        subst hσ
        obtain ⟨τ', h1, h2, h3⟩ := sem_local hW hE hs
        by_cases hlen : rs.length = ao.dst.toList.length + ao.ex.length
        · rw [if_pos hlen] at h
          cases h
          have hB : execA pur call ao B τ = some (putAll B ao.wr (rs ++ ao.clr.map fun _ => none), τ') := by
            unfold execA; rw [hw, hwt]; dsimp only
            unfold runA; rw [he, hvs]; dsimp only
            rw [h1]; dsimp only
            rw [if_pos hlen]
          refine ⟨_, τ', hB, fin hB, fun t ht => putAll_get_eq _ _ _ _ t hl ?_ ht, fun t ht => putAll_get_ne _ _ _ t ht, h2, h3⟩
          simp only [AOp.wr, List.length_append, List.length_map]; omega
        · rw [if_neg hlen] at h
          split at h
          · rename_i hc
            cases h
            have hB : execA pur call ao B τ = some (B, τ') := by
              unfold execA; rw [hw, hwt]; dsimp only
              unfold runA; rw [he, hvs]; dsimp only
              rw [h1]; dsimp only
              rw [if_neg hlen, if_pos hc]
            refine ⟨_, τ', hB, rfl, fun t ht => ?_, fun t ht => rfl, h2, h3⟩
            have : ao.wr = [] := by
              simp only [AOp.wr, hc.2.1, hc.2.2, List.append_nil]
              have := hc.1
              cases hd : ao.dst with
              | none => rfl
              | some d => rw [hd] at this; simp at this
            rw [this] at ht; cases ht
          · cases h
      · cases h
    · cases h
  · rename_i hwt
    split at h
    · rename_i hc
      cases h
      have hB : execA pur call ao B τ = some (putAll B ao.wr [some undefP], τ) := by
        unfold execA; rw [hw, hwt]; dsimp only
        rw [if_pos hc]
      refine ⟨_, τ, hB, fin hB, fun t ht => putAll_get_eq _ _ _ _ t hl ?_ ht, fun t ht => putAll_get_ne _ _ _ t ht, hW, fun _ => rfl⟩
      simp only [AOp.wr, hc.1, hc.2, List.append_nil]
      cases ao.dst <;> simp
    · cases h
  · cases h
theorem exec_frame (h : execA pur call ao A σ = some (A', σ')) : ∀ t, t ∉ ao.wr → A'.get t = A.get t := by
  unfold execA at h
  split at h
  · unfold runA at h
    split at h
    · split at h
      · split at h
        · cases h; intro t ht; exact putAll_get_ne _ _ _ t ht
        · split at h
          · cases h; intro t _; rfl
          · cases h
      · cases h
    · cases h
  · split at h
    · cases h; intro t ht; exact putAll_get_ne _ _ _ t ht
    · cases h
  · cases h
theorem exec_store {T : Sto → Sto → Prop} (hT : ∀ s, T s s) (h : execA pur call ao A σ = some (A', σ')) (hk : ∀ vs rs, sem pur call ao.k vs σ = some (rs, σ') → T σ' σ) : T σ' σ := by
  unfold execA at h
  split at h
  · unfold runA at h
    split at h
    · split at h
      · rename_i rs σ1 hs
        split at h
        · cases h; exact hk _ _ hs
        · split at h
          · cases h; exact hk _ _ hs
          · cases h
      · cases h
    · cases h
  · split at h
    · cases h; exact hT _
    · cases h
  · cases h
theorem sem_same {k : AK} {vs : List PV} {rs : List (Option PV)} (hk : isW k = false) (h : sem pur call k vs σ = some (rs, σ')) : σ' = σ := by
  obtain ⟨τ', h1, _, h3⟩ := sem_local (τ := σ) (fun _ => rfl) (fun _ => rfl) h
  rw [h] at h1
  cases h1
  exact h3 hk
theorem set_own {σ : Sto} {id off : Nat} {cs : List PV} {v : PV} (hσ : σ[id]? = some cs) (hv : cs[off]? = some v) (hag : v.isAgg = false) : Esto (σ.set id (place1 cs off [v.disown])) σ := by
  unfold Esto
  rw [List.map_set]
  apply List.ext_getElem?
  intro k
  rw [List.getElem?_set]
  split
  · rename_i e
    subst e
    have hlt := (List.getElem?_eq_some_iff.1 hσ).1
    simp only [List.length_map, hlt, if_true, List.getElem?_map, hσ, Option.map_some, Option.some.injEq]
    have hofs := (List.getElem?_eq_some_iff.1 hv)
    obtain ⟨hlo, hve⟩ := hofs
    unfold place1
    simp only [List.map_append, List.map_cons, List.map_nil, List.length_cons, List.length_nil]
    have e1 : v.disown.own0 = v.own0 := by rw [disown_own0 hag]; cases v <;> rfl
    rw [e1, ← hve]
    have key : cs.take off ++ cs[off] :: cs.drop (off + 1) = cs := by rw [← List.drop_eq_getElem_cons hlo, List.take_append_drop]
    have := congrArg (List.map PV.own0) key
    rw [List.map_append, List.map_cons] at this
    simpa using this
  · rfl
theorem sem_soft {k : AK} {vs : List PV} {rs : List (Option PV)} (hk : isH k = false) (h : sem pur call k vs σ = some (rs, σ')) : Esto σ' σ := by
  cases k with
  | w k =>
    cases k with
    | ldo =>
      simp only [sem] at h
      match vs, h with
      | [c], h =>
        obtain ⟨id, off, cs, v, rfl, h1, h2, h3, e⟩ := ldo_sem h
        cases e
        exact set_own h1 h2 (by cases v <;> first | rfl | simp [PV.isSl] at h3)
      | [], h => simp [semW] at h
      | x :: y :: l, h => simp [semW] at h
    | _ => simp [isH] at hk
  | _ =>
    have := sem_same (by rfl) h
    rw [this]; rfl
theorem fold_bits (acc : List Nat) (i : Nat) : ∀ (l : List Edge) (s : Nat), (l.foldl (fun s e => if Region.binds .any e then s ||| 2 ^ e.on ||| acc.getD e.on 0 else s) s).testBit i = true →
    s.testBit i = true ∨ ∃ e ∈ l, Region.binds .any e = true ∧ (e.on = i ∨ (acc.getD e.on 0).testBit i = true)
  | [], s, h => .inl h
  | e :: l, s, h => by
    simp only [List.foldl_cons] at h
    rcases fold_bits acc i l _ h with h | ⟨e', he', h⟩
    · split at h
      · rename_i hb
        simp only [Nat.testBit_or, Bool.or_eq_true] at h
        rcases h with (h | h) | h
        · exact .inl h
        · rw [Nat.testBit_two_pow] at h
          exact .inr ⟨e, List.mem_cons_self .., hb, .inl (by simpa using h)⟩
        · exact .inr ⟨e, List.mem_cons_self .., hb, .inr h⟩
      · exact .inl h
    · exact .inr ⟨e', List.mem_cons_of_mem _ he', h⟩
theorem aheads_spec : ∀ (l : List Oper) (pre : List Oper) (acc : List Nat), ops.toList = pre ++ l → acc.length = pre.length → (∀ i j, j < pre.length → (acc.getD j 0).testBit i = true → Ahead ops i j) →
    ∀ i j, j < ops.size → ((aheads acc l).getD j 0).testBit i = true → Ahead ops i j
  | [], pre, acc, he, hl, h => by
    intro i j hj hb
    refine h i j ?_ hb
    have := congrArg List.length he
    simp at this; omega
  | o :: l, pre, acc, he, hl, h => by
    simp only [aheads]
    refine aheads_spec l (pre ++ [o]) _ (by rw [he]; simp) (by simp [hl]) fun i j hj hb => ?_
    by_cases hlt : j < pre.length
    · refine h i j hlt ?_
      rw [List.getD_eq_getElem?_getD, List.getElem?_append_left (by omega), ← List.getD_eq_getElem?_getD] at hb
      exact hb
    · have hj' : j = pre.length := by simp at hj; omega
      subst hj'
      rw [List.getD_eq_getElem?_getD, List.getElem?_append_right (by omega), hl] at hb
      simp only [Nat.sub_self, List.getElem?_cons_zero, Option.getD_some, aheadBits] at hb
      have ho : ops[pre.length]? = some o := by
        rw [← Array.getElem?_toList, he]; simp
      intro L hcl hL
      have hL' := hL o ho
      rw [← Array.foldl_toList] at hb
      rcases fold_bits acc i _ _ hb with hb | ⟨e, hemem, hbind, hb⟩
      · simp at hb
      · have hemem' : e ∈ o.after := by simpa using hemem
        rcases hb with rfl | hb
        · exact hL' e hemem' hbind
        · have hlt : e.on < pre.length := by
            rcases Nat.lt_or_ge e.on pre.length with h' | h'
            · exact h'
            · rw [List.getD_eq_getElem?_getD, List.getElem?_eq_none (by omega)] at hb
              simp at hb
          exact h i e.on hlt hb L hcl (fun o' ho' e' he' hb' => hcl e.on o' ho' (hL' e hemem' hbind) e' he' hb')
theorem pairs_spec {bits : List Nat} {as : List AOp} : ∀ (n : Nat), pairsOk bits as n = true → ∀ i j, i < j → j < n → (bits.getD j 0).testBit i = true ∨ apartA (as.getD i default) (as.getD j default) = true
  | 0, _ => fun i j _ h => by omega
  | n + 1, h => by
    simp only [pairsOk, Bool.and_eq_true] at h
    intro i j hij hj
    rcases Nat.lt_or_ge j n with h' | h'
    · exact pairs_spec n h.1 i j hij h'
    · have : j = n := by omega
      subst this
      have := List.all_eq_true.1 h.2 i (List.mem_range.2 hij)
      simpa using this
theorem acyclic_spec : ∀ (n : Nat), acyclic ops.toList n = true → ∀ i o, i < n → ops[i]? = some o → ∀ e ∈ o.after, Region.binds .any e = true → e.on < i
  | 0, _ => fun i o h => by omega
  | n + 1, h => by
    simp only [acyclic, Bool.and_eq_true] at h
    intro i o hi ho e he hb
    rcases Nat.lt_or_ge i n with h' | h'
    · exact acyclic_spec n h.1 i o h' ho e he hb
    · have : i = n := by omega
      subst this
      have h2 := h.2
      rw [Array.getElem?_toList, ho] at h2
      dsimp only at h2
      have := Array.all_eq_true_iff_forall_mem.1 h2 e he
      simp only [hb, Bool.not_true, Bool.false_or, decide_eq_true_eq] at this
      exact this
theorem disjointL_spec {x y : List Nat} (h : disjointL x y = true) : ∀ t, t ∈ x → t ∉ y := by
  intro t ht hy
  have := List.all_eq_true.1 h t ht
  simp at this
  exact this hy
theorem apart_unordered {as : List AOp} {i j : Nat} (h : apartA (as.getD i default) (as.getD j default) = true) :
    Unordered (fun i => (as.getD i default).rd) (fun i => (as.getD i default).wr) (fun i => isW (as.getD i default).k) (fun i => isH (as.getD i default).k) (fun i => isP (as.getD i default).k) i j := by
  simp only [apartA, Bool.and_eq_true] at h
  obtain ⟨⟨⟨⟨h1, h2⟩, h3⟩, h4⟩, h5⟩ := h
  refine ⟨disjointL_spec h1, disjointL_spec h2, disjointL_spec h3, fun hw => ?_, fun hw => ?_⟩
  · simp only [hw, Bool.not_true, Bool.false_or, Bool.or_eq_true, Bool.and_eq_true, Bool.not_eq_true'] at h4
    exact h4
  · simp only [hw, Bool.not_true, Bool.false_or, Bool.or_eq_true, Bool.and_eq_true, Bool.not_eq_true'] at h5
    exact h5
theorem execOps_seq : ∀ (as : List AOp) (A A' : Frm) (σ σ' : Sto), execOps pur call as A σ = some (A', σ') →
    ∃ (F : Nat → Frm) (S : Nat → Sto), F 0 = A ∧ S 0 = σ ∧ F as.length = A' ∧ S as.length = σ' ∧ ∀ i, i < as.length → execA pur call (as.getD i default) (F i) (S i) = some (F (i + 1), S (i + 1))
  | [], A, A', σ, σ', h => by
    cases h
    exact ⟨fun _ => A, fun _ => σ, rfl, rfl, rfl, rfl, fun i h => by simp at h⟩
  | ao :: as, A, A', σ, σ', h => by
    simp only [execOps] at h
    split at h
    · rename_i A1 σ1 h1
      obtain ⟨F, S, e1, e2, e3, e4, e5⟩ := execOps_seq as A1 A' σ1 σ' h
      refine ⟨fun i => match i with | 0 => A | i + 1 => F i, fun i => match i with | 0 => σ | i + 1 => S i, rfl, rfl, e3, e4, fun i hi => ?_⟩
      cases i with
      | zero =>
        show execA pur call ao A σ = some (F 0, S 0)
        rw [h1, e1, e2]
      | succ i => exact e5 i (by simpa using hi)
    · cases h
theorem isW_isP {k : AK} (h : isW k = true) : isP k = false := by cases k <;> first | rfl | simp [isW] at h
theorem isH_isW {k : AK} (h : isH k = true) : isW k = true := by cases k <;> first | rfl | simp [isH] at h
theorem region_sound {ro : Option Nat} {n : Nat} {Q : Exit → Act → World → Prop} (hS : Sound P call) (hx : CxOk cx fi) (hmo : P.follows .mixedOrders = true) {id : Nat} {draw : Bool} {as : List AOp} (hc : compRegion P pur fi id ops draw = some as)
    (hex : execOps pur call as A σ = some (A', σ')) (hs : Sim cx a w A σ) {Sl : Nat → Prop} (hsp : ∀ t, Sl t → ∀ (i : Nat) (o : Oper), ops[i]? = some o → o.dst ≠ some t) (hq : ∀ a' w', Sim cx a' w' A' σ' → (∀ t, Sl t → at' a' t = at' a t) → Q .normal a' w') : (Code.region id ops draw).wpIn (FW ro) n P Q a w := by
  unfold compRegion at hc
  split at hc
  · rename_i as' hl
    obtain ⟨hlen, hspec⟩ := compList_spec _ _ _ hl
    have hlen' : as'.length = ops.size := by simpa using hlen
    have hok : ∀ (i : Nat) (o : Oper) (ao : AOp), ops[i]? = some o → as'[i]? = some ao → OpOk P pur fi ops o ao := fun i o ao ho ha => hspec i o ao (by rw [Array.getElem?_toList]; exact ho) ha
    cases draw with
    | false =>
      simp only [Bool.false_eq_true, if_false] at hc
      cases hc
      refine wpIn_region ?_
      have := ops_sound (ro := ro) (n := n) hS hx hlen' hok hsp hq ops.size 0 (by omega) A σ (by simpa using hex) a w hs (fun _ _ => rfl)
      rw [List.range_eq_range']
      exact this
    | true =>
      simp only [if_true] at hc
      split at hc
      · rename_i hcc
        cases hc
        simp only [Bool.and_eq_true] at hcc
        obtain ⟨hacy, hpairs⟩ := hcc
        obtain ⟨F, S, e1, e2, e3, e4, e5⟩ := execOps_seq _ _ _ _ _ hex
        rw [hlen'] at e3 e4 e5
        refine wpIn_region_any hmo ?_
        have hlenF : ∀ i, i ≤ ops.size → (F i).length = (F 0).length := by
          intro i
          induction i with
          | zero => intro _; rfl
          | succ i ih => intro hi; rw [exec_len (e5 i (by omega)), ih (by omega)]
        refine wpAny_of_order (A := F) (S := S) (x := fun i B τ => execA pur call (as.getD i default) B τ) (rd := fun i => (as.getD i default).rd) (wr := fun i => (as.getD i default).wr)
          (W := fun i => isW (as.getD i default).k) (H := fun i => isH (as.getD i default).k) (Pu := fun i => isP (as.getD i default).k) (E := Esto) (Sim := fun a1 w B τ => Sim cx a1 w B τ ∧ ∀ t, Sl t → at' a1 t = at' a t)
          (fun _ => rfl) (fun _ _ h => h.symm) (fun _ _ _ h k => h.trans k)
          (fun i hi hH => exec_store (fun _ => rfl) (e5 i hi) (fun vs rs h => sem_soft hH h)) hlenF (fun i hi t ht => exec_frame (e5 i hi) t ht)
          (fun i hi hW => exec_store (T := fun s t => s = t) (fun _ => rfl) (e5 i hi) (fun vs rs h => sem_same hW h))
          (fun i hi h => isW_isP h) (fun i hi h => isH_isW h) ?_ ?_ ?_ ?_ ?_ ops.size (Array.replicate ops.size false) (List.range ops.size) (F 0) (S 0) a _ (by simp) (by simp) (fun j hj _ => List.mem_range.2 hj) ?_ ?_
        · intro i hi B τ hBl hrd hW hE
          exact exec_local (by rw [hBl, hlenF i (by omega)]) hrd hW hE (e5 i hi)
        · intro i j hij hj
          rcases pairs_spec _ hpairs i j hij hj with h | h
          · exact .inl (aheads_spec ops.toList [] [] rfl rfl (fun i j h => by simp at h) i j hj h)
          · exact .inr (apart_unordered h)
        · intro i o ho e he hb
          have hi : i < ops.size := (Array.getElem?_eq_some_iff.1 ho).1
          exact acyclic_spec ops.size hacy i o hi ho e he hb
        · intro i hi a1 w B τ B' τ' K hs' hx' hK
          have ho : ops[i]? = some ops[i] := Array.getElem?_eq_getElem hi
          have ha : as[i]? = some (as.getD i default) := by
            rw [List.getD_eq_getElem?_getD, List.getElem?_eq_getElem (by omega)]; rfl
          exact exec_sound hS hx ho (hok i _ _ ho ha) hs'.1 hx' fun a' w' h1 h2 => hK a' w' ⟨h1, fun t ht => (h2 t (hsp t ht i _ ho)).trans (hs'.2 t ht)⟩
        · intro a' w' hs'
          rw [e3, e4] at hs'
          exact hq a' w' hs'.1 hs'.2
        · have hL : ∀ j, (Array.replicate ops.size false).getD j false = false := by
            intro j
            by_cases hj : j < ops.size <;> simp [Array.getD, hj]
          refine ⟨?_, rfl, fun t => ⟨0, by omega, rfl, fun j hj _ => ?_⟩, 0, by omega, rfl, fun j hj _ => ?_⟩
          · intro j o ho hLj
            exfalso
            have : (Array.replicate ops.size false).getD j false = true := hLj
            rw [hL] at this; cases this
          · show (Array.replicate ops.size false).getD j false = true ↔ _
            rw [hL]; simp
          · show (Array.replicate ops.size false).getD j false = true ↔ _
            rw [hL]; simp
        · rw [e1, e2]
          obtain ⟨G, hi⟩ := hs
          exact ⟨⟨G, hi.drew⟩, fun _ _ => rfl⟩
      · cases hc
  · cases hc
end
end Go.Abs
