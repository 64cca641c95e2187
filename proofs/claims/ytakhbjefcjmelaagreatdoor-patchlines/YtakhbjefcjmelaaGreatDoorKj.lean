/- A part of the proof: A31 A32 A33. -/
import Derived.Test.YtakhbjefcjmelaaGreatDoorKi

set_option linter.unusedVariables false
set_option linter.unusedSimpArgs false
namespace Go.Abs
open Go.RowKit
def AExit.ex : AExit → Exit
  | .normal => .normal
  | .exit id => .exit id
  | .ret => .ret
section
variable {P : Program} {pur : FuncId → Bool} {call : Caller} {fi : FI} {cx : Cx} {G : Gh} {a : Act} {w : World} {A A' B : Frm} {σ σ' τ : Sto}
theorem mask_len {keep : List Bool} (h : keep.length = A.length) : (mask keep A).length = A.length := by
  unfold mask; rw [List.length_zipWith]; omega
theorem mask_get {keep : List Bool} {t : Nat} {v : PV} (h : (mask keep A).get t = some v) : A.get t = some v := by
  unfold mask Frm.get at h
  rw [List.getElem?_zipWith] at h
  unfold Frm.get
  cases hk : keep[t]? with
  | none => rw [hk] at h; simp at h
  | some b =>
    rw [hk] at h
    cases ha : A[t]? with
    | none => rw [ha] at h; simp at h
    | some x =>
      rw [ha] at h
      dsimp only at h ⊢
      split at h
      · exact h
      · cases h
theorem sim_mask {keep : List Bool} (hl : keep.length = A.length) (hs : Sim cx a w A σ) : Sim cx a w (mask keep A) σ := by
  obtain ⟨G, hi⟩ := hs
  exact ⟨G, hi.forget (mask_len hl) (fun t v h => mask_get h)⟩
theorem iter_len {keep : List Bool} {body : Frm → Sto → Option (AExit × Frm × Sto)} (hb : ∀ A σ e A' σ', body A σ = some (e, A', σ') → A'.length = A.length) :
    ∀ (n : Nat) (A : Frm) (σ : Sto) (e : AExit) (A' : Frm) (σ' : Sto), keep.length = A.length → iter keep body n A σ = some (e, A', σ') → A'.length = A.length
  | 0, A, σ, e, A', σ', _, h => by cases h
  | n + 1, A, σ, e, A', σ', hl, h => by
    simp only [iter] at h
    split at h
    · rename_i A1 σ1 h1
      have := hb _ _ _ _ _ h1
      rw [iter_len hb n _ _ _ _ _ (by rw [mask_len (by omega)]; omega) h, mask_len (by omega), this]
    · exact hb _ _ _ _ _ h
theorem arun_len {m : Nat} : ∀ (ac : ACode) (A : Frm) (σ : Sto) (e : AExit) (A' : Frm) (σ' : Sto), arun pur call m ac A σ = some (e, A', σ') → A'.length = A.length := by
  intro ac
  induction ac with
  | skip => intro A σ e A' σ' h; simp only [arun] at h; cases h; rfl
  | region ops =>
    intro A σ e A' σ' h
    simp only [arun] at h
    obtain ⟨⟨A1, σ1⟩, h1, e1⟩ := Option.map_eq_some_iff.1 h
    cases e1
    exact execOps_len _ h1
  | seq x y ihx ihy =>
    intro A σ e A' σ' h
    simp only [arun] at h
    split at h
    · rename_i A1 σ1 h1
      rw [ihy _ _ _ _ _ h, ihx _ _ _ _ _ h1]
    · exact ihx _ _ _ _ _ h
  | cond c t e iht ihe =>
    intro A σ e A' σ' h
    simp only [arun] at h
    split at h
    · exact iht _ _ _ _ _ h
    · exact ihe _ _ _ _ _ h
    · cases h
  | block id c ih =>
    intro A σ e A' σ' h
    simp only [arun] at h
    split at h
    · rename_i i A1 σ1 h1
      split at h <;> (cases h; exact ih _ _ _ _ _ h1)
    · exact ih _ _ _ _ _ h
  | loop keep c ih =>
    intro A σ e A' σ' h
    simp only [arun] at h
    split at h
    · rename_i hl
      rw [iter_len (fun A σ e A' σ' h => ih A σ e A' σ' h) _ _ _ _ _ _ (by rw [mask_len hl]; exact hl) h, mask_len hl]
    · cases h
  | exit id => intro A σ e A' σ' h; simp only [arun] at h; cases h; rfl
  | ret => intro A σ e A' σ' h; simp only [arun] at h; cases h; rfl
theorem least {T : Nat → Prop} (h : ∃ k, T k) : ∃ k, T k ∧ ∀ j, T j → k ≤ j := by
  obtain ⟨k, hk⟩ := h
  induction k using Nat.strongRecOn with
  | _ k ih =>
    by_cases h : ∃ j, j < k ∧ T j
    · obtain ⟨j, h1, h2⟩ := h
      exact ih j h1 h2
    · exact ⟨k, hk, fun j hj => Nat.le_of_not_lt fun hlt => h ⟨j, hlt, hj⟩⟩
def spares (t : Nat) : Code → Bool
  | .region _ ops _ => ops.toList.all fun o => o.dst != some t
  | .seq x y => spares t x && spares t y
  | .cond _ x y => spares t x && spares t y
  | .block _ c => spares t c
  | .loop c => spares t c
  | _ => true
theorem code_sound {ro : Option Nat} {n : Nat} (hS : Sound P call) (hx : CxOk cx fi) (hmo : P.follows .mixedOrders = true) : ∀ (c : Code) (ac : ACode), comp P pur fi c = some ac →
    ∀ (m : Nat) (A : Frm) (σ : Sto) (e : AExit) (A' : Frm) (σ' : Sto), arun pur call m ac A σ = some (e, A', σ') → ∀ (a : Act) (w : World), Sim cx a w A σ →
    ∀ (Q : Exit → Act → World → Prop), (∀ a' w', Sim cx a' w' A' σ' → (∀ t, spares t c = true → at' a' t = at' a t) → Q e.ex a' w') → c.wpIn (FW ro) n P Q a w := by
  intro c
  induction c with
  | skip =>
    intro ac hc m A σ e A' σ' h a w hs Q hq
    simp only [comp] at hc; cases hc
    simp only [arun] at h; cases h
    exact wpIn_skip (hq a w hs fun _ _ => rfl)
  | region id ops draw =>
    intro ac hc m A σ e A' σ' h a w hs Q hq
    simp only [comp] at hc
    obtain ⟨as, has, rfl⟩ := Option.map_eq_some_iff.1 hc
    simp only [arun] at h
    obtain ⟨⟨A1, σ1⟩, h1, e1⟩ := Option.map_eq_some_iff.1 h
    cases e1
    exact region_sound hS hx hmo has h1 hs (Sl := fun t => spares t (.region id ops draw) = true) (fun t ht i o ho => by
      simp only [spares] at ht
      have := List.all_eq_true.1 ht o (List.mem_of_getElem? (by rw [Array.getElem?_toList]; exact ho))
      simpa using this) hq
  | seq x y ihx ihy =>
    intro ac hc m A σ e A' σ' h a w hs Q hq
    simp only [comp] at hc
    split at hc
    · rename_i ax ay hax hay
      cases hc
      simp only [arun] at h
      refine wpIn_seq ?_
      split at h
      · rename_i A1 σ1 h1
        exact ihx ax hax m A σ _ A1 σ1 h1 a w hs _ (fun a' w' hs' hf => ihy ay hay m A1 σ1 e A' σ' h a' w' hs' Q fun a2 w2 hs2 hf2 => hq a2 w2 hs2 fun t ht => by
          simp only [spares, Bool.and_eq_true] at ht
          exact (hf2 t ht.2).trans (hf t ht.1))
      · rename_i hn
        refine ihx ax hax m A σ e A' σ' h a w hs _ (fun a' w' hs' hf => ?_)
        have hf' : ∀ t, spares t (.seq x y) = true → at' a' t = at' a t := fun t ht => by
          simp only [spares, Bool.and_eq_true] at ht
          exact hf t ht.1
        cases e with
        | normal => exact absurd h (hn A' σ')
        | exit id => exact hq a' w' hs' hf'
        | ret => exact hq a' w' hs' hf'
    · cases hc
  | cond c x y ihx ihy =>
    intro ac hc m A σ e A' σ' h a w hs Q hq
    simp only [comp] at hc
    split at hc
    · rename_i ac' ax ay hac hax hay
      cases hc
      simp only [arun] at h
      have hs0 := hs
      obtain ⟨G, hi⟩ := hs
      split at h
      · rename_i hev
        have := (arg_rep hi hx.kd hac hev rfl).bool_inv
        exact wpIn_cond_true this (ihx ax hax m A σ e A' σ' h a w hs0 Q fun a' w' hs' hf => hq a' w' hs' fun t ht => hf t (by simp only [spares, Bool.and_eq_true] at ht; exact ht.1))
      · rename_i hev
        have := (arg_rep hi hx.kd hac hev rfl).bool_inv
        exact wpIn_cond_false this (ihy ay hay m A σ e A' σ' h a w hs0 Q fun a' w' hs' hf => hq a' w' hs' fun t ht => hf t (by simp only [spares, Bool.and_eq_true] at ht; exact ht.2))
      · cases h
    · cases hc
  | block id c ih =>
    intro ac hc m A σ e A' σ' h a w hs Q hq
    simp only [comp] at hc
    obtain ⟨ac', hac, rfl⟩ := Option.map_eq_some_iff.1 hc
    simp only [arun] at h
    refine wpIn_block ?_
    split at h
    · rename_i i A1 σ1 h1
      refine ih ac' hac m A σ _ A1 σ1 h1 a w hs _ (fun a' w' hs' hf => ?_)
      show (if i = id then Q .normal a' w' else Q (.exit i) a' w')
      split at h
      · rename_i e1
        cases h
        rw [if_pos e1]; exact hq a' w' hs' hf
      · rename_i e1
        cases h
        rw [if_neg e1]; exact hq a' w' hs' hf
    · rename_i hn
      refine ih ac' hac m A σ e A' σ' h a w hs _ (fun a' w' hs' hf => ?_)
      cases e with
      | normal => exact hq a' w' hs' hf
      | exit id => exact absurd h (hn id A' σ')
      | ret => exact hq a' w' hs' hf
  | loop c ih =>
    intro ac hc m A σ e A' σ' h a w hs Q hq
    simp only [comp] at hc
    obtain ⟨ac', hac, rfl⟩ := Option.map_eq_some_iff.1 hc
    simp only [arun] at h
    split at h
    · rename_i hl
      let keep := fi.keep
      let body := arun pur call m ac'
      let T : Act → World → Nat → Prop := fun a w k => ∃ A σ, keep.length = A.length ∧ Sim cx a w A σ ∧ iter keep body k A σ = some (e, A', σ')
      classical
      let μ : Act → World → Nat := fun a w => if hex : ∃ k, T a w k then (least hex).choose else 0
      refine wpIn_loop (fun a1 w => (∃ k, T a1 w k) ∧ ∀ t, spares t (.loop c) = true → at' a1 t = at' a t) μ ⟨⟨m, mask keep A, σ, by rw [mask_len hl]; exact hl, sim_mask hl hs, h⟩, fun _ _ => rfl⟩ ?_
      rintro a1 w ⟨hI, hF⟩
      have hμ : μ a1 w = (least hI).choose := dif_pos hI
      obtain ⟨A1, σ1, hl1, hs1, hit⟩ := (least hI).choose_spec.1
      rw [← hμ] at hit
      cases hk : μ a1 w with
      | zero => rw [hk] at hit; simp [iter] at hit
      | succ k =>
        rw [hk] at hit
        simp only [iter] at hit
        split at hit
        · rename_i A2 σ2 h2
          refine ih ac' hac m A1 σ1 _ A2 σ2 h2 a1 w hs1 _ (fun a' w' hs' hf => ?_)
          have hl2 : keep.length = A2.length := by rw [arun_len _ _ _ _ _ _ h2]; exact hl1
          have hT : T a' w' k := ⟨mask keep A2, σ2, by rw [mask_len hl2]; exact hl2, sim_mask hl2 hs', hit⟩
          refine ⟨⟨⟨k, hT⟩, fun t ht => (hf t ht).trans (hF t ht)⟩, ?_⟩
          have hI' : ∃ k, T a' w' k := ⟨k, hT⟩
          have hμ' : μ a' w' = (least hI').choose := dif_pos hI'
          have : (least hI').choose ≤ k := (least hI').choose_spec.2 k hT
          omega
        · rename_i hn
          refine ih ac' hac m A1 σ1 e A' σ' hit a1 w hs1 _ (fun a' w' hs' hf => ?_)
          have hf' : ∀ t, spares t (.loop c) = true → at' a' t = at' a t := fun t ht => (hf t ht).trans (hF t ht)
          cases e with
          | normal => exact absurd hit (hn A' σ')
          | exit id => exact hq a' w' hs' hf'
          | ret => exact hq a' w' hs' hf'
    · cases h
  | exit id =>
    intro ac hc m A σ e A' σ' h a w hs Q hq
    simp only [comp] at hc; cases hc
    simp only [arun] at h; cases h
    exact wpIn_exit (hq a w hs fun _ _ => rfl)
  | ret =>
    intro ac hc m A σ e A' σ' h a w hs Q hq
    simp only [comp] at hc; cases hc
    simp only [arun] at h; cases h
    exact wpIn_ret (hq a w hs fun _ _ => rfl)
  | _ => intro ac hc; simp [comp] at hc
end
end Go.Abs

namespace Go.Abs
open Go.RowKit
section
variable {P : Program} {pur : FuncId → Bool} {call : Caller} {fi : FI} {cx : Cx} {G : Gh} {a : Act} {w : World} {A A' B : Frm} {σ σ' τ : Sto}
theorem isVal_val {k : SK} (h : k.isVal = true) : k.val = true := by cases k <;> first | rfl | simp [SK.isVal] at h
theorem kind_lt {t : Nat} (h : fi.kind t ≠ .plain) : t < fi.kd.length := by
  rcases Nat.lt_or_ge t fi.kd.length with h' | h'
  · exact h'
  · exfalso; apply h
    unfold FI.kind
    rw [List.getD_eq_getElem?_getD, List.getElem?_eq_none h']; rfl
theorem okB_ents (h : fi.okB = true) : ∀ t m, (∃ key, fi.kind t = .ent m key) → ∃ keys, fi.kind m = .mapb keys := by
  rintro t m ⟨key, hk⟩
  have := List.all_eq_true.1 h t (List.mem_range.2 (kind_lt (by rw [hk]; simp)))
  rw [hk] at this
  simp only [Bool.and_eq_true] at this
  have h1 := this.1
  split at h1
  · rename_i keys hm; exact ⟨keys, hm⟩
  · cases h1
theorem okB_uniq (h : fi.okB = true) : ∀ t t' m key, fi.kind t = .ent m key → fi.kind t' = .ent m key → t = t' := by
  intro t t' m key hk hk'
  have := List.all_eq_true.1 h t (List.mem_range.2 (kind_lt (by rw [hk]; simp)))
  rw [hk] at this
  simp only [Bool.and_eq_true] at this
  have h2 := List.all_eq_true.1 this.2 t' (List.mem_range.2 (kind_lt (by rw [hk']; simp)))
  rw [hk'] at h2
  simp at h2
  exact h2.symm
def mkCx (fi : FI) (hok : fi.okB = true) (K : Nat → Prop) (G : Gh) (w : World) : Cx :=
  { K, I0 := G.I, w0 := w, bl0 := G.bl, kd := fi.kind, nt := fi.nt, al := fi.alias, ents := okB_ents hok, uniq := okB_uniq hok }
theorem cxOk (hok : fi.okB = true) (K : Nat → Prop) (G : Gh) (w : World) : CxOk (mkCx fi hok K G w) fi := ⟨fun _ => rfl, rfl, fun _ => rfl⟩
theorem get_init {args : List PV} {k t : Nat} {p : PV} (h : Frm.get (args.map some ++ List.replicate k none) t = some p) : args[t]? = some p := by
  unfold Frm.get at h
  by_cases hlt : t < args.length
  · rw [List.getElem?_append_left (by simpa using hlt), List.getElem?_map] at h
    cases ha : args[t]? with
    | none => rw [ha] at h; cases h
    | some q => rw [ha] at h; exact h
  · rw [List.getElem?_append_right (by simp; omega)] at h
    split at h
    · rename_i v hv
      have := List.mem_of_getElem? hv
      rw [List.mem_replicate] at this
      rw [this.2] at h; cases h
    · cases h
theorem own_none_of {tag : Tag} {v : Value} {p : PV} (h : p.disown = p) : OwnOk G w tag v p := by
  rw [← h]; exact OwnOk_disown p
theorem inv_init (hok : fi.okB = true) {K : Nat → Prop} (hpre : Pre K G w σ) {vs : Array Value} {args : List PV} (hargs : ArgsOk G.I G.bl w vs.toList args) (hown : ∀ p ∈ args, p.disown = p) (hle : args.length ≤ fi.nt)
    (hval : ∀ t, t < args.length → (fi.kind t).val = true) (extra : Nat) :
    Inv (mkCx fi hok K G w) G { tmps := vs ++ Array.replicate (fi.nt - vs.size) undef, defers := [] } w (args.map some ++ List.replicate (fi.nt + extra - args.length) none) σ := by
  have hvs : vs.size = args.length := by simpa using hargs.1
  refine ⟨rfl, ?_, ?_, ?_, ?_, hpre.obj, hpre.len, hpre.abl⟩
  · show (vs ++ Array.replicate (fi.nt - vs.size) undef).size = fi.nt
    simp; omega
  · show fi.nt ≤ _
    simp; omega
  · refine ⟨fun _ _ => rfl, Same.refl _ _, fun _ _ h => h, fun _ _ h => .inl h, hpre.lt, hpre.own, hpre.Klt, Nat.le_refl _, Bl.le_refl _, rfl, rfl, rfl⟩
  · intro t p hp
    have ha := get_init hp
    have hlt := (List.getElem?_eq_some_iff.1 ha).1
    obtain ⟨v, hv, hr⟩ := hargs.2 t p ha
    have hat : at' { tmps := vs ++ Array.replicate (fi.nt - vs.size) undef, defers := [] } t = v := by
      have hlt' : t < vs.size := by omega
      rw [Array.getElem?_toList] at hv
      simp only [at', Array.getD_eq_getD_getElem?]
      rw [Array.getElem?_append_left hlt', hv]; rfl
    rw [SlotOk_val (hval t hlt) hr.free, hat]
    exact ⟨hr, own_none_of (hown p (List.mem_of_getElem? ha))⟩
def resF (tmps : Array Value) : ResultVar → Sem Value
  | .tmp t => pure (tmps.getD t undef)
  | .cell b t => do loadVar t (← asAddr (tmps.getD b undef))
theorem results_eq (fn : Func) (tmps : Array Value) : results fn tmps = (do let vs ← fn.results.mapM (resF tmps); pure (if h : vs.size = 1 then vs[0] else .tuple vs)) := rfl
theorem results_run (hi : Inv cx G a w A σ) (hx : CxOk cx fi) : ∀ (rl : List ResultVar) (rs : List (Nat × Option Nat)) (ps : List PV), resSlots P fi rl = some rs → resultsOf A rs = some ps →
    ∃ vl : List Value, (rl.mapM (resF a.tmps)).run P w = .ok vl w ∧ ArgsOk G.I G.bl w vl ps
  | [], rs, ps, hr, hp => by
    cases hr; cases hp
    exact ⟨[], rfl, rfl, fun i p h => by simp at h⟩
  | .tmp t :: rl, rs, ps, hr, hp => by
    simp only [resSlots] at hr
    split at hr
    · rename_i hpl
      obtain ⟨rs', hrs, rfl⟩ := Option.map_eq_some_iff.1 hr
      simp only [resultsOf] at hp
      split at hp
      · rename_i v vs hg hvs
        split at hp
        · rename_i hf
          cases hp
          obtain ⟨vl, h1, h2⟩ := results_run hi hx rl rs' vs hrs hvs
          have hsl := plain1 hx.kd hx.nt hpl
          have hrep := ((SlotOk_val hsl.2 hf).1 (hi.slot t v hg)).1
          refine ⟨at' a t :: vl, ?_, by simp [h2.1], fun i p hp => ?_⟩
          · rw [List.mapM_cons]
            simp only [resF, Sem.run_bind, Sem.run_pure, Result.andThen_ok, h1]
            rfl
          · cases i with
            | zero => simp at hp; subst hp; exact ⟨_, rfl, hrep.disown⟩
            | succ i => simpa using h2.2 i p (by simpa using hp)
        · simp [resAgg] at hp
      · cases hp
    · cases hr
  | .cell t ty :: rl, rs, ps, hr, hp => by
    simp only [resSlots] at hr
    split at hr
    · rename_i n hcell
      split at hr
      · rename_i hpl
        obtain ⟨rs', hrs, rfl⟩ := Option.map_eq_some_iff.1 hr
        simp only [resultsOf] at hp
        split at hp
        · rename_i v vs hg hvs
          split at hp
          · rename_i hf
            cases hp
            obtain ⟨vl, h1, h2⟩ := results_run hi hx rl rs' vs hrs hvs
            have hk : cx.kd t = .box := by rw [hx.kd]; exact hpl.2
            obtain ⟨b, hb, hcells⟩ := (SlotOk_box hk).1 (hi.slot t v hg)
            have hsub : sub v 0 n true = some v := by
              cases v with
              | agg cs =>
                simp only [resOk, fits, Bool.true_and, Bool.and_eq_true, beq_iff_eq, PV.cells] at hf
                obtain ⟨rfl, hf2⟩ := hf
                have e : (cs.drop 0).take cs.length = cs := by simp
                simp only [sub]
                rw [e, if_pos ⟨by omega, hf2⟩]
              | _ => simp [resOk, fits] at hf
            obtain ⟨u, hu1, hu2⟩ := run_boxload (P := P) hcell hcells hsub
            have hld : (loadVar ty ⟨b, 0, none⟩).run P w = .ok u w := by
              simpa [Instr.loadAt, Instr.sureAddr] using hu1
            have hat : a.tmps.getD t undef = .pointer (some ⟨b, 0, none⟩) := hb
            refine ⟨u :: vl, ?_, by simp [h2.1], fun i p hp => ?_⟩
            · rw [List.mapM_cons]
              have hres : (resF a.tmps (.cell t ty)).run P w = .ok u w := by
                simp only [resF, Sem.run_bind, hat, asAddr, Sem.run_pure, Result.andThen_ok, hld]
              simp only [Sem.run_bind, hres, Sem.run_pure, Result.andThen_ok, h1]
            · cases i with
              | zero => simp at hp; subst hp; exact ⟨_, rfl, hu2.disown⟩
              | succ i => simpa using h2.2 i p (by simpa using hp)
          · rename_i hnf
            obtain ⟨r, hres, e⟩ := Option.map_eq_some_iff.1 hp
            cases e
            obtain ⟨vl, h1, h2⟩ := results_run hi hx rl rs' vs hrs hvs
            have hk : cx.kd t = .box := by rw [hx.kd]; exact hpl.2
            obtain ⟨b, hb, hcells⟩ := (SlotOk_box hk).1 (hi.slot t v hg)
            simp only [resAgg] at hres
            split at hres
            case isFalse => cases hres
            rename_i hcc
            cases hres
            cases v with
            | agg cs =>
              simp only [fits, Bool.true_and, Bool.and_eq_true, beq_iff_eq, PV.cells] at hcc
              obtain ⟨rfl, hall⟩ := hcc
              have hsub : subB (.agg cs) 0 cs.length true = some (.aggr cs) := by
                have e : (cs.drop 0).take cs.length = cs := by simp
                have hno : sub (.agg cs) 0 cs.length true = none := by
                  simp only [sub]
                  rw [e, if_neg]
                  rintro ⟨_, hf⟩
                  refine hnf ?_
                  simp only [resOk, fits, PV.cells, Bool.true_and, beq_self_eq_true]
                  exact hf
                unfold subB
                rw [hno]
                simp only
                rw [e, if_pos ⟨by omega, by simpa using hall⟩]
              obtain ⟨u, hu1, hu2⟩ := run_boxloadB (P := P) hcell hcells hsub
              have hld : (loadVar ty ⟨b, 0, none⟩).run P w = .ok u w := by
                simpa [Instr.loadAt, Instr.sureAddr] using hu1
              have hat : a.tmps.getD t undef = .pointer (some ⟨b, 0, none⟩) := hb
              refine ⟨u :: vl, ?_, by simp [h2.1], fun i p hp => ?_⟩
              · rw [List.mapM_cons]
                have hres : (resF a.tmps (.cell t ty)).run P w = .ok u w := by
                  simp only [resF, Sem.run_bind, hat, asAddr, Sem.run_pure, Result.andThen_ok, hld]
                simp only [Sem.run_bind, hres, Sem.run_pure, Result.andThen_ok, h1]
              · cases i with
                | zero => simp at hp; subst hp; exact ⟨_, rfl, hu2.disown⟩
                | succ i => simpa using h2.2 i p (by simpa using hp)
            | _ => simp [fits] at hcc
        · cases hp
      · cases hr
    · cases hr
theorem results_ok (hi : Inv cx G a w A σ) (hx : CxOk cx fi) {fn : Func} {rs : List (Nat × Option Nat)} {ps : List PV} {r : PV} (hr : resSlots P fi fn.results.toList = some rs) (hp : resultsOf A rs = some ps) (hpk : packR ps = some r) :
    ∃ v, (results fn a.tmps).run P w = .ok v w ∧ RepT G.I G.bl w v r := by
  obtain ⟨vl, h1, h2⟩ := results_run (P := P) hi hx _ _ _ hr hp
  have hrun : (results fn a.tmps).run P w = .ok (if h : vl.toArray.size = 1 then vl.toArray[0] else .tuple vl.toArray) w := by
    rw [results_eq, Array.mapM_eq_mapM_toList]
    simp only [Sem.run_bind, Sem.run_map, h1, Result.andThen_ok, Sem.run_pure]
  rw [hrun]
  match ps, hpk, h2 with
  | [p], hpk, h2 =>
    cases hpk
    obtain ⟨v, hv, hrep⟩ := h2.2 0 _ rfl
    have hl := h2.1
    match vl, hl, hv with
    | [u], _, hv =>
      cases hv
      exact ⟨v, rfl, hrep⟩
  | [], hpk, h2 =>
    have hl := h2.1
    have : vl = [] := List.length_eq_zero_iff.1 (by simpa using hl)
    subst this
    simp only [packR] at hpk
    cases hpk
    exact ⟨_, rfl, .tuple rfl fun i p h => by simp at h⟩
  | p :: q :: ps', hpk, h2 =>
    simp only [packR] at hpk
    split at hpk
    · rename_i hall
      cases hpk
      have hl := h2.1
      have hne : ¬ vl.toArray.size = 1 := by simp at hl ⊢; omega
      refine ⟨.tuple vl.toArray, by rw [dif_neg hne], .tuple (by simpa using hl) fun i x hx => ?_⟩
      obtain ⟨v, hv, hrep⟩ := h2.2 i x hx
      have : vl.toArray.getD i undef = v := by
        rw [Array.getD_eq_getD_getElem?, List.getElem?_toArray, hv]; rfl
      rw [this]
      exact hrep.rep1 (List.all_eq_true.1 hall x (List.mem_of_getElem? hx))
    · cases hpk
theorem fn_sound {f : FuncId} {fn : Func} {af : AFunc} {n : Nat} {args : List PV} {r : PV} (hmo : P.follows .mixedOrders = true) (hfn : P.funcs[f]? = some fn) (hname : (fn.name == "runtime.NumGoroutine") = false)
    (hcf : compFunc P pur fi fn = some af) (hS : Sound P call) (hown : ∀ p ∈ args, p.disown = p) (h : runFn pur call n af args σ = some (r, σ')) : CallOk P f args σ r σ' := by
  unfold compFunc at hcf
  split at hcf
  · rename_i c hbody
    split at hcf
    · rename_i ac rs hac hrs
      split at hcf
      · cases hcf
      · rename_i hcc
        cases hcf
        simp only [not_or, ne_eq, Classical.not_not, Bool.not_eq_false] at hcc
        obtain ⟨hnt, hok, hvals⟩ := hcc
        refine ⟨⟨fn, hfn, hname, by rw [hbody]; rfl⟩, fun m vs w G K hargs hpre => ?_⟩
        unfold runFn at h
        split at h
        · rename_i hlen
          obtain ⟨hl1, hl2⟩ := hlen
          dsimp only at hl1 hl2 h
          have hval : ∀ t, t < args.length → (fi.kind t).val = true := fun t ht => isVal_val (List.all_eq_true.1 hvals t (List.mem_range.2 (by omega)))
          have hinit := inv_init hok hpre hargs hown (by omega) hval fi.ps.length
          have hvs : vs.size = args.length := by simpa using hargs.1
          have hcx := cxOk hok K G w
          have hpost : ∀ e A1 σ1, (e = AExit.normal ∨ e = AExit.ret) → arun pur call n ac (args.map some ++ List.replicate (fn.ntmps + fi.ps.length - args.length) none) σ = some (e, A1, σ1) →
              ((resultsOf A1 rs).bind fun vs => (packR vs).map fun r => (r, σ1)) = some (r, σ') →
              CallsIn (FW none) m P f vs w fun e w' => ∃ v G', e = .returned v ∧ RepT G'.I G'.bl w' v r ∧ Aft K G w σ' G' w' := by
            intro e A1 σ1 he hrun hres
            obtain ⟨ps, hps, hres⟩ := Option.bind_eq_some_iff.1 hres
            obtain ⟨r', hr', e1⟩ := Option.map_eq_some_iff.1 hres
            cases e1
            refine callsIn_of_wp hfn hbody trivial ?_
            rw [← hnt] at hrun ⊢
            refine code_sound hS hcx hmo c ac hac n _ σ e A1 σ' hrun _ w ⟨G, hinit⟩ _ (fun a' w' hs' _ => ?_)
            obtain ⟨G', hi'⟩ := hs'
            obtain ⟨v, hv, hrep⟩ := results_ok (P := P) hi' hcx hrs hps hr'
            have hb := hi'.base
            have haft : Aft K G w σ' G' w' := ⟨hb.keep, hb.same, hb.sub, hb.new, hb.lt, hb.own, hb.grow, hb.bl, hb.os, hb.tape, hb.output, hi'.obj, hi'.len, hi'.abl⟩
            rcases he with rfl | rfl
            · exact ⟨hi'.defers, v, hv, v, G', rfl, hrep, haft⟩
            · exact ⟨hi'.defers, v, hv, v, G', rfl, hrep, haft⟩
          split at h
          · rename_i A1 σ1 hrun
            exact hpost _ A1 σ1 (.inl rfl) hrun h
          · rename_i A1 σ1 hrun
            exact hpost _ A1 σ1 (.inr rfl) hrun h
          · cases h
        · cases h
    · cases hcf
  · cases hcf
end
end Go.Abs

namespace Go.Abs
open Go.RowKit
abbrev FF := List (Nat × Option PV)
noncomputable section
abbrev RFS := Option (FF × Sto)
abbrev RX := Option (AExit × FF × Sto)
def getK (ff : FF) (t : Nat) : Option PV := List.rec (motive := fun _ => Option PV) none (fun p _ ih => cond (Nat.beq p.1 t) p.2 ih) ff
def evalK (ff : FF) (as : List AArg) : Option (List PV) :=
  List.rec (motive := fun _ => Option (List PV)) (some []) (fun a _ ih => AArg.rec (motive := fun _ => Option (List PV))
    (fun t => Option.rec (motive := fun _ => Option (List PV)) none (fun v => Option.rec (motive := fun _ => Option (List PV)) none (fun vs => some (v :: vs)) ih) (getK ff t))
    (fun v => Option.rec (motive := fun _ => Option (List PV)) none (fun vs => some (v :: vs)) ih) a) as
def putK (ts : List Nat) : List (Option PV) → FF → FF :=
  List.rec (motive := fun _ => List (Option PV) → FF → FF) (fun _ ff => ff) (fun t _ ih vs ff => List.rec (motive := fun _ => FF) ff (fun v vs _ => ih vs ((t, v) :: ff)) vs) ts
def wantedK (v : Option PV) (b : Bool) : Option Bool :=
  match v with
    | some (.bool c) => some (c == b)
    | some (.tuple []) => some false
    | _ => none
def runK' (pur : FuncId → Bool) (call : Caller) (o : AOp) (ff : FF) (σ : Sto) : RFS :=
  Option.rec (motive := fun _ => RFS) none (fun vs =>
    Option.rec (motive := fun _ => RFS) none (fun r => 
      cond (Nat.beq r.1.length (o.dst.toList.length + o.ex.length)) (some (putK o.wr (r.1 ++ o.clr.map fun _ => none) ff, r.2))
        (cond (o.dst.isNone && o.ex.isEmpty && o.clr.isEmpty) (some (ff, r.2)) none)) (sem pur call o.k vs σ)) (evalK ff o.args)
def execK (pur : FuncId → Bool) (call : Caller) (o : AOp) (ff : FF) (σ : Sto) : RFS :=
  Option.rec (motive := fun _ => RFS) (runK' pur call o ff σ) (fun g => 
    Option.rec (motive := fun _ => RFS) none (fun b => cond b (runK' pur call o ff σ) (cond (o.ex.isEmpty && o.clr.isEmpty) (some (putK o.wr [some undefP] ff, σ)) none)) (wantedK (getK ff g.1) g.2)) o.guard
def opsK (pur : FuncId → Bool) (call : Caller) (os : List AOp) : FF → Sto → RX :=
  List.rec (motive := fun _ => FF → Sto → RX) (fun ff σ => some (.normal, ff, σ)) (fun o _ ih ff σ =>
    Option.rec (motive := fun _ => RX) none (fun r => ih r.1 r.2) (execK pur call o ff σ)) os
def isNormal (e : AExit) : Bool := AExit.rec (motive := fun _ => Bool) true (fun _ => false) false e
def maskFrom (ff : FF) (keep : List Bool) : Nat → FF :=
  List.rec (motive := fun _ => Nat → FF) (fun _ => []) (fun b _ ih n => cond b ((n, getK ff n) :: ih (n + 1)) (ih (n + 1))) keep
def iterK (keep : List Bool) (body : FF → Sto → RX) (n : Nat) : FF → Sto → RX :=
  Nat.rec (motive := fun _ => FF → Sto → RX) (fun _ _ => none) (fun _ ih ff σ =>
    Option.rec (motive := fun _ => RX) none (fun r => cond (isNormal r.1) (ih (maskFrom r.2.1 keep 0) r.2.2) (some r)) (body ff σ)) n
def condK (v : Option (List PV)) (x y : RX) : RX := match v with
  | some [.bool b] => cond b x y
  | _ => none
def arunK (pur : FuncId → Bool) (call : Caller) (n : Nat) (c : ACode) : FF → Sto → RX :=
  ACode.rec (motive := fun _ => FF → Sto → RX)
    (fun ff σ => some (.normal, ff, σ))
    (fun ops => opsK pur call ops)
    (fun _ _ iha ihb ff σ => Option.rec (motive := fun _ => RX) none (fun r => cond (isNormal r.1) (ihb r.2.1 r.2.2) (some r)) (iha ff σ))
    (fun c _ _ iht ihe ff σ => condK (evalK ff [c]) (iht ff σ) (ihe ff σ))
    (fun id _ ih ff σ => Option.rec (motive := fun _ => RX) none (fun r => AExit.rec (motive := fun _ => RX) (some r) (fun i => cond (Nat.beq i id) (some (.normal, r.2)) (some r)) (some r) r.1) (ih ff σ))
    (fun keep _ ih ff σ => iterK keep ih n (maskFrom ff keep 0) σ)
    (fun id ff σ => some (.exit id, ff, σ))
    (fun ff σ => some (.ret, ff, σ)) c
def initK (args : List PV) : Nat → FF := List.rec (motive := fun _ => Nat → FF) (fun _ => []) (fun a _ ih n => (n, some a) :: ih (n + 1)) args
def resK (ff : FF) (rs : List (Nat × Option Nat)) : Option (List PV) :=
  List.rec (motive := fun _ => Option (List PV)) (some []) (fun r _ ih => match getK ff r.1, ih with
    | some v, some vs => if resOk v r.2 then some (v.disown :: vs) else (resAgg v r.2).map fun r => r :: vs
    | _, _ => none) rs
def runFnK (pur : FuncId → Bool) (call : Caller) (n : Nat) (fn : AFunc) (args : List PV) (σ : Sto) : Option (PV × Sto) :=
  cond (Nat.beq args.length fn.nargs && Nat.ble args.length fn.ntmps)
    (Option.rec (motive := fun _ => Option (PV × Sto)) none (fun r => AExit.rec (motive := fun _ => Option (PV × Sto)) ((resK r.2.1 fn.results).bind fun vs => (packR vs).map fun x => (x, r.2.2)) (fun _ => none)
      ((resK r.2.1 fn.results).bind fun vs => (packR vs).map fun x => (x, r.2.2)) r.1) (arunK pur call n fn.code (initK args 0) σ)) none
def okOp (N : Nat) (o : AOp) : Bool := o.wr.all fun t => Nat.blt t N
def okCode (N : Nat) : ACode → Bool
  | .region ops => ops.all (okOp N)
  | .seq a b => okCode N a && okCode N b
  | .cond _ t e => okCode N t && okCode N e
  | .block _ c => okCode N c
  | .loop keep c => Nat.beq keep.length N && okCode N c
  | _ => true
abbrev Prim := Caller → List PV → Sto → Option (PV × Sto)
def callK (pur : FuncId → Bool) (prim : FuncId → Option Prim) (tab : FuncId → Option AFunc) (n : Nat) : Caller :=
  Nat.rec (motive := fun _ => Caller) (fun _ _ _ => none) (fun n ih f args σ => Option.rec (motive := fun _ => Option (PV × Sto))
    (Option.rec (motive := fun _ => Option (PV × Sto)) none (fun fn => runFnK pur ih n fn args σ) (tab f)) (fun g => g ih args σ) (prim f)) n
end
structure Rel (N : Nat) (ff : FF) (A : Frm) : Prop where
  len : A.length = N
  get : ∀ t v, getK ff t = some v → A.get t = some v
section
variable {P : Program} {pur : FuncId → Bool} {call : Caller} {N : Nat} {ff ff' : FF} {A : Frm} {σ σ' : Sto}
theorem getK_cons (p : Nat × Option PV) (ff : FF) (t : Nat) : getK (p :: ff) t = cond (Nat.beq p.1 t) p.2 (getK ff t) := rfl
theorem evalK_sim (h : Rel N ff A) : ∀ (as : List AArg) (vs : List PV), evalK ff as = some vs → evalArgs A as = some vs
  | [], vs, he => by cases he; rfl
  | .slot t :: as, vs, he => by
    have he' : (Option.rec (motive := fun _ => Option (List PV)) none (fun v => Option.rec (motive := fun _ => Option (List PV)) none (fun vs => some (v :: vs)) (evalK ff as)) (getK ff t)) = some vs := he
    cases hg : getK ff t with
    | none => rw [hg] at he'; cases he'
    | some v =>
      rw [hg] at he'
      cases hr : evalK ff as with
      | none => rw [hr] at he'; cases he'
      | some ws =>
        rw [hr] at he'
        cases he'
        simp only [evalArgs, h.get t v hg, evalK_sim h as ws hr]
  | .val v :: as, vs, he => by
    have he' : (Option.rec (motive := fun _ => Option (List PV)) none (fun vs => some (v :: vs)) (evalK ff as)) = some vs := he
    cases hr : evalK ff as with
    | none => rw [hr] at he'; cases he'
    | some ws =>
      rw [hr] at he'
      cases he'
      simp only [evalArgs, evalK_sim h as ws hr, Option.map_some]
theorem putK_sim : ∀ (ts : List Nat) (vs : List (Option PV)) {ff : FF} {A : Frm}, Rel N ff A → (∀ t ∈ ts, t < N) → Rel N (putK ts vs ff) (putAll A ts vs)
  | [], vs, ff, A, h, _ => by cases vs <;> exact h
  | t :: ts, [], ff, A, h, _ => h
  | t :: ts, v :: vs, ff, A, h, ht => by
    refine putK_sim ts vs (ff := (t, v) :: ff) (A := A.set t v) ⟨by rw [List.length_set]; exact h.len, fun s x hx => ?_⟩ (fun s hs => ht s (List.mem_cons_of_mem _ hs))
    rw [getK_cons] at hx
    rw [get_set]
    cases hb : Nat.beq t s with
    | true =>
      rw [hb] at hx
      have : t = s := Nat.eq_of_beq_eq_true hb
      subst this
      rw [if_pos ⟨rfl, by rw [h.len]; exact ht t (List.mem_cons_self ..)⟩]
      exact hx
    | false =>
      rw [hb] at hx
      have : t ≠ s := Nat.ne_of_beq_eq_false hb
      rw [if_neg (fun e => this e.1.symm)]
      exact h.get s x hx
theorem okOp_spec {o : AOp} (h : okOp N o = true) : ∀ t ∈ o.wr, t < N := by
  intro t ht
  have := List.all_eq_true.1 h t ht
  exact Nat.le_of_ble_eq_true this
theorem runK_sim {o : AOp} (h : Rel N ff A) (ho : okOp N o = true) (he : runK' pur call o ff σ = some (ff', σ')) : ∃ A', runA pur call o A σ = some (A', σ') ∧ Rel N ff' A' := by
  unfold runK' at he
  cases hv : evalK ff o.args with
  | none => rw [hv] at he; cases he
  | some vs =>
    rw [hv] at he
    dsimp only at he
    cases hs : sem pur call o.k vs σ with
    | none => rw [hs] at he; cases he
    | some r =>
      obtain ⟨rs, σ1⟩ := r
      rw [hs] at he
      dsimp only at he
      unfold runA
      rw [evalK_sim h _ _ hv]
      dsimp only
      rw [hs]
      dsimp only
      cases hb : Nat.beq rs.length (o.dst.toList.length + o.ex.length) with
      | true =>
        rw [hb] at he
        cases he
        rw [if_pos (Nat.eq_of_beq_eq_true hb)]
        exact ⟨_, rfl, putK_sim _ _ h (okOp_spec ho)⟩
      | false =>
        rw [hb] at he
        rw [if_neg (Nat.ne_of_beq_eq_false hb)]
        cases hc : (o.dst.isNone && o.ex.isEmpty && o.clr.isEmpty) with
        | true =>
          rw [hc] at he
          cases he
          simp only [Bool.and_eq_true, List.isEmpty_iff] at hc
          rw [if_pos ⟨hc.1.1, hc.1.2, hc.2⟩]
          exact ⟨A, rfl, h⟩
        | false => rw [hc] at he; cases he
theorem execK_sim {o : AOp} (h : Rel N ff A) (ho : okOp N o = true) (he : execK pur call o ff σ = some (ff', σ')) : ∃ A', execA pur call o A σ = some (A', σ') ∧ Rel N ff' A' := by
  unfold execK at he
  unfold execA
  cases hg : o.guard with
  | none =>
    rw [hg] at he
    exact runK_sim h ho he
  | some g =>
    obtain ⟨t, b⟩ := g
    rw [hg] at he
    dsimp only at he
    have hw : ∀ x, wantedK (getK ff t) b = some x → wantedA A (some (t, b)) = some x := by
      intro x hx
      simp only [wantedA]
      cases hgt : getK ff t with
      | none => rw [hgt] at hx; simp [wantedK] at hx
      | some v =>
        rw [hgt] at hx
        rw [h.get t v hgt]
        unfold wantedK at hx
        split at hx
        · rename_i e; cases e; exact hx
        · rename_i e; cases e; exact hx
        · cases hx
    cases hwk : wantedK (getK ff t) b with
    | none => rw [hwk] at he; cases he
    | some x =>
      rw [hwk] at he
      rw [hw x hwk]
      cases x with
      | true => exact runK_sim h ho he
      | false =>
        have he' : cond (o.ex.isEmpty && o.clr.isEmpty) (some (putK o.wr [some undefP] ff, σ)) none = some (ff', σ') := he
        cases hc : (o.ex.isEmpty && o.clr.isEmpty) with
        | true =>
          rw [hc] at he'
          cases he'
          simp only [Bool.and_eq_true, List.isEmpty_iff] at hc
          dsimp only
          rw [if_pos hc]
          exact ⟨_, rfl, putK_sim _ _ h (okOp_spec ho)⟩
        | false => rw [hc] at he'; cases he'
theorem opsK_sim : ∀ (os : List AOp) {ff : FF} {A : Frm} {σ : Sto} {e : AExit} {ff' : FF} {σ' : Sto}, Rel N ff A → os.all (okOp N) = true → opsK pur call os ff σ = some (e, ff', σ') →
    e = .normal ∧ ∃ A', execOps pur call os A σ = some (A', σ') ∧ Rel N ff' A'
  | [], ff, A, σ, e, ff', σ', h, _, he => by cases he; exact ⟨rfl, A, rfl, h⟩
  | o :: os, ff, A, σ, e, ff', σ', h, ho, he => by
    simp only [List.all_cons, Bool.and_eq_true] at ho
    have he' : Option.rec (motive := fun _ => RX) none (fun r => opsK pur call os r.1 r.2) (execK pur call o ff σ) = some (e, ff', σ') := he
    cases hx : execK pur call o ff σ with
    | none => rw [hx] at he'; cases he'
    | some r =>
      obtain ⟨ff1, σ1⟩ := r
      rw [hx] at he'
      obtain ⟨A1, h1, h2⟩ := execK_sim h ho.1 hx
      obtain ⟨e1, A', h3, h4⟩ := opsK_sim os h2 ho.2 he'
      refine ⟨e1, A', ?_, h4⟩
      simp only [execOps, h1, h3]
theorem getK_mask (ff : FF) : ∀ (keep : List Bool) (n t : Nat) (v : PV), getK (maskFrom ff keep n) t = some v → getK ff t = some v ∧ n ≤ t ∧ keep[t - n]? = some true
  | [], n, t, v, h => by cases h
  | b :: keep, n, t, v, h => by
    have h' : getK (cond b ((n, getK ff n) :: maskFrom ff keep (n + 1)) (maskFrom ff keep (n + 1))) t = some v := h
    have rec' : getK (maskFrom ff keep (n + 1)) t = some v → getK ff t = some v ∧ n ≤ t ∧ (b :: keep)[t - n]? = some true := by
      intro h
      obtain ⟨h1, h2, h3⟩ := getK_mask ff keep (n + 1) t v h
      refine ⟨h1, by omega, ?_⟩
      rw [show t - n = (t - (n + 1)) + 1 from by omega, List.getElem?_cons_succ]; exact h3
    cases b with
    | false => exact rec' h'
    | true =>
      have h'' : cond (Nat.beq n t) (getK ff n) (getK (maskFrom ff keep (n + 1)) t) = some v := h'
      cases hb : Nat.beq n t with
      | true =>
        rw [hb] at h''
        have : n = t := Nat.eq_of_beq_eq_true hb
        subst this
        exact ⟨h'', Nat.le_refl _, by simp⟩
      | false => rw [hb] at h''; exact rec' h''
theorem mask_rel {keep : List Bool} (hk : keep.length = N) (h : Rel N ff A) : Rel N (maskFrom ff keep 0) (mask keep A) := by
  refine ⟨by rw [mask_len (by rw [hk, h.len])]; exact h.len, fun t v hv => ?_⟩
  obtain ⟨h1, _, h3⟩ := getK_mask ff keep 0 t v hv
  have hg := h.get t v h1
  rw [Nat.sub_zero] at h3
  unfold Frm.get at hg ⊢
  unfold mask
  rw [List.getElem?_zipWith, h3]
  cases ha : A[t]? with
  | none => rw [ha] at hg; cases hg
  | some x => rw [ha] at hg; simpa using hg
theorem iterK_sim {keep : List Bool} (hk : keep.length = N) {bodyK : FF → Sto → RX} {body : Frm → Sto → Option (AExit × Frm × Sto)}
    (hb : ∀ ff A σ e ff' σ', Rel N ff A → bodyK ff σ = some (e, ff', σ') → ∃ A', body A σ = some (e, A', σ') ∧ Rel N ff' A') :
    ∀ (n : Nat) (ff : FF) (A : Frm) (σ : Sto) (e : AExit) (ff' : FF) (σ' : Sto), Rel N ff A → iterK keep bodyK n ff σ = some (e, ff', σ') → ∃ A', iter keep body n A σ = some (e, A', σ') ∧ Rel N ff' A'
  | 0, ff, A, σ, e, ff', σ', _, h => by cases h
  | n + 1, ff, A, σ, e, ff', σ', hr, h => by
    have h' : Option.rec (motive := fun _ => RX) none (fun r => cond (isNormal r.1) (iterK keep bodyK n (maskFrom r.2.1 keep 0) r.2.2) (some r)) (bodyK ff σ) = some (e, ff', σ') := h
    cases hx : bodyK ff σ with
    | none => rw [hx] at h'; cases h'
    | some r =>
      obtain ⟨e1, ff1, σ1⟩ := r
      rw [hx] at h'
      obtain ⟨A1, h1, h2⟩ := hb _ _ _ _ _ _ hr hx
      simp only [iter, h1]
      cases e1 with
      | normal => exact iterK_sim hk hb n _ _ _ _ _ _ (mask_rel hk h2) h'
      | exit i => cases h'; exact ⟨A1, rfl, h2⟩
      | ret => cases h'; exact ⟨A1, rfl, h2⟩
theorem arunK_sim {n : Nat} : ∀ (c : ACode) (ff : FF) (A : Frm) (σ : Sto) (e : AExit) (ff' : FF) (σ' : Sto), okCode N c = true → Rel N ff A → arunK pur call n c ff σ = some (e, ff', σ') →
    ∃ A', arun pur call n c A σ = some (e, A', σ') ∧ Rel N ff' A' := by
  intro c
  induction c with
  | skip => intro ff A σ e ff' σ' _ hr h; cases h; exact ⟨A, rfl, hr⟩
  | region ops =>
    intro ff A σ e ff' σ' ho hr h
    obtain ⟨rfl, A', h1, h2⟩ := opsK_sim ops hr ho h
    exact ⟨A', by simp only [arun, h1, Option.map_some], h2⟩
  | seq x y ihx ihy =>
    intro ff A σ e ff' σ' ho hr h
    simp only [okCode, Bool.and_eq_true] at ho
    have h' : Option.rec (motive := fun _ => RX) none (fun r => cond (isNormal r.1) (arunK pur call n y r.2.1 r.2.2) (some r)) (arunK pur call n x ff σ) = some (e, ff', σ') := h
    cases hx : arunK pur call n x ff σ with
    | none => rw [hx] at h'; cases h'
    | some r =>
      obtain ⟨e1, ff1, σ1⟩ := r
      rw [hx] at h'
      obtain ⟨A1, h1, h2⟩ := ihx _ _ _ _ _ _ ho.1 hr hx
      simp only [arun, h1]
      cases e1 with
      | normal => exact ihy _ _ _ _ _ _ ho.2 h2 h'
      | exit i => cases h'; exact ⟨A1, rfl, h2⟩
      | ret => cases h'; exact ⟨A1, rfl, h2⟩
  | cond c t e iht ihe =>
    intro ff A σ e ff' σ' ho hr h
    simp only [okCode, Bool.and_eq_true] at ho
    have h' : condK (evalK ff [c]) (arunK pur call n t ff σ) (arunK pur call n _ ff σ) = some (e, ff', σ') := h
    unfold condK at h'
    split at h'
    · rename_i b hb
      have := evalK_sim hr _ _ hb
      simp only [arun, this]
      cases b with
      | true => exact iht _ _ _ _ _ _ ho.1 hr h'
      | false => exact ihe _ _ _ _ _ _ ho.2 hr h'
    · cases h'
  | block id c ih =>
    intro ff A σ e ff' σ' ho hr h
    have h' : Option.rec (motive := fun _ => RX) none (fun r => AExit.rec (motive := fun _ => RX) (some r) (fun i => cond (Nat.beq i id) (some (.normal, r.2)) (some r)) (some r) r.1) (arunK pur call n c ff σ) = some (e, ff', σ') := h
    cases hx : arunK pur call n c ff σ with
    | none => rw [hx] at h'; cases h'
    | some r =>
      obtain ⟨e1, ff1, σ1⟩ := r
      rw [hx] at h'
      obtain ⟨A1, h1, h2⟩ := ih _ _ _ _ _ _ ho hr hx
      simp only [arun, h1]
      cases e1 with
      | normal => cases h'; exact ⟨A1, rfl, h2⟩
      | exit i =>
        have h'' : cond (Nat.beq i id) (some (AExit.normal, ff1, σ1)) (some (.exit i, ff1, σ1)) = some (e, ff', σ') := h'
        cases hb : Nat.beq i id with
        | true =>
          rw [hb] at h''
          cases h''
          dsimp only
          rw [if_pos (Nat.eq_of_beq_eq_true hb)]
          exact ⟨A1, rfl, h2⟩
        | false =>
          rw [hb] at h''
          cases h''
          dsimp only
          rw [if_neg (Nat.ne_of_beq_eq_false hb)]
          exact ⟨A1, rfl, h2⟩
      | ret => cases h'; exact ⟨A1, rfl, h2⟩
  | loop keep c ih =>
    intro ff A σ e ff' σ' ho hr h
    simp only [okCode, Bool.and_eq_true] at ho
    have hk : keep.length = N := Nat.eq_of_beq_eq_true ho.1
    simp only [arun]
    rw [if_pos (by rw [hk, hr.len])]
    exact iterK_sim hk (fun ff A σ e ff' σ' hr h => ih ff A σ e ff' σ' ho.2 hr h) n _ _ _ _ _ _ (mask_rel hk hr) h
  | exit id => intro ff A σ e ff' σ' _ hr h; cases h; exact ⟨A, rfl, hr⟩
  | ret => intro ff A σ e ff' σ' _ hr h; cases h; exact ⟨A, rfl, hr⟩
theorem getK_init : ∀ (args : List PV) (n t : Nat) (v : PV), getK (initK args n) t = some v → n ≤ t ∧ args[t - n]? = some v
  | [], n, t, v, h => by cases h
  | a :: args, n, t, v, h => by
    have h' : cond (Nat.beq n t) (some a) (getK (initK args (n + 1)) t) = some v := h
    cases hb : Nat.beq n t with
    | true =>
      rw [hb] at h'
      have : n = t := Nat.eq_of_beq_eq_true hb
      subst this
      exact ⟨Nat.le_refl _, by simpa using h'⟩
    | false =>
      rw [hb] at h'
      obtain ⟨h1, h2⟩ := getK_init args (n + 1) t v h'
      refine ⟨by omega, ?_⟩
      rw [show t - n = (t - (n + 1)) + 1 from by omega, List.getElem?_cons_succ]; exact h2
theorem resK_sim (h : Rel N ff A) : ∀ (rs : List (Nat × Option Nat)) (vs : List PV), resK ff rs = some vs → resultsOf A rs = some vs
  | [], vs, hr => by cases hr; rfl
  | (t, n) :: rs, vs, hr => by
    have hr' : (match getK ff t, resK ff rs with | some v, some vs => if resOk v n then some (v.disown :: vs) else (resAgg v n).map fun r => r :: vs | _, _ => none) = some vs := hr
    split at hr'
    · rename_i v ws hg hw
      simp only [resultsOf, h.get t v hg, resK_sim h rs ws hw]
      exact hr'
    · cases hr'
theorem runFnK_sim {n : Nat} {fn : AFunc} {args : List PV} {r : PV × Sto} (ho : okCode (fn.ntmps + fn.extra) fn.code = true) (h : runFnK pur call n fn args σ = some r) : runFn pur call n fn args σ = some r := by
  unfold runFnK at h
  cases hb : (Nat.beq args.length fn.nargs && Nat.ble args.length fn.ntmps) with
  | false => rw [hb] at h; cases h
  | true =>
    rw [hb] at h
    simp only [Bool.and_eq_true] at hb
    have h1 : args.length = fn.nargs := Nat.eq_of_beq_eq_true hb.1
    have h2 : args.length ≤ fn.ntmps := Nat.le_of_ble_eq_true hb.2
    unfold runFn
    rw [if_pos ⟨h1, h2⟩]
    have hrel : Rel (fn.ntmps + fn.extra) (initK args 0) (args.map some ++ List.replicate (fn.ntmps + fn.extra - args.length) none) := by
      refine ⟨by simp; omega, fun t v hv => ?_⟩
      obtain ⟨_, hv⟩ := getK_init args 0 t v hv
      rw [Nat.sub_zero] at hv
      have hlt := (List.getElem?_eq_some_iff.1 hv).1
      unfold Frm.get
      rw [List.getElem?_append_left (by simpa using hlt), List.getElem?_map, hv]; rfl
    cases hx : arunK pur call n fn.code (initK args 0) σ with
    | none => rw [hx] at h; cases h
    | some x =>
      obtain ⟨e, ff', σ'⟩ := x
      rw [hx] at h
      obtain ⟨A', h3, h4⟩ := arunK_sim fn.code _ _ _ _ _ _ ho hrel hx
      rw [h3]
      have fin : ((resK ff' fn.results).bind fun vs => (packR vs).map fun x => (x, σ')) = some r → ((resultsOf A' fn.results).bind fun vs => (packR vs).map fun x => (x, σ')) = some r := by
        intro hh
        obtain ⟨vs, hv, hp⟩ := Option.bind_eq_some_iff.1 hh
        rw [resK_sim h4 _ _ hv]; exact hp
      cases e with
      | normal => exact fin h
      | exit i => cases h
      | ret => exact fin h
def TabOk (P : Program) (pur : FuncId → Bool) (tab : FuncId → Option AFunc) : Prop :=
  ∀ f af, tab f = some af → ∃ fn fi, P.funcs[f]? = some fn ∧ (fn.name == "runtime.NumGoroutine") = false ∧ compFunc P pur fi fn = some af ∧ okCode (af.ntmps + af.extra) af.code = true
def PrimOk (P : Program) (f : FuncId) (g : Prim) : Prop :=
  ∀ call, Sound P call → ∀ args σ r σ', (∀ p ∈ args, p.disown = p) → g call args σ = some (r, σ') → CallOk P f args σ r σ'
theorem callK_sound {prim : FuncId → Option Prim} {tab : FuncId → Option AFunc} (hmo : P.follows .mixedOrders = true) (htab : TabOk P pur tab) (hprim : ∀ f g, prim f = some g → PrimOk P f g) : ∀ n, Sound P (callK pur prim tab n)
  | 0 => by intro f args σ r σ' _ h; cases h
  | n + 1 => by
    intro f args σ r σ' hown h
    have hS := callK_sound hmo htab hprim n
    have h' : Option.rec (motive := fun _ => Option (PV × Sto)) (Option.rec (motive := fun _ => Option (PV × Sto)) none (fun fn => runFnK pur (callK pur prim tab n) n fn args σ) (tab f)) (fun g => g (callK pur prim tab n) args σ) (prim f) = some (r, σ') := h
    cases hp : prim f with
    | some g =>
      rw [hp] at h'
      exact hprim f g hp _ hS args σ r σ' hown h'
    | none =>
      rw [hp] at h'
      dsimp only at h'
      cases ht : tab f with
      | none => rw [ht] at h'; cases h'
      | some af =>
        rw [ht] at h'
        obtain ⟨fn, fi, h1, h2, h3, h4⟩ := htab f af ht
        exact fn_sound hmo h1 h2 h3 hS hown (runFnK_sim h4 h')
end
end Go.Abs
