/- A part of the proof: A37 A38. -/
import Derived.Test.YtakhbjefcjmelaaGreatDoorKk

set_option linter.unusedVariables false
set_option linter.unusedSimpArgs false
namespace Go.Abs
open Go.RowKit
def seqs : List Code → Code → Code
  | [], c => c
  | p :: ps, c => .seq p (seqs ps c)
def comps (P : Program) (pur : FuncId → Bool) (fi : FI) : List Code → Option (List ACode)
  | [] => some []
  | c :: cs => match comp P pur fi c, comps P pur fi cs with
    | some x, some xs => some (x :: xs)
    | _, _ => none
noncomputable section
def preF (pur : FuncId → Bool) (call : Caller) (m : Nat) : List ACode → Frm → Sto → Option (AExit × Frm × Sto)
  | [], A, σ => some (.normal, A, σ)
  | c :: cs, A, σ => match runF pur call m c A σ with
    | some (.normal, A', σ') => preF pur call m cs A' σ'
    | r => r
structure LFn where
  nargs : Nat
  ntmps : Nat
  extra : Nat
  pre : List ACode
  rg : ACode
  g : Nat
  aca : ACode
  ac : ACode
  post : ACode
  La : List Bool
  L : List Bool
  Lr : List Bool
  ds : List (Nat × Nat)
  nps : Nat
  res : List (Nat × Option Nat)
def endF (f : LFn) (A : Frm) (σ : Sto) : Option (PV × Sto) := (resultsOf A f.res).bind fun vs => (packR vs).map fun r => (r, σ)
def loopF (pur : FuncId → Bool) (call : Caller) (itr : FuncId → List PV → Option (List (List PV))) (m : Nat) (f : LFn) (A : Frm) (σ : Sto) : Option (PV × Sto) :=
  match A.get f.g with
  | some (.func gf [] caps) => match itr gf caps with
    | some xs => if quiet (keepF f.L A) σ = true ∧ A.length = f.L.length ∧ caps.all PV.flat = true ∧ xs.all (fun x => x.length == f.nps) = true then
      (match iterL pur call m f.aca f.ac f.La f.L f.ds xs (keepF f.L A) σ with
      | some (A2, σ2) => match runF pur call m f.post A2 σ2 with
        | some (e, A3, σ3) => if (e = .normal ∨ e = .ret) ∧ quiet (keepF f.Lr A3) σ3 = true ∧ A3.length = f.Lr.length then endF f (keepF f.Lr A3) σ3 else none
        | none => none
      | none => none) else none
    | none => none
  | _ => none
def runLF (pur : FuncId → Bool) (itr : FuncId → List PV → Option (List (List PV))) (m : Nat) (f : LFn) (call : Caller) (args : List PV) (σ : Sto) : Option (PV × Sto) :=
  if args.length = f.nargs ∧ args.length ≤ f.ntmps then
    match preF pur call m f.pre (args.map some ++ List.replicate (f.ntmps + f.extra - args.length) none) σ with
    | some (.ret, A, σ') => endF f A σ'
    | some (.normal, A, σ') => match runF pur call m f.rg A σ' with
      | some (.normal, A1, σ1) => loopF pur call itr m f A1 σ1
      | _ => none
    | _ => none
  else none
end
def ItrOk (P : Program) (itr : FuncId → List PV → Option (List (List PV))) : Prop :=
  ∀ gf caps xs, itr gf caps = some xs → Enterable P gf ∧ ∀ (I : Imm) (w : World) (cs : Array Value), (∀ b x, I b x → b < w.heap.size) → cs.size = caps.length → (∀ (i : Nat) (p : PV), caps[i]? = some p → Rep I w (cs.getD i undef) p) →
    ∃ vs : List (Array Value), ItOk P gf cs vs I w ∧ vs.length = xs.length ∧ ∀ (j : Nat) (v : Array Value) (x : List PV), vs[j]? = some v → xs[j]? = some x → v.size = x.length ∧ ∀ (i : Nat) (p : PV), x[i]? = some p → Rep I w (v.getD i undef) p ∧ p.free = true ∧ p.disown = p
section
variable {P : Program} {pur : FuncId → Bool} {call : Caller} {fi : FI} {cx : Cx} {G : Gh} {a : Act} {w : World} {A A' : Frm} {σ σ' : Sto}
theorem comps_cons {c : Code} {cs : List Code} {acs : List ACode} (h : comps P pur fi (c :: cs) = some acs) : ∃ x xs, acs = x :: xs ∧ comp P pur fi c = some x ∧ comps P pur fi cs = some xs := by
  simp only [comps] at h
  split at h
  · rename_i x xs h1 h2; cases h; exact ⟨x, xs, rfl, h1, h2⟩
  · cases h
theorem pre_sound {n m : Nat} (hS : Sound P call) (hx : CxOk cx fi) (hmo : P.follows .mixedOrders = true) : ∀ (cs : List Code) (acs : List ACode), comps P pur fi cs = some acs → ∀ (A : Frm) (σ : Sto) (e : AExit) (A' : Frm) (σ' : Sto), preF pur call m acs A σ = some (e, A', σ') →
    ∀ (a : Act) (w : World), Sim cx a w A σ → ∀ (rest : Code) (Q : Exit → Act → World → Prop), (∀ a' w', Sim cx a' w' A' σ' → (e = .normal → rest.wpIn (FW none) n P Q a' w') ∧ (e ≠ .normal → Q e.ex a' w')) → (seqs cs rest).wpIn (FW none) n P Q a w
  | [], acs, hc, A, σ, e, A', σ', h, a, w, hs, rest, Q, hq => by
    cases hc
    cases h
    exact (hq a w hs).1 rfl
  | c :: cs, acs, hc, A, σ, e, A', σ', h, a, w, hs, rest, Q, hq => by
    obtain ⟨x, xs, rfl, h1, h2⟩ := comps_cons hc
    simp only [preF] at h
    refine wpIn_seq ?_
    split at h
    · rename_i A1 σ1 hr
      obtain ⟨A1', hr', hl, hsub⟩ := runF_ok hr
      refine code_sound (ro := none) hS hx hmo c x h1 m _ _ _ _ _ hr' a w hs _ (fun a' w' hs' _ => ?_)
      obtain ⟨G', hi'⟩ := hs'
      exact pre_sound hS hx hmo cs xs h2 A1 σ1 e A' σ' h a' w' ⟨G', hi'.forget hl hsub⟩ rest Q hq
    · rename_i hn
      obtain ⟨A1', hr', hl, hsub⟩ := runF_ok h
      refine code_sound (ro := none) hS hx hmo c x h1 m _ _ _ _ _ hr' a w hs _ (fun a' w' hs' _ => ?_)
      obtain ⟨G', hi'⟩ := hs'
      have := hq a' w' ⟨G', hi'.forget hl hsub⟩
      cases e with
      | normal => exact absurd h (hn _ _)
      | exit id => exact this.2 (by simp)
      | ret => exact this.2 (by simp)
def okL (fi : FI) (L : List Bool) : Bool := (List.range L.length).all fun t => !(L.getD t false) || (fi.kind t).isVal || decide (fi.kind t = .box)
theorem okL_get {L : List Bool} (h : okL fi L = true) {t : Nat} (ht : L.getD t false = true) : (fi.kind t).val = true ∨ fi.kind t = .box := by
  have hlt : t < L.length := by
    rcases Nat.lt_or_ge t L.length with h' | h'
    · exact h'
    · rw [List.getD_eq_getElem?_getD, List.getElem?_eq_none h'] at ht; cases ht
  have := List.all_eq_true.1 h t (List.mem_range.2 hlt)
  rw [ht] at this
  simp only [Bool.not_true, Bool.false_or, Bool.or_eq_true, decide_eq_true_eq] at this
  rcases this with h1 | h1
  · exact .inl (isVal_val h1)
  · exact .inr h1
def okL2 (L : List Bool) (ps : Array Tmp) (assign body : Code) : Bool := (List.range L.length).all fun t => !(L.getD t false) || (spares t assign && spares t body && ps.all (fun p => p != t))
theorem okL2_get {L : List Bool} {ps : Array Tmp} {assign body : Code} (h : okL2 L ps assign body = true) {t : Nat} (ht : L.getD t false = true) : spares t assign = true ∧ spares t body = true ∧ ∀ p ∈ ps, p ≠ t := by
  have hlt : t < L.length := by
    rcases Nat.lt_or_ge t L.length with h' | h'
    · exact h'
    · rw [List.getD_eq_getElem?_getD, List.getElem?_eq_none h'] at ht; cases ht
  have := List.all_eq_true.1 h t (List.mem_range.2 hlt)
  rw [ht] at this
  simp only [Bool.not_true, Bool.false_or, Bool.and_eq_true] at this
  refine ⟨this.1.1, this.1.2, fun p hp => ?_⟩
  have h2 := (Array.all_eq_true_iff_forall_mem.1 this.2) p hp
  simpa using h2
theorem lf_ok {f : FuncId} {fn : Func} {lf : LFn} {m : Nat} {itr : FuncId → List PV → Option (List (List PV))} (hitr : ItrOk P itr) (hmo : P.follows .mixedOrders = true) (hfn : P.funcs[f]? = some fn) (hname : (fn.name == "runtime.NumGoroutine") = false)
    (hok : fi.okB = true) (hnt : fi.nt = fn.ntmps) (hna : lf.ntmps = fn.ntmps) (hex : lf.extra = fi.ps.length) {pre : List Code} {rg assign body post : Code} {bid gt : Nat} {ps : Array Tmp}
    (hbody : fn.body = some (seqs pre (.seq (.seq rg (.block bid (.rangeFunc (.tmp gt) ps assign body))) post))) (hgt : lf.g = gt) (hnp : lf.nps = ps.size)
    (hcp : comps P pur fi pre = some lf.pre) (hcr : comp P pur fi rg = some lf.rg) (hca : comp P pur fi assign = some lf.aca) (hcb : comp P pur fi body = some lf.ac) (hct : comp P pur fi post = some lf.post)
    (hrs : resSlots P fi fn.results.toList = some lf.res) (hvals : (List.range lf.nargs).all (fun t => (fi.kind t).isVal) = true) (hgk : (fi.kind gt).isVal = true)
    (hLa : okL fi lf.La = true) (hL : okL fi lf.L = true) (hLr : okL fi lf.Lr = true) (hL2 : okL2 lf.L ps assign body = true) (hll : lf.La.length = lf.L.length)
    (hds : ∀ d ∈ lf.ds, (fi.kind d.1).val = true ∧ ∀ (v : Array Value) (tm : Array Value), v.size = ps.size → tm.size = fi.nt → ((ps.zip v).foldl (fun t (p, v) => t.setIfInBounds p v) tm).getD d.1 undef = v.getD d.2 undef) :
    PrimOk P f (runLF pur itr m lf) := by
  intro call hS args σ r σ' hown h
  have hent : Enterable P f := ⟨fn, hfn, hname, by rw [hbody]; rfl⟩
  refine ⟨hent, fun n vs w G K hargs hpre => ?_⟩
  unfold runLF at h
  split at h
  case isFalse => cases h
  rename_i hlen
  obtain ⟨hl1, hl2⟩ := hlen
  have hval : ∀ t, t < args.length → (fi.kind t).val = true := fun t ht => isVal_val (List.all_eq_true.1 hvals t (List.mem_range.2 (by omega)))
  have hinit := inv_init hok hpre hargs hown (by omega) hval fi.ps.length
  have hvs : vs.size = args.length := by simpa using hargs.1
  have hcx := cxOk hok K G w
  rw [hna, ← hnt, hex] at h
  refine callsIn_of_wp_marks hfn hbody trivial ?_
  rw [← hnt]
  have fin0 : ∀ (e : AExit) (A1 : Frm) (a' : Act) (w' : World), (e = .normal ∨ e = .ret) → Sim (mkCx fi hok K G w) a' w' A1 σ' → endF lf A1 σ' = some (r, σ') →
      bodyPostM (FW none) n P fn (fun e w' => ∃ v G', e = .returned v ∧ RepT G'.I G'.bl w' v r ∧ Aft K G w σ' G' w') e.ex a' w' := by
    intro e A1 a' w' he hs hres
    obtain ⟨G', hi'⟩ := hs
    unfold endF at hres
    obtain ⟨ps', hps, hres⟩ := Option.bind_eq_some_iff.1 hres
    obtain ⟨r', hr', e1⟩ := Option.map_eq_some_iff.1 hres
    cases e1
    obtain ⟨v, hv, hrep⟩ := results_ok (P := P) hi' hcx hrs hps hr'
    have hb := hi'.base
    have haft : Aft K G w σ' G' w' := ⟨hb.keep, hb.same, hb.sub, hb.new, hb.lt, hb.own, hb.grow, hb.bl, hb.os, hb.tape, hb.output, hi'.obj, hi'.len, hi'.abl⟩
    have hd : a'.defers = [] := hi'.defers
    have hfin : LeavesInM (FW none) n P fn a'.tmps (fun e w' => ∃ v G', e = .returned v ∧ RepT G'.I G'.bl w' v r ∧ Aft K G w σ' G' w') a'.defers .returning w' := by
      rw [hd]
      exact ⟨v, hv, v, G', rfl, hrep, haft⟩
    rcases he with rfl | rfl
    · exact hfin
    · exact hfin
  split at h
  · 
    rename_i A1 σ1 hrun
    have hσ : σ1 = σ' := by
      unfold endF at h
      obtain ⟨_, _, h⟩ := Option.bind_eq_some_iff.1 h
      obtain ⟨_, _, e⟩ := Option.map_eq_some_iff.1 h
      cases e; rfl
    subst hσ
    exact pre_sound hS hcx hmo pre lf.pre hcp _ σ _ A1 σ1 hrun _ w ⟨G, hinit⟩ _ _ (fun a' w' hs => ⟨fun e => (by cases e), fun _ => fin0 .ret A1 a' w' (.inr rfl) hs h⟩)
  · rename_i A1 σ1 hrun
    split at h
    case h_2 => cases h
    rename_i A2 σ2 hrg
    refine pre_sound hS hcx hmo pre lf.pre hcp _ σ _ A1 σ1 hrun _ w ⟨G, hinit⟩ _ _ (fun a' w' hs => ⟨fun _ => ?_, fun e => absurd rfl e⟩)
    refine wpIn_seq (wpIn_seq ?_)
    obtain ⟨A2', hrg', hlg, hsg⟩ := runF_ok hrg
    refine code_sound (ro := none) hS hcx hmo rg lf.rg hcr m _ _ _ _ _ hrg' a' w' hs _ (fun a2 w2 hs2 _ => ?_)
    obtain ⟨G2, hi2'⟩ := hs2
    have hi2 := hi2'.forget hlg hsg
    show (Code.block bid (Code.rangeFunc (.tmp gt) ps assign body)).wpIn (FW none) n P _ a2 w2
    refine wpIn_block ?_
    unfold loopF at h
    rw [hgt] at h
    split at h
    case h_2 => cases h
    rename_i gf caps hget
    split at h
    case h_2 => cases h
    rename_i xs hxs
    split at h
    case isFalse => cases h
    rename_i hcc
    obtain ⟨hq, hlA, hcaps, hxl⟩ := hcc
    split at h
    case h_2 => cases h
    rename_i A3 σ3 hiter
    split at h
    case h_2 => cases h
    rename_i e4 A4 σ4 hpost
    split at h
    case isFalse => cases h
    rename_i hend
    obtain ⟨he4, hq4, hl4⟩ := hend
    have hgv : ((mkCx fi hok K G w).kd gt).val = true := isVal_val hgk
    have hrepg := ((SlotOk_val hgv rfl).1 (hi2.slot gt _ hget)).1
    obtain ⟨fs, cs, hat, hf1, hf2, hf3, hf4⟩ := hrepg.func_inv
    have hfs : fs = #[] := Array.eq_empty_of_size_eq_zero hf1
    subst hfs
    obtain ⟨hge, hg⟩ := hitr gf caps xs hxs
    obtain ⟨vls, hito, hlv, hpv⟩ := hg G2.I w2 cs hi2.base.lt hf2 (fun i p hp => RepT.flat (.one (hf4 i p hp)) (List.all_eq_true.1 hcaps p (List.mem_of_getElem? hp)))
    have hA0 : ∀ t v, (keepF lf.L A2).get t = some v → plainSlot (mkCx fi hok K G w) t v ∧ lf.L.getD t false = true := fun t v hv => by
      obtain ⟨e1, e2, e3⟩ := keepF_get hv
      exact ⟨⟨e3, okL_get hL e1⟩, e1⟩
    have hi3 := hi2.forget (A' := keepF lf.L A2) (by rw [keepF_len hlA, hlA]) (fun t v hv => (keepF_get hv).2.1)
    have hI0 : ∀ b x, (mkCx fi hok K G w).I0 b x → b < w2.heap.size := fun b x hb => Nat.lt_of_lt_of_le (hpre.lt b x hb) hi2.base.grow
    refine range_sound (pur := pur) (call := call) (m := m) hS hcx hmo hca hcb (a := a2) (g := .tmp gt) (by exact hat) hge hito (fun v hv => ?_) hlv (fun j v x h1 h2 => (hpv j v x h1 h2).2) hi3 hI0 hA0 hq (by rw [keepF_len hlA]) hll
      (fun t ht => ⟨okL_get hL ht, okL2_get hL2 ht⟩) (fun t ht => okL_get hLa ht) hds hiter (fun D W hD hdef hBW hex => ?_)
    · obtain ⟨j, hj⟩ := List.mem_iff_getElem?.1 hv
      have hjl : j < xs.length := by rw [← hlv]; exact (List.getElem?_eq_some_iff.1 hj).1
      rw [(hpv j v _ hj (List.getElem?_eq_getElem hjl)).1]
      have := List.all_eq_true.1 hxl _ (List.getElem_mem hjl)
      rw [← hnp]; simpa using this
    · obtain ⟨G3, hi4, ht4, hA3⟩ := hex
      have hd2 : a2.defers = [] := hi2.defers
      rw [hd2] at hi4 ⊢
      let cxm : Cx := { mkCx fi hok K G w with ds := [mark D] }
      have hi5 : Inv (cxm.inner G3 W [mark D]) G3 { a2 with defers := [mark D] } W A3 σ3 := hi4.inner ht4 [mark D] rfl rfl (fun t v hv => ⟨(hA3 t v hv).1, hv, rfl⟩) rfl
      obtain ⟨A4', hpost', hlp, hsp⟩ := runF_ok hpost
      show post.wpIn (FW none) n P _ { a2 with defers := [mark D] } W
      refine code_sound (ro := none) (cx := cxm.inner G3 W [mark D]) hS ⟨hcx.kd, hcx.nt, hcx.al⟩ hmo post lf.post hct m _ _ _ _ _ hpost' _ W ⟨G3, hi5⟩ _ (fun a4 w4 hs4 _ => ?_)
      obtain ⟨G4, hi6'⟩ := hs4
      have hi6 := hi6'.forget hlp hsp
      have hk4 := inner_keeps hi6.base
      have hdef4 := hk4.same _ _ hdef rfl
      have hd4 : a4.defers = [mark D] := hi6.defers
      have hA4 : ∀ t v, (keepF lf.Lr A4).get t = some v → plainSlot cxm t v ∧ A4.get t = some v ∧ at' { a4 with defers := [] } t = at' a4 t := fun t v hv => by
        obtain ⟨e1, e2, e3⟩ := keepF_get hv
        exact ⟨⟨e3, okL_get hLr e1⟩, e2, rfl⟩
      have hi7 := (hi4.outer (cx := cxm) hi6 (ds' := []) (a2 := { a4 with defers := [] }) rfl rfl (A2 := keepF lf.Lr A4) hA4 (by rw [keepF_len hl4]; exact hl4.symm)).prune w2.heap.size hI0 (fun t v hv => (hA4 t v hv).1) hq4
      have ht7 := tame_prune G4 w2.heap.size w4
      obtain ⟨w5, hw5⟩ : ∃ w5, w4.putObj D (.deferred none) = w5 := ⟨_, rfl⟩
      have hg5 : w4.grownBy w5 (some D) := by rw [← hw5]; exact grownBy_putObj' _ _ _
      have hKB : ∀ b, K b → b < w2.heap.size := fun b hb => Nat.lt_of_lt_of_le (hpre.Klt b hb) hi2.base.grow
      obtain ⟨hi8, _, _⟩ := hi7.grown ht7 hKB (Nat.le_trans hBW hk4.size) hg5 (fun r e => by cases e; exact ⟨hD, _, hdef4, rfl⟩)
      have hσ : σ4 = σ' := by
        unfold endF at h
        obtain ⟨_, _, h⟩ := Option.bind_eq_some_iff.1 h
        obtain ⟨_, _, e⟩ := Option.map_eq_some_iff.1 h
        cases e; rfl
      subst hσ
      unfold endF at h
      obtain ⟨ps', hps, hres⟩ := Option.bind_eq_some_iff.1 h
      obtain ⟨r', hr', e1⟩ := Option.map_eq_some_iff.1 hres
      cases e1
      obtain ⟨v, hv, hrep⟩ := results_ok (P := P) hi8 ⟨hcx.kd, hcx.nt, hcx.al⟩ hrs hps hr'
      have hb := hi8.base
      have haft : Aft K G w σ4 _ w5 := ⟨hb.keep, hb.same, hb.sub, hb.new, hb.lt, hb.own, hb.grow, hb.bl, hb.os, hb.tape, hb.output, hi8.obj, hi8.len, hi8.abl⟩
      have hfin : LeavesInM (FW none) n P fn a4.tmps (fun e w' => ∃ v G', e = .returned v ∧ RepT G'.I G'.bl w' v r ∧ Aft K G w σ4 G' w') a4.defers .returning w4 := by
        rw [hd4]
        refine ⟨by simp, .inl ⟨D, w5, rfl, by rw [← hw5]; exact run_takeDeferred hdef4, ?_⟩⟩
        exact ⟨v, hv, v, _, rfl, hrep, haft⟩
      rcases he4 with rfl | rfl
      · exact hfin
      · exact hfin
  · cases h
end
end Go.Abs

namespace Go.Abs
open Go.RowKit
structure Split where
  rg : Code
  bid : Nat
  g : Nat
  ps : Array Tmp
  assign : Code
  body : Code
  post : Code
def splitC : Code → Option (List Code × Split)
  | .seq (.seq rg (.block bid (.rangeFunc (.tmp g) ps assign body))) post => some ([], ⟨rg, bid, g, ps, assign, body, post⟩)
  | .seq a b => (splitC b).map fun r => (a :: r.1, r.2)
  | _ => none
theorem splitC_eq : ∀ (c : Code) (pre : List Code) (s : Split), splitC c = some (pre, s) → c = seqs pre (.seq (.seq s.rg (.block s.bid (.rangeFunc (.tmp s.g) s.ps s.assign s.body))) s.post) := by
  intro c
  induction c with
  | seq a b iha ihb =>
    intro pre s h
    unfold splitC at h
    split at h
    · rename_i rg bid g ps assign body post he
      cases he
      cases h
      rfl
    · rename_i x y hn he
      cases he
      obtain ⟨⟨l, s'⟩, h1, h2⟩ := Option.map_eq_some_iff.1 h
      cases h2
      rw [ihb _ _ h1]
      rfl
    · cases h
  | _ => intro pre s h; simp [splitC] at h
def okSlots (fi : FI) (N : Nat) : List Bool := (List.range N).map fun t => (fi.kind t).isVal || decide (fi.kind t = .box)
def keepSlots (fi : FI) (N : Nat) (ps : Array Tmp) (assign body : Code) : List Bool :=
  (List.range N).map fun t => ((fi.kind t).isVal || decide (fi.kind t = .box)) && (spares t assign && spares t body && ps.all (fun p => p != t))
def nodupB : List Nat → Bool
  | [] => true
  | x :: xs => !xs.contains x && nodupB xs
def dsOf : Nat → List Nat → List (Nat × Nat)
  | _, [] => []
  | i, p :: ps => (p, i) :: dsOf (i + 1) ps
def compLF (P : Program) (pur : FuncId → Bool) (fi : FI) (fn : Func) : Option LFn :=
  match fn.body with
  | some c => match splitC c with
    | some (pre, s) => match comps P pur fi pre, comp P pur fi s.rg, comp P pur fi s.assign, comp P pur fi s.body, comp P pur fi s.post, resSlots P fi fn.results.toList with
      | some pre', some rg', some aca, some ac, some post', some rs =>
        if fi.nt = fn.ntmps ∧ fi.okB = true ∧ (List.range (fn.params.size + fn.nfree)).all (fun t => (fi.kind t).isVal) = true ∧ (fi.kind s.g).isVal = true ∧ s.ps.toList.all (fun p => decide (p < fi.nt) && (fi.kind p).isVal) = true ∧ nodupB s.ps.toList = true then
          some { nargs := fn.params.size + fn.nfree, ntmps := fn.ntmps, extra := fi.ps.length, pre := pre', rg := rg', g := s.g, aca := aca, ac := ac, post := post', La := okSlots fi (fn.ntmps + fi.ps.length),
                 L := keepSlots fi (fn.ntmps + fi.ps.length) s.ps s.assign s.body, Lr := okSlots fi (fn.ntmps + fi.ps.length), ds := dsOf 0 s.ps.toList, nps := s.ps.size, res := rs }
        else none
      | _, _, _, _, _, _ => none
    | none => none
  | none => none
section
variable {P : Program} {pur : FuncId → Bool} {fi : FI}
theorem getD_map_range {N : Nat} {f : Nat → Bool} {t : Nat} (h : ((List.range N).map f).getD t false = true) : f t = true := by
  rw [List.getD_eq_getElem?_getD, List.getElem?_map] at h
  cases hx : (List.range N)[t]? with
  | none => rw [hx] at h; cases h
  | some u =>
    rw [hx] at h
    obtain ⟨h1, h2⟩ := List.getElem?_eq_some_iff.1 hx
    rw [List.getElem_range] at h2
    subst h2
    exact h
theorem okL_okSlots (N : Nat) : okL fi (okSlots fi N) = true := by
  unfold okL
  rw [List.all_eq_true]
  intro t _
  cases h : (okSlots fi N).getD t false with
  | false => rfl
  | true =>
    have := getD_map_range h
    simp only [Bool.not_true, Bool.false_or]
    exact this
theorem okL_keep (N : Nat) (ps : Array Tmp) (assign body : Code) : okL fi (keepSlots fi N ps assign body) = true := by
  unfold okL
  rw [List.all_eq_true]
  intro t _
  cases h : (keepSlots fi N ps assign body).getD t false with
  | false => rfl
  | true =>
    have := getD_map_range h
    simp only [Bool.not_true, Bool.false_or]
    rw [Bool.and_eq_true] at this
    exact this.1
theorem okL2_keep (N : Nat) (ps : Array Tmp) (assign body : Code) : okL2 (keepSlots fi N ps assign body) ps assign body = true := by
  unfold okL2
  rw [List.all_eq_true]
  intro t _
  cases h : (keepSlots fi N ps assign body).getD t false with
  | false => rfl
  | true =>
    have := getD_map_range h
    simp only [Bool.not_true, Bool.false_or]
    rw [Bool.and_eq_true] at this
    exact this.2
theorem foldl_other {t : Nat} : ∀ (l : List (Nat × Value)) (tm : Array Value), (∀ d ∈ l, d.1 ≠ t) → (l.foldl (fun t d => t.setIfInBounds d.1 d.2) tm).getD t undef = tm.getD t undef
  | [], tm, _ => rfl
  | d :: l, tm, h => by
    rw [List.foldl_cons, foldl_other l _ (fun d' hd => h d' (List.mem_cons_of_mem _ hd))]
    have := h d (List.mem_cons_self ..)
    simp only [Array.getD_eq_getD_getElem?]
    rw [Array.getElem?_setIfInBounds_ne this]
theorem foldl_here {t : Nat} {i : Nat} : ∀ (ps : List Nat) (v : List Value) (k : Nat) (tm : Array Value), nodupB ps = true → v.length = ps.length → t < tm.size → (t, i) ∈ dsOf k ps → ((ps.zip v).foldl (fun t d => t.setIfInBounds d.1 d.2) tm).getD t undef = v.getD (i - k) undef ∧ k ≤ i
  | [], v, k, tm, _, _, _, hm => by cases hm
  | p :: ps, [], k, tm, _, hl, _, _ => by cases hl
  | p :: ps, x :: v, k, tm, hn, hl, ht, hm => by
    rw [nodupB, Bool.and_eq_true] at hn
    simp only [dsOf, List.mem_cons, Prod.mk.injEq] at hm
    rw [List.zip_cons_cons, List.foldl_cons]
    rcases hm with ⟨rfl, rfl⟩ | hm
    · rw [foldl_other]
      · simp [ht]
      · intro d hd e
        have hd' : (d.1, d.2) ∈ ps.zip v := hd
        have h2 := (List.of_mem_zip hd').1
        rw [e] at h2
        have h1 := hn.1
        simp [h2] at h1
    · obtain ⟨h1, h2⟩ := foldl_here ps v (k + 1) (tm.setIfInBounds p x) hn.2 (by simpa using hl) (by simpa using ht) hm
      refine ⟨?_, by omega⟩
      rw [h1, show i - k = (i - (k + 1)) + 1 from by omega]
      simp
theorem dsOf_mem {t i : Nat} : ∀ {ps : List Nat} {k : Nat}, (t, i) ∈ dsOf k ps → t ∈ ps
  | p :: ps, k, h => by
    simp only [dsOf, List.mem_cons, Prod.mk.injEq] at h
    rcases h with ⟨rfl, _⟩ | h
    · exact List.mem_cons_self ..
    · exact List.mem_cons_of_mem _ (dsOf_mem h)
theorem compLF_ok {f : FuncId} {fn : Func} {lf : LFn} {m : Nat} {itr : FuncId → List PV → Option (List (List PV))} (hitr : ItrOk P itr) (hmo : P.follows .mixedOrders = true) (hfn : P.funcs[f]? = some fn) (hname : (fn.name == "runtime.NumGoroutine") = false)
    (h : compLF P pur fi fn = some lf) : PrimOk P f (runLF pur itr m lf) := by
  unfold compLF at h
  split at h
  case h_2 => cases h
  rename_i c hbody
  split at h
  case h_2 => cases h
  rename_i pre s hs
  split at h
  case h_2 => cases h
  rename_i pre' rg' aca ac post' rs h1 h2 h3 h4 h5 h6
  split at h
  case isFalse => cases h
  rename_i hcc
  obtain ⟨c1, c2, c3, c4, c5, c6⟩ := hcc
  cases h
  have hc := splitC_eq c pre s hs
  subst hc
  refine lf_ok (fi := fi) hitr hmo hfn hname c2 c1 rfl rfl hbody rfl rfl h1 h2 h3 h4 h5 h6 c3 c4 (okL_okSlots _) (okL_keep _ _ _ _) (okL_okSlots _) (okL2_keep _ _ _ _) (by simp [okSlots, keepSlots]) ?_
  rintro ⟨t, i⟩ hd
  have hmem := dsOf_mem hd
  have h7 := List.all_eq_true.1 c5 t hmem
  simp only [Bool.and_eq_true, decide_eq_true_eq] at h7
  refine ⟨isVal_val h7.2, fun v tm hv htm => ?_⟩
  have := (foldl_here (t := t) (i := i) s.ps.toList v.toList 0 tm c6 (by simpa using hv) (by rw [htm]; exact h7.1) hd).1
  rw [← Array.foldl_toList, Array.toList_zip]
  show ((s.ps.toList.zip v.toList).foldl (fun t d => t.setIfInBounds d.1 d.2) tm).getD t undef = _
  rw [this]
  simp [List.getD_eq_getElem?_getD, Array.getD_eq_getD_getElem?]
end
end Go.Abs
