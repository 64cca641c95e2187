/- A part of the proof: A27 A28. -/
import Derived.Test.YtakhbjefcjmelaaGreatDoorKg

set_option linter.unusedVariables false
set_option linter.unusedSimpArgs false
namespace Go.Abs
open Go.RowKit
def ArgsOk (I : Imm) (bl : Bl) (w : World) (vs : List Value) (ps : List PV) : Prop :=
  vs.length = ps.length ∧ ∀ (i : Nat) (p : PV), ps[i]? = some p → ∃ v, vs[i]? = some v ∧ RepT I bl w v p
theorem ArgsOk.append {I : Imm} {bl : Bl} {w : World} {vs ws : List Value} {ps qs : List PV} (h : ArgsOk I bl w vs ps) (k : ArgsOk I bl w ws qs) : ArgsOk I bl w (vs ++ ws) (ps ++ qs) := by
  refine ⟨by simp [h.1, k.1], fun i p hp => ?_⟩
  by_cases hi : i < ps.length
  · rw [List.getElem?_append_left hi] at hp
    obtain ⟨v, h1, h2⟩ := h.2 i p hp
    exact ⟨v, by rw [List.getElem?_append_left (by rw [h.1]; exact hi)]; exact h1, h2⟩
  · rw [List.getElem?_append_right (by omega)] at hp
    obtain ⟨v, h1, h2⟩ := k.2 _ p hp
    exact ⟨v, by rw [List.getElem?_append_right (by rw [h.1]; omega), h.1]; exact h1, h2⟩
theorem ArgsOk.disown {I : Imm} {bl : Bl} {w : World} {vs : List Value} {ps : List PV} (h : ArgsOk I bl w vs ps) : ArgsOk I bl w vs (ps.map PV.disown) := by
  refine ⟨by simp [h.1], fun i p hp => ?_⟩
  rw [List.getElem?_map] at hp
  obtain ⟨q, hq, rfl⟩ := Option.map_eq_some_iff.1 hp
  obtain ⟨v, h1, h2⟩ := h.2 i q hq
  exact ⟨v, h1, h2.disown⟩
structure Pre (K : Nat → Prop) (G : Gh) (w : World) (σ : Sto) : Prop where
  lt : ∀ b x, G.I b x → b < w.heap.size
  Klt : KOk K w
  own : ∀ b tag, G.ω b = some tag → b < w.heap.size ∧ ¬ K b
  obj : ∀ (id : Nat) (cs : List PV), σ[id]? = some cs → ObjOk G w id cs
  len : G.bl.l.length = σ.length
  abl : ∀ id g a, G.bl.ab id g = some a → id < σ.length
structure Aft (K : Nat → Prop) (G : Gh) (w : World) (σ' : Sto) (G' : Gh) (w' : World) : Prop where
  keep : ∀ b, K b → w'.heap[b]? = w.heap[b]?
  same : Same G.I w w'
  sub : ∀ b x, G.I b x → G'.I b x
  new : ∀ b x, G'.I b x → G.I b x ∨ ¬ K b
  lt : ∀ b x, G'.I b x → b < w'.heap.size
  own : ∀ b tag, G'.ω b = some tag → b < w'.heap.size ∧ ¬ K b
  grow : w.heap.size ≤ w'.heap.size
  bl : G.bl.le G'.bl
  os : w'.os = w.os
  tape : w'.tape = w.tape
  output : w'.output = w.output
  obj : ∀ (id : Nat) (cs : List PV), σ'[id]? = some cs → ObjOk G' w' id cs
  len : G'.bl.l.length = σ'.length
  abl : ∀ id g a, G'.bl.ab id g = some a → id < σ'.length
def Enterable (P : Program) (f : FuncId) : Prop := ∃ fn, P.funcs[f]? = some fn ∧ (fn.name == "runtime.NumGoroutine") = false ∧ fn.body.isNone = false
def CallOk (P : Program) (f : FuncId) (args : List PV) (σ : Sto) (r : PV) (σ' : Sto) : Prop :=
  Enterable P f ∧ ∀ (n : Nat) (vs : Array Value) (w : World) (G : Gh) (K : Nat → Prop), ArgsOk G.I G.bl w vs.toList args → Pre K G w σ →
    CallsIn (FW none) n P f vs w fun e w' => ∃ v G', e = .returned v ∧ RepT G'.I G'.bl w' v r ∧ Aft K G w σ' G' w'
def Sound (P : Program) (call : Caller) : Prop :=
  ∀ f args σ r σ', (∀ p ∈ args, p.disown = p) → call f args σ = some (r, σ') → CallOk P f args σ r σ'
theorem disown_disown (p : PV) : p.disown.disown = p.disown := by
  cases p with
  | agg cs =>
    simp only [PV.disown, List.map_map, PV.agg.injEq]
    apply List.map_congr_left
    intro x _
    cases x <;> rfl
  | aggr cs =>
    simp only [PV.disown, List.map_map, PV.aggr.injEq]
    apply List.map_congr_left
    intro x _
    cases x <;> rfl
  | _ => rfl
section
variable {P : Program} {pur : FuncId → Bool} {call : Caller} {fi : FI} {cx : Cx} {G : Gh} {a : Act} {w : World} {A A' : Frm} {σ σ' : Sto}
theorem callsIn_FW {ro ro' : Option Nat} {n m : Nat} {f : FuncId} {vs : Array Value} {R : Ending → World → Prop} (h : CallsIn (FW ro) n P f vs w R) : CallsIn (FW ro') m P f vs w R :=
  ⟨trivial, fun cs _ => h.2 cs (fun _ hd => by cases hd)⟩
theorem wpIn_enter {ro : Option Nat} {n : Nat} {o : Oper} {c : Call} {K : Act → World → Prop} {Q : Exit → Act → World → Prop} (ho : o.op = .call c) {x : Operand} (hcal : c.callee = .value x) {f : FuncId} {fs cs : Array Value} (hx : a.eval x = .func (.func f) fs cs)
    (hent : Enterable P f) (h : CallsIn (FW none) 0 P f (fs ++ c.args.map a.eval ++ cs) w fun e w' => ∃ v, e = .returned v ∧ K (a.put o.dst v) w') : o.wpIn (FW ro) n P a w K Q := by
  obtain ⟨fn, hf, hname, hbody⟩ := hent
  refine ⟨fun _ _ => trivial, ?_⟩
  rw [Oper.semAt_eq _ _ _ (by simp [ho])]
  have hrun : (execOp a.eval o).run P w = .ok (.enter f (fs ++ c.args.map a.eval ++ cs)) w := by
    have h1 : ¬ fn.name = "runtime.NumGoroutine" := by simpa using hname
    have h2 : ¬ fn.body = none := fun e => by rw [e] at hbody; cases hbody
    simp [execOp, ho, resolve, hcal, hx, Deferred.ofValue, invoke, callFunc, hf, h1, h2]
  rw [hrun, Oper.uponIn_enter]
  refine ⟨fun h => by simp [FW] at h, (callsIn_FW h).mono fun e w' => ?_⟩
  rintro ⟨v, rfl, hk⟩
  exact hk
theorem ObjOk.congr {G' : Gh} {id : Nat} {cs : List PV} (hI : G'.I = G.I) (hω : ∀ b i j, G.ω b = some (.obj i j) → G'.ω b = some (.obj i j)) (hbl : G'.bl = G.bl) (h : ObjOk G w id cs) : ObjOk G' w id cs := by
  obtain ⟨b, h1, hh⟩ := h
  refine ⟨b, by rw [hbl]; exact h1, ?_⟩
  rcases hh with ⟨h2, h3, cs', elem, h4, h5, h6⟩ | ⟨t, e, l, rfl, h2, h3, p, v, hp, h4, h5, h6⟩ | h | ⟨gen, size, es, rfl, b1, base, n, cs, elem, g1, g2, g3, g4, g5, g6, g7, g8, g9⟩
  rotate_left
  · refine .inr (.inl ⟨t, e, l, rfl, hω _ _ _ h2, by rw [hI]; exact h3, p, v, hp, h4, h5, fun g hg => ?_⟩)
    obtain ⟨e1, e2, e3⟩ := h6 g hg
    exact ⟨e1, hω _ _ _ e2, by rw [hI]; exact e3⟩
  · exact .inr (.inr (.inl h))
  · exact .inr (.inr (.inr ⟨gen, size, es, rfl, b1, base, n, cs, elem, by rw [hbl]; exact g1, by rw [hbl]; exact g2, hω _ _ _ g3, by rw [hI]; exact g4, g5, g6, g7, g8, by rw [hI, hbl]; exact g9⟩))
  refine .inl ⟨hω _ _ _ h2, by rw [hI]; exact h3, cs', elem, h4, h5, fun j p hp => ?_⟩
  rcases h6 j p hp with ⟨hr, ho⟩ | hself
  rotate_left
  · exact .inr hself
  refine .inl ⟨by rw [hI, hbl]; exact hr, ?_⟩
  unfold OwnOk at ho ⊢
  split
  · rename_i size es
    obtain ⟨b', off, cap, cs2, elem2, e1, e2, e3, e4, e5, e6, e7, e8⟩ := ho
    exact ⟨b', off, cap, cs2, elem2, e1, hω _ _ _ e2, by rw [hI]; exact e3, by rw [hI]; exact e4, e5, e6, e7, e8⟩
  · trivial
def Gh.lend (G : Gh) : Gh := ⟨G.I, fun b => match G.ω b with | some (.obj i j) => some (.obj i j) | _ => none, G.bl⟩
def Gh.lentK (G : Gh) (w : World) (b : Nat) : Prop := b < w.heap.size ∧ ∀ i j, G.ω b ≠ some (.obj i j)
def Gh.back (G : Gh) (w : World) (G1 : Gh) : Gh := ⟨G1.I, fun b => match G1.ω b with | some (.obj i j) => some (.obj i j) | _ => if b < w.heap.size then (match G.ω b with | some (.slot t j) => some (.slot t j) | _ => none) else none, G1.bl⟩
theorem lend_obj {b i : Nat} {j : Option Nat} : G.lend.ω b = some (.obj i j) ↔ G.ω b = some (.obj i j) := by
  simp only [Gh.lend]
  split
  · rename_i i' j' h; rw [h]
  · rename_i h; constructor
    · intro h'; cases h'
    · intro h'; exact absurd h' (h i j)
theorem K_lent (hi : Inv cx G a w A σ) {b : Nat} (h : cx.K b) : G.lentK w b :=
  ⟨Nat.lt_of_lt_of_le (hi.base.Klt b h) hi.base.grow, fun i j he => (hi.base.own b _ he).2 h⟩
theorem tab_now (hi : Inv cx G a w A σ) {b : Nat} {cs : Array Value} (h : tabs b = some cs) : cx.K b ∧ ∃ t f, w.heap[b]? = some (.cells cs t f) := by
  obtain ⟨h1, t, f, h2⟩ := hi.base.Klt.tab b cs h
  exact ⟨h1, t, f, (hi.base.keep b h1).trans h2⟩
theorem pre_lend (hi : Inv cx G a w A σ) : Pre (G.lentK w) G.lend w σ := by
  refine ⟨hi.base.lt, ⟨fun b h => h.1, fun b o h => ⟨K_lent hi (tab_now hi h).1, (tab_now hi h).2⟩⟩, fun b tag h => ?_, fun id cs h => ObjOk.congr (G := G) (G' := G.lend) rfl (fun b i j h => lend_obj.2 h) rfl (hi.obj id cs h), hi.len, hi.abl⟩
  have : ∃ i j, tag = .obj i j := by
    simp only [Gh.lend] at h
    split at h
    · cases h; exact ⟨_, _, rfl⟩
    · cases h
  obtain ⟨i, j, rfl⟩ := this
  rw [lend_obj] at h
  exact ⟨(hi.base.own b _ h).1, fun hk => hk.2 i j h⟩
theorem back_obj {G1 : Gh} {b i : Nat} {j : Option Nat} (h : G1.ω b = some (.obj i j)) : (G.back w G1).ω b = some (.obj i j) := by
  simp only [Gh.back, h]
theorem ext_back {G1 : Gh} {w' : World} {σ1 : Sto} (ha : Aft (G.lentK w) G.lend w σ1 G1 w') (hi : Inv cx G a w A σ) : Ext (fun tg => ∃ i j, tg = .obj i j) G (G.back w G1) w w' := by
  refine ⟨ha.sub, ha.same, ha.bl, fun id _ hX => absurd ⟨id, none, rfl⟩ (hX none), fun b tag h hX => ?_⟩
  cases tag with
  | obj i j => exact absurd ⟨i, j, rfl⟩ hX
  | slot t j =>
    have hK : G.lentK w b := ⟨(hi.base.own b _ h).1, fun i j he => by rw [h] at he; cases he⟩
    have hn : G1.ω b = none := by
      cases hg : G1.ω b with
      | none => rfl
      | some tag => exact absurd hK (ha.own b tag hg).2
    refine ⟨by simp only [Gh.back, hn, hK.1, if_true, h], ha.keep b hK, fun x hx => ?_⟩
    rcases ha.new b x hx with h' | h'
    · exact h'
    · exact absurd hK h'
theorem base_back {G1 : Gh} {w' : World} {σ1 : Sto} (ha : Aft (G.lentK w) G.lend w σ1 G1 w') (hi : Inv cx G a w A σ) : Base cx (G.back w G1) w' := by
  refine ⟨fun b h => ?_, hi.base.same.trans ha.same hi.base.sub, fun b x h => ha.sub b x (hi.base.sub b x h), fun b x h => ?_, ha.lt, fun b tag h => ?_, hi.base.Klt, Nat.le_trans hi.base.grow ha.grow, hi.base.bl.trans ha.bl, ha.os.trans hi.base.os, ha.tape.trans hi.base.tape, ha.output.trans hi.base.output⟩
  · rw [ha.keep b (K_lent hi h)]; exact hi.base.keep b h
  · rcases ha.new b x h with h' | h'
    · exact hi.base.new b x h'
    · exact .inr fun hk => h' (K_lent hi hk)
  · simp only [Gh.back] at h
    split at h
    · rename_i i j hg
      cases h
      have := ha.own b _ hg
      exact ⟨this.1, fun hk => this.2 (K_lent hi hk)⟩
    · split at h
      · rename_i hlt
        split at h
        · rename_i t j hg
          cases h
          exact ⟨Nat.lt_of_lt_of_le hlt ha.grow, (hi.base.own b _ hg).2⟩
        · cases h
      · cases h
theorem inv_back {G1 : Gh} {w' : World} {v : Value} {r : PV} (hi : Inv cx G a w A σ) (ha : Aft (G.lentK w) G.lend w σ' G1 w') (dst : Option Nat) (hdst : ∀ d, dst = some d → d < cx.nt ∧ (cx.kd d).val = true)
    (hr : RepT G1.I G1.bl w' v r) : Inv cx (G.back w G1) (a.put dst v) w' (setO A dst r.disown) σ' := by
  have hvr := hr.disown
  refine hi.step _ dst v (ext_back ha hi) (base_back ha hi) (by cases dst <;> simp [setO]) ?_ (fun id cs hc => .inr (ObjOk.congr (G := G1) (G' := G.back w G1) rfl (fun b i j h => back_obj h) rfl (ha.obj id cs hc))) ha.len ha.abl
  intro t q hq
  cases dst with
  | none => exact .inl ⟨hq, by simp, fun j h => (by obtain ⟨_, _, h⟩ := h; cases h), fun _ _ _ _ => by simp, fun _ _ => ⟨by simp, fun h => by obtain ⟨_, _, h⟩ := h; cases h⟩⟩
  | some d =>
    obtain ⟨hd1, hd2⟩ := hdst d rfl
    simp only [setO, get_set] at hq
    split at hq
    · rename_i hc
      cases hq
      refine .inr ?_
      rw [hc.1, SlotOk_val hd2 hvr.free, at'_put _ _ _ (by rw [hi.size]; exact hd1)]
      exact ⟨hvr, OwnOk_disown r⟩
    · rename_i hc
      have hne : d ≠ t := fun e => hc ⟨e.symm, by have := hi.room; omega⟩
      refine .inl ⟨hq, fun e => hne (Option.some.inj e), fun j h => (by obtain ⟨_, _, h⟩ := h; cases h), fun d' off e hbx e' => ?_, fun m hm => ⟨fun e' => ?_, fun h => by obtain ⟨_, _, h⟩ := h; cases h⟩⟩
      · cases e'
        rw [hbx] at hd2; simp [SK.val] at hd2
      · cases e'
        obtain ⟨keys, hk⟩ := cx.ents t d hm
        rw [hk] at hd2; simp [SK.val] at hd2
def Gh.bare (G : Gh) : Gh := ⟨G.I, fun _ => none, Bl.nil⟩
def Gh.after (G : Gh) (w : World) (G1 : Gh) : Gh := ⟨G1.I, fun b => if b < w.heap.size then G.ω b else none, G.bl⟩
theorem pre_bare (hi : Inv cx G a w A σ) : Pre (fun b => b < w.heap.size) G.bare w [] :=
  ⟨hi.base.lt, ⟨fun b h => h, fun b o h => ⟨Nat.lt_of_lt_of_le (hi.base.Klt b (tab_now hi h).1) hi.base.grow, (tab_now hi h).2⟩⟩, fun b tag h => (by cases h), fun id cs h => (by simp at h), rfl, fun id g a h => (by cases h)⟩
theorem inv_after {G1 : Gh} {w' : World} {v : Value} {r : PV} (hi : Inv cx G a w A σ) (ha : Aft (fun b => b < w.heap.size) G.bare w σ' G1 w') (dst : Option Nat) (hdst : ∀ d, dst = some d → d < cx.nt ∧ (cx.kd d).val = true)
    (hr : RepT G1.I G1.bl w' v r) (hf : r.flat = true) : Inv cx (G.after w G1) (a.put dst v) w' (setO A dst r.disown) σ := by
  have hrep := (hr.flat hf).disown
  have hext : Ext (fun _ => False) G (G.after w G1) w w' := by
    refine ⟨ha.sub, ha.same, Bl.le_refl _, fun _ _ _ _ => rfl, fun b tag h _ => ?_⟩
    have hlt := (hi.base.own b tag h).1
    refine ⟨by simp only [Gh.after, hlt, if_true, h], ha.keep b hlt, fun x hx => ?_⟩
    rcases ha.new b x hx with h' | h'
    · exact h'
    · exact absurd hlt h'
  have hbase : Base cx (G.after w G1) w' := by
    have hK : ∀ b, cx.K b → b < w.heap.size := fun b h => Nat.lt_of_lt_of_le (hi.base.Klt b h) hi.base.grow
    refine ⟨fun b h => ?_, hi.base.same.trans ha.same hi.base.sub, fun b x h => ha.sub b x (hi.base.sub b x h), fun b x h => ?_, ha.lt, fun b tag h => ?_, hi.base.Klt, Nat.le_trans hi.base.grow ha.grow, hi.base.bl, ha.os.trans hi.base.os, ha.tape.trans hi.base.tape, ha.output.trans hi.base.output⟩
    · rw [ha.keep b (hK b h)]; exact hi.base.keep b h
    · rcases ha.new b x h with h' | h'
      · exact hi.base.new b x h'
      · exact .inr fun hk => h' (hK b hk)
    · simp only [Gh.after] at h
      split at h
      · rename_i hlt; exact ⟨Nat.lt_of_lt_of_le hlt ha.grow, (hi.base.own b tag h).2⟩
      · cases h
  exact hi.put1 hext hbase rfl dst hdst (by rw [free_disown]; exact hr.free) (.one (.inl hrep)) (fun _ _ => OwnOk_disown r)
theorem argsOk_of (hi : Inv cx G a w A σ) (hkd : ∀ t, cx.kd t = fi.kind t) {xs : Array Operand} {as : List AArg} (hc : compArgs fi xs.toList = some as) {ps : List PV} (he : evalArgs A as = some ps) (hf : ps.all PV.free = true) :
    ArgsOk G.I G.bl w (xs.map a.eval).toList ps := by
  obtain ⟨hl, hr⟩ := args_rep hi hkd hc he (fun p hp => List.all_eq_true.1 hf p hp)
  refine ⟨by simpa using hl, fun i p hp => ?_⟩
  have hlt : i < xs.size := by have := (List.getElem?_eq_some_iff.1 hp).1; simp at hl; omega
  have hx : xs.toList[i]? = some xs[i] := by rw [Array.getElem?_toList]; exact Array.getElem?_eq_getElem hlt
  exact ⟨a.eval xs[i], by simp [hlt], hr i _ p hx hp⟩
theorem ArgsOk.bare {vs : List Value} {ps : List PV} (h : ArgsOk G.I G.bl w vs ps) (hf : ps.all PV.flat = true) : ArgsOk G.I Bl.nil w vs ps :=
  ⟨h.1, fun i p hp => let ⟨v, h1, h2⟩ := h.2 i p hp; ⟨v, h1, .one (.inl (h2.flat (List.all_eq_true.1 hf p (List.mem_of_getElem? hp))))⟩⟩
theorem flat_disown1 (p : PV) : p.disown.flat = p.flat := by cases p <;> rfl
theorem own_free_map (ps : List PV) : ∀ p ∈ ps.map PV.disown, p.disown = p := by
  intro p hp
  obtain ⟨q, _, rfl⟩ := List.mem_map.1 hp
  exact disown_disown q
theorem A_of {o : Oper} {k : AK} {as : List AArg} {p : PV} (h1 : ([some p] : List (Option PV)).length = o.dst.toList.length + ([] : List Nat).length → A' = putAll A ({ dst := o.dst, k := k, args := as } : AOp).wr ([some p] ++ ([] : List Nat).map fun _ => none))
    (h2 : ([some p] : List (Option PV)).length ≠ o.dst.toList.length + ([] : List Nat).length → A' = A ∧ o.dst = none) : A' = setO A o.dst p := by
  cases hdd : o.dst with
  | none =>
    rw [hdd] at h2
    exact (h2 (by simp)).1
  | some d =>
    rw [hdd] at h1
    rw [h1 rfl]
    simp [AOp.wr, putAll, setO]
theorem call_step {ro : Option Nat} {n : Nat} {o : Oper} {c : Call} {K : Act → World → Prop} {Q : Exit → Act → World → Prop} (hS : Sound P call) (hi : Inv cx G a w A σ) (ho : o.op = .call c) {x : Operand} (hcal : c.callee = .value x) {f : FuncId} {fs cs : Array Value} (hx : a.eval x = .func (.func f) fs cs)
    (hdst : ∀ d, o.dst = some d → d < cx.nt ∧ (cx.kd d).val = true) {ps : List PV} (hargs : ArgsOk G.I G.bl w (fs ++ c.args.map a.eval ++ cs).toList ps) {r : PV} {σ1 : Sto}
    (hcall : call f (ps.map PV.disown) σ = some (r, σ1)) (hk : ∀ a' w', Sim cx a' w' (setO A o.dst r.disown) σ1 → Kept o.dst a a' → K a' w') : o.wpIn (FW ro) n P a w K Q := by
  obtain ⟨hent, hcl⟩ := hS f _ σ r σ1 (own_free_map ps) hcall
  refine wpIn_enter ho hcal hx hent ((hcl 0 _ w G.lend (G.lentK w) hargs.disown (pre_lend hi)).mono ?_)
  rintro e w' ⟨v, G1, rfl, hr, ha⟩
  exact ⟨v, rfl, hk _ _ ⟨_, inv_back hi ha o.dst hdst hr⟩ (kept_put _ _ _)⟩
theorem call_step_pure {ro : Option Nat} {n : Nat} {o : Oper} {c : Call} {K : Act → World → Prop} {Q : Exit → Act → World → Prop} (hS : Sound P call) (hi : Inv cx G a w A σ) (ho : o.op = .call c) {x : Operand} (hcal : c.callee = .value x) {f : FuncId} {fs cs : Array Value} (hx : a.eval x = .func (.func f) fs cs)
    (hdst : ∀ d, o.dst = some d → d < cx.nt ∧ (cx.kd d).val = true) {ps : List PV} (hargs : ArgsOk G.I G.bl w (fs ++ c.args.map a.eval ++ cs).toList ps) (hflat : (ps.map PV.disown).all PV.flat = true) {r : PV} {σ1 : Sto}
    (hcall : call f (ps.map PV.disown) [] = some (r, σ1)) (hrf : r.flat = true) (hk : ∀ a' w', Sim cx a' w' (setO A o.dst r.disown) σ → Kept o.dst a a' → K a' w') : o.wpIn (FW ro) n P a w K Q := by
  obtain ⟨hent, hcl⟩ := hS f _ [] r σ1 (own_free_map ps) hcall
  refine wpIn_enter ho hcal hx hent ((hcl 0 _ w G.bare (fun b => b < w.heap.size) (hargs.disown.bare hflat) (pre_bare hi)).mono ?_)
  rintro e w' ⟨v, G1, rfl, hr, ha⟩
  exact ⟨v, rfl, hk _ _ ⟨_, inv_after hi ha o.dst hdst hr hrf⟩ (kept_put _ _ _)⟩
theorem all_flat_disown {ps : List PV} (h : ps.all PV.flat = true) : (ps.map PV.disown).all PV.flat = true := by
  rw [List.all_map]
  rw [List.all_eq_true] at h ⊢
  intro p hp
  simpa [flat_disown1] using h p hp
theorem sim_c {ro : Option Nat} {n : Nat} {o : Oper} {c : Call} {K : Act → World → Prop} {Q : Exit → Act → World → Prop} (hS : Sound P call) (hi : Inv cx G a w A σ) (hkd : ∀ t, cx.kd t = fi.kind t) (hnt : cx.nt = fi.nt) (ho : o.op = .call c) {f : FuncId} (hcal : c.callee = .value (.func f))
    {as : List AArg} (hc : compArgs fi c.args.toList = some as) (hd : plainDst fi o.dst = true) (hrun : runA pur call { dst := o.dst, k := .c f, args := as } A σ = some (A', σ'))
    (hk : ∀ a' w', Sim cx a' w' A' σ' → Kept o.dst a a' → K a' w') : o.wpIn (FW ro) n P a w K Q := by
  obtain ⟨ps, rs, he, hs, hA1, hA2⟩ := runK hrun
  simp only [sem] at hs
  split at hs
  · rename_i hf
    simp only [Bool.and_eq_true] at hf
    obtain ⟨⟨r, σ1⟩, hcall, hs⟩ := Option.bind_eq_some_iff.1 hs
    dsimp only at hs
    split at hs
    · rename_i hrf
      cases hs
      have hA := A_of hA1 hA2
      subst hA
      refine call_step_pure hS hi ho hcal (f := f) (fs := #[]) (cs := #[]) rfl (plain_ok hkd hnt hd) (ps := ps) ?_ (all_flat_disown hf.2) hcall hrf hk
      simpa using argsOk_of hi hkd hc he hf.1
    · cases hs
  · cases hs
theorem sim_call {ro : Option Nat} {n : Nat} {o : Oper} {c : Call} {K : Act → World → Prop} {Q : Exit → Act → World → Prop} (hS : Sound P call) (hi : Inv cx G a w A σ) (hkd : ∀ t, cx.kd t = fi.kind t) (hnt : cx.nt = fi.nt) (ho : o.op = .call c) {f : FuncId} (hcal : c.callee = .value (.func f))
    {as : List AArg} (hc : compArgs fi c.args.toList = some as) (hd : plainDst fi o.dst = true) (hrun : runA pur call { dst := o.dst, k := .w (.call f), args := as } A σ = some (A', σ'))
    (hk : ∀ a' w', Sim cx a' w' A' σ' → Kept o.dst a a' → K a' w') : o.wpIn (FW ro) n P a w K Q := by
  obtain ⟨ps, rs, he, hs, hA1, hA2⟩ := runK hrun
  simp only [sem, semW] at hs
  split at hs
  · rename_i hf
    split at hs
    · split at hs
      · rename_i hflat
        obtain ⟨⟨r, σ1⟩, hcall, hs⟩ := Option.bind_eq_some_iff.1 hs
        dsimp only at hs
        split at hs
        · rename_i hrf
          cases hs
          have hA := A_of hA1 hA2
          subst hA
          refine call_step_pure hS hi ho hcal (f := f) (fs := #[]) (cs := #[]) rfl (plain_ok hkd hnt hd) (ps := ps) ?_ (all_flat_disown hflat) hcall hrf hk
          simpa using argsOk_of hi hkd hc he hf
        · cases hs
      · cases hs
    · obtain ⟨⟨r, σ1⟩, hcall, hs⟩ := Option.map_eq_some_iff.1 hs
      cases hs
      have hA := A_of hA1 hA2
      subst hA
      refine call_step hS hi ho hcal (f := f) (fs := #[]) (cs := #[]) rfl (plain_ok hkd hnt hd) (ps := ps) ?_ hcall hk
      simpa using argsOk_of hi hkd hc he hf
  · cases hs
theorem frzL_own (ps : List PV) {vs : List PV} {σ σ' : Sto} (h : frzL ps σ = some (vs, σ')) {G : Gh} (hi : Inv cx G a w A σ) :
    ∃ G', Inv cx G' a w A σ' ∧ G'.bl = G.bl ∧ (∀ b x, G.I b x → G'.I b x) ∧ vs.length = ps.length ∧ ∀ (i : Nat) (p q : PV), ps[i]? = some p → vs[i]? = some q → ∀ c, Rep1 G.I G.bl w c p.own0 → Rep G'.I w c q := by
  have key : ∀ (ps vs : List PV) (σ σ' : Sto), frzL ps σ = some (vs, σ') → frzL (ps.map PV.own0) σ = some (vs, σ') := by
    intro ps
    induction ps with
    | nil => intro vs σ σ' h; exact h
    | cons c cs ih =>
      intro vs σ σ' h
      cases c with
      | arr id gen off len size =>
        simp only [frzL, List.map_cons, PV.own0] at h ⊢
        split at h
        · rename_i es hes
          split at h
          · rename_i hfl
            obtain ⟨⟨us, σ1⟩, h1, e⟩ := Option.map_eq_some_iff.1 h
            cases e
            simp only [hfl, if_true, ih _ _ _ h1, Option.map_some]
          · cases h
        · cases h
      | _ =>
        simp only [frzL, List.map_cons, PV.own0] at h ⊢
        split at h
        · rename_i hf
          obtain ⟨⟨us, σ1⟩, h1, e⟩ := Option.map_eq_some_iff.1 h
          cases e
          first
            | (rw [if_pos hf, ih _ _ _ h1]; rfl)
            | (rw [if_pos (show PV.flat (.slice false _ _) = true from rfl), ih _ _ _ h1]; rfl)
        · cases h
  obtain ⟨G', i1, i2, i3, i4, i5⟩ := frzL_core _ (key ps vs σ σ' h) hi
  refine ⟨G', i1, i2, i3, by rw [i4, List.length_map], fun i p q hp hq c hc => i5 i p.own0 q (by rw [List.getElem?_map, hp]; rfl) hq c hc⟩
theorem sim_callz {ro : Option Nat} {n : Nat} {o : Oper} {c : Call} {d : Nat} {K : Act → World → Prop} {Q : Exit → Act → World → Prop} (hS : Sound P call) (hi : Inv cx G a w A σ) (hkd : ∀ t, cx.kd t = fi.kind t) (hnt : cx.nt = fi.nt) (ho : o.op = .call c) {f : FuncId} (hcal : c.callee = .value (.func f))
    (hod : o.dst = some d) {as : List AArg} (hc : compArgs fi c.args.toList = some as) (hd : plainDst fi o.dst = true) (hrun : runA pur call { dst := o.dst, k := .w (.callz f), args := as } A σ = some (A', σ'))
    (hk : ∀ a' w', Sim cx a' w' A' σ' → Kept o.dst a a' → K a' w') : o.wpIn (FW ro) n P a w K Q := by
  obtain ⟨ps, rs, he, hs, hA1, hA2⟩ := runK hrun
  simp only [sem, semW] at hs
  split at hs
  case isFalse => cases hs
  rename_i hf
  obtain ⟨⟨r, σ1⟩, hcall, hs⟩ := Option.bind_eq_some_iff.1 hs
  obtain ⟨⟨r', σ2⟩, hfz, hs⟩ := Option.map_eq_some_iff.1 hs
  cases hs
  have hA := A_of hA1 hA2
  subst hA
  have hdp := plain_ok hkd hnt hd
  refine call_step hS hi ho hcal (f := f) (fs := #[]) (cs := #[]) rfl hdp (ps := ps) (by simpa using argsOk_of hi hkd hc he hf) hcall (fun a' w' hsim hkept => hk a' w' ?_ hkept)
  unfold frzV at hfz
  dsimp only at hfz hcall hsim
  split at hfz
  · rename_i cs
    obtain ⟨⟨us, σ3⟩, h1, e⟩ := Option.map_eq_some_iff.1 hfz
    cases e
    obtain ⟨G1, hi1⟩ := hsim
    obtain ⟨G', hi', hbl, hI, hlen', hrep⟩ := frzL_own cs h1 hi1
    rw [hod] at hi1 hi' ⊢
    obtain ⟨hd1, hd2⟩ := hdp d hod
    have hlen : d < A.length := by have := hi.room; omega
    have hg : Frm.get (setO A (some d) (PV.aggr cs).disown) d = some (.aggr (cs.map PV.own0)) := by
      simp only [setO, get_set, hlen, and_self, if_true]; rfl
    have hsl := ((SlotOk_val hd2 rfl).1 (hi1.slot d _ hg)).1
    obtain ⟨vcs, ev, hsz, hr⟩ := hsl.aggr_inv
    have := hi'.reset (d := d) (p := .agg us) ((SlotOk_val hd2 rfl).2 ⟨.one (.inl (by
      rw [ev]
      refine .agg (by rw [hsz, List.length_map, hlen']) fun i q hq => ?_
      have hil : i < cs.length := by rw [← hlen']; exact (List.getElem?_eq_some_iff.1 hq).1
      exact hrep i _ q (List.getElem?_eq_getElem hil) hq _ (hr i _ (by rw [List.getElem?_map, List.getElem?_eq_getElem hil]; rfl)))), trivial⟩)
    simp only [setO, List.set_set] at this ⊢
    exact ⟨G', this⟩
  · rename_i id gen off len size
    split at hfz
    case h_2 => cases hfz
    rename_i es hes
    split at hfz
    case isFalse => cases hfz
    rename_i hfl
    cases hfz
    obtain ⟨G1, hi1⟩ := hsim
    obtain ⟨G', hi', hrep⟩ := frz_core hi1 hes hfl
    rw [hod] at hi1 hi' ⊢
    obtain ⟨hd1, hd2⟩ := hdp d hod
    have hlen : d < A.length := by have := hi.room; omega
    have hg : Frm.get (setO A (some d) (PV.arr id gen off len size).disown) d = some (.arr id gen off len size) := by
      simp only [setO, get_set, hlen, and_self, if_true]; rfl
    have hsl := ((SlotOk_val hd2 rfl).1 (hi1.slot d _ hg)).1
    have := hi'.reset (d := d) (p := .slice false size es) ((SlotOk_val hd2 rfl).2 ⟨.one (.inl (hrep _ hsl)), trivial⟩)
    simp only [setO, List.set_set] at this ⊢
    exact ⟨G', this⟩
  · cases hfz
    exact hsim
theorem argsOk_arr {fs : Array Value} {ps : List PV} (h1 : fs.size = ps.length) (hf : ∀ (i : Nat) (p : PV), ps[i]? = some p → Rep1 G.I G.bl w (fs.getD i undef) p) : ArgsOk G.I G.bl w fs.toList ps := by
  refine ⟨by simpa using h1, fun i p hp => ?_⟩
  have hlt : i < fs.size := by have := (List.getElem?_eq_some_iff.1 hp).1; omega
  exact ⟨fs.getD i undef, by simp [Array.getD, hlt], .one (hf i p hp)⟩
theorem sim_calld {ro : Option Nat} {n : Nat} {o : Oper} {c : Call} {K : Act → World → Prop} {Q : Exit → Act → World → Prop} (hS : Sound P call) (hi : Inv cx G a w A σ) (hkd : ∀ t, cx.kd t = fi.kind t) (hnt : cx.nt = fi.nt) (ho : o.op = .call c) {x : Operand} (hcal : c.callee = .value x)
    {as : List AArg} (hc : compArgs fi (x :: c.args.toList) = some as) (hd : plainDst fi o.dst = true) (hrun : runA pur call { dst := o.dst, k := .w .calld, args := as } A σ = some (A', σ'))
    (hk : ∀ a' w', Sim cx a' w' A' σ' → Kept o.dst a a' → K a' w') : o.wpIn (FW ro) n P a w K Q := by
  obtain ⟨ps, rs, he, hs, hA1, hA2⟩ := runK hrun
  obtain ⟨y, zs, rfl, hy, hz⟩ := compArgs_cons hc
  obtain ⟨p, qs, rfl, hp, hq⟩ := evalArgs_cons he
  simp only [sem] at hs
  cases p with
  | func f first cap =>
    obtain ⟨fs, cs, hx, h1, h2, h3, h4⟩ := (arg_rep hi hkd hy hp rfl).func_inv
    simp only [semW] at hs
    split at hs
    · rename_i hf
      have hargs : ArgsOk G.I G.bl w (fs ++ c.args.map a.eval ++ cs).toList (first ++ qs ++ cap) := by
        rw [Array.toList_append, Array.toList_append]
        exact ((argsOk_arr h1 h3).append (argsOk_of hi hkd hz hq hf)).append (argsOk_arr h2 h4)
      split at hs
      · split at hs
        · rename_i hflat
          obtain ⟨⟨r, σ1⟩, hcall, hs⟩ := Option.bind_eq_some_iff.1 hs
          dsimp only at hs
          split at hs
          · rename_i hrf
            cases hs
            have hA := A_of hA1 hA2
            subst hA
            exact call_step_pure hS hi ho hcal hx (plain_ok hkd hnt hd) hargs hflat hcall hrf hk
          · cases hs
        · cases hs
      · obtain ⟨⟨r, σ1⟩, hcall, hs⟩ := Option.map_eq_some_iff.1 hs
        cases hs
        have hA := A_of hA1 hA2
        subst hA
        exact call_step hS hi ho hcal hx (plain_ok hkd hnt hd) hargs hcall hk
    · cases hs
  | _ => simp [semW] at hs
end
end Go.Abs

namespace Go.Abs
open Go.RowKit
structure CxOk (cx : Cx) (fi : FI) : Prop where
  kd : ∀ t, cx.kd t = fi.kind t
  nt : cx.nt = fi.nt
  al : ∀ t, cx.al t = fi.alias t
section
variable {P : Program} {pur : FuncId → Bool} {call : Caller} {fi : FI} {cx : Cx} {G : Gh} {a : Act} {w : World} {A A' : Frm} {σ σ' : Sto} {rg : RG} {o : Oper} {ao : AOp}
theorem mk0 {d : Option Nat} {k : AK} {args : Option (List AArg)} (h : mk fi d k args = some ao) : ∃ as, args = some as ∧ ao = { dst := d, k, args := as } ∧ plainDst fi d = true := by
  obtain ⟨as, h1, h2, h3, _⟩ := mk_some h
  exact ⟨as, h1, h2, h3⟩
theorem mk1 {d s : Nat} {k : AK} {args : Option (List AArg)} (h : mk fi (some d) k args [s] = some ao) : ∃ as, args = some as ∧ ao = { dst := some d, k, args := as, ex := [s] } ∧ isPlain fi d = true ∧ isPlain fi s = true ∧ d ≠ s := by
  obtain ⟨as, h1, h2, h3, h4, h5⟩ := mk_some h
  refine ⟨as, h1, h2, h3, by simpa using h4, ?_⟩
  simp at h5
  exact h5
theorem op_move (hi : Inv cx G a w A σ) (hx : CxOk cx fi) {x : Operand} (hop : o.op = .move x) (hc : compOp P pur fi rg o = some ao) (hrun : runA pur call ao A σ = some (A', σ')) : Gives P cx o a w A' σ' := by
  simp only [compOp, hop] at hc
  split at hc
  · obtain ⟨as, h1, rfl, h3⟩ := mk0 hc
    exact sim_frz hi hx.kd hx.nt hop h1 h3 hrun
  split at hc
  · rename_i s t hd
    split at hc
    · rename_i keys hk
      split at hc
      · rename_i hcc
        cases hc
        rw [hd] at hrun
        exact sim_mvb hi hx.kd hx.nt hop hd (by rw [hx.kd]; exact hk) hcc.1 hrun
      · cases hc
    · split at hc
      · rw [hd] at hc
        obtain ⟨as, h1, rfl, h3, h4, _⟩ := mk1 hc
        exact sim_mvo hi hx.kd hx.nt (.inl hop) hd h1 h3 h4 hrun
      · obtain ⟨as, h1, rfl, h3⟩ := mk0 hc
        exact sim_mv hi hx.kd hx.nt (.inl hop) h1 h3 hrun
  · obtain ⟨as, h1, rfl, h3⟩ := mk0 hc
    exact sim_mv hi hx.kd hx.nt (.inl hop) h1 h3 hrun
theorem op_assign (hi : Inv cx G a w A σ) (hx : CxOk cx fi) {x : Operand} (hop : o.op = .assign x) (hc : compOp P pur fi rg o = some ao) (hrun : runA pur call ao A σ = some (A', σ')) : Gives P cx o a w A' σ' := by
  simp only [compOp, hop] at hc
  split at hc
  · rename_i s
    split at hc
    · cases hd : o.dst with
      | none =>
        rw [hd] at hc
        obtain ⟨as, h1, rfl, h3, h4, h5⟩ := mk_some hc
        obtain ⟨vs, rs, he, hs, rfl, hA⟩ := runX rfl hrun
        obtain ⟨y, zs, rfl, hy, hz⟩ := compArgs_cons h1
        cases hz
        obtain ⟨p, qs, rfl, hp, hq⟩ := evalArgs_cons he
        cases hq
        simp only [semP] at hs
        split at hs
        · cases hs
          unfold runA at hrun
          dsimp only at he hrun
          rw [he] at hrun
          simp only [sem, semP] at hrun
          simp_all
        · cases hs
      | some d =>
        rw [hd] at hc
        obtain ⟨as, h1, rfl, h3, h4, _⟩ := mk1 hc
        exact sim_mvo hi hx.kd hx.nt (.inr hop) hd h1 h3 h4 hrun
    · obtain ⟨as, h1, rfl, h3⟩ := mk0 hc
      exact sim_mv hi hx.kd hx.nt (.inr hop) h1 h3 hrun
  · obtain ⟨as, h1, rfl, h3⟩ := mk0 hc
    exact sim_mv hi hx.kd hx.nt (.inr hop) h1 h3 hrun
theorem op_box (hi : Inv cx G a w A σ) (hx : CxOk cx fi) {t : TypeId} {x : Operand} (hop : o.op = .box t x) (hc : compOp P pur fi rg o = some ao) (hrun : runA pur call ao A σ = some (A', σ')) : Gives P cx o a w A' σ' := by
  simp only [compOp, hop] at hc
  split at hc
  · rename_i s nag hd hcell
    split at hc
    · cases hc
    · rename_i hlt
      have hlt' : s < cx.nt := by rw [hx.nt]; exact Nat.lt_of_not_le hlt
      rw [hd] at hc
      split at hc
      · rename_i hk
        obtain ⟨as, h1, rfl⟩ := Option.map_eq_some_iff.1 hc
        exact sim_bxl hi hx.kd hx.al hop hd hlt' (by rw [hx.kd]; exact hk) h1 hrun
      · rename_i hk
        obtain ⟨as, h1, rfl⟩ := Option.map_eq_some_iff.1 hc
        refine sim_bx hi hx.kd hop (fun d hd' => ?_) h1 (by rw [hd]; exact hrun)
        rw [hd] at hd'; cases hd'
        exact ⟨hlt', by rw [hx.kd, hk]; rfl⟩
      · rename_i hk
        obtain ⟨as, h1, rfl⟩ := Option.map_eq_some_iff.1 hc
        exact sim_bxO hi hx.kd hop hd hlt' (by rw [hx.kd, hk]; rfl) h1 hrun
      · cases hc
  · cases hc
theorem op_alloc (hi : Inv cx G a w A σ) (hx : CxOk cx fi) {t : TypeId} (hop : o.op = .alloc t) (hc : compOp P pur fi rg o = some ao) (hrun : runA pur call ao A σ = some (A', σ')) : Gives P cx o a w A' σ' := by
  simp only [compOp, hop] at hc
  split at hc
  · rename_i s n ag z hd hcell hz
    split at hc
    · cases hc
    · rename_i hlt
      have hlt' : s < cx.nt := by rw [hx.nt]; exact Nat.lt_of_not_le hlt
      rw [hd] at hc
      split at hc
      · rename_i hk
        cases hc
        exact sim_zl hi hx.al hop hd hlt' (by rw [hx.kd]; exact hk) hz hrun
      · rename_i hk
        split at hc
        · rename_i hzn
          cases hc
          exact sim_zi hi hop hd hlt' (by rw [hx.kd, hk]; rfl) hz hzn hrun
        · cases hc
      · rename_i hk
        split at hc
        · rename_i bt be hbt
          split at hc
          · rename_i hbe
            split at hc
            · cases hc
              exact sim_alB hi hop hd hlt' (by rw [hx.kd, hk]; rfl) hz hrun
            · cases hc
          · cases hc
            exact sim_alO hi hop hd hlt' (by rw [hx.kd, hk]; rfl) hz hrun
        · cases hc
          exact sim_alO hi hop hd hlt' (by rw [hx.kd, hk]; rfl) hz hrun
      · cases hc
  · cases hc
theorem op_build (hi : Inv cx G a w A σ) (hx : CxOk cx fi) {t : TypeId} {ps : Array (Nat × Operand)} (hop : o.op = .build t ps) (hc : compOp P pur fi rg o = some ao) (hrun : runA pur call ao A σ = some (A', σ')) : Gives P cx o a w A' σ' := by
  simp only [compOp, hop] at hc
  split at hc
  · rename_i fs z hs hz
    split at hc
    · rename_i places hpl
      split at hc
      · rename_i pl hpp
        obtain ⟨as, h1, rfl, h3⟩ := mk0 hc
        exact sim_build hi hx.kd hx.nt hop hs hz hpl hpp h1 h3 hrun
      · cases hc
    · cases hc
  · cases hc
theorem op_buildSlice (hi : Inv cx G a w A σ) (hx : CxOk cx fi) {t : TypeId} {n : Nat} {ps : Array (Nat × Operand)} (hop : o.op = .buildSlice t n ps) (hc : compOp P pur fi rg o = some ao) (hrun : runA pur call ao A σ = some (A', σ')) : Gives P cx o a w A' σ' := by
  simp only [compOp, hop] at hc
  split at hc
  · split at hc
    · rename_i e hs
      split at hc
      · rename_i ag hcell
        split at hc
        · rename_i hcc
          obtain ⟨rfl, rfl⟩ := hcc
          obtain ⟨as, h1, rfl, h3⟩ := mk0 hc
          cases h1
          exact sim_bse hi hx.kd hx.nt hop hs hcell h3 hrun
        · cases hc
      · cases hc
    · cases hc
  split at hc
  · rename_i e hs
    split at hc
    · rename_i size ag hcell
      split at hc
      · rename_i hcc
        simp only [Bool.and_eq_true, beq_iff_eq, decide_eq_true_eq] at hcc
        obtain ⟨⟨⟨⟨⟨c1, c2⟩, c3⟩, c4⟩, c5⟩, c6⟩ := hcc
        obtain ⟨as, h1, rfl, h3⟩ := mk0 hc
        exact sim_bsl hi hx.kd hx.nt hop hs hcell c1 c2 c3 c4 c5 c6 h1 h3 hrun
      · cases hc
    · cases hc
  · cases hc
theorem comp_slot {s : Nat} (hlt : ¬ fi.nt ≤ s) (hk : (fi.kind s).val = true) : compArgs fi [.tmp s] = some [.slot s] := by
  have hlt' : s < fi.nt := by omega
  simp only [compArgs, compArg]
  cases h : fi.kind s <;> rw [h] at hk <;> first | (simp [SK.val] at hk; done) | simp [hlt']
theorem op_load (hi : Inv cx G a w A σ) (hx : CxOk cx fi) {t : TypeId} {x : Operand} (hop : o.op = .load t x) (hc : compOp P pur fi rg o = some ao) (hrun : runA pur call ao A σ = some (A', σ')) : Gives P cx o a w A' σ' := by
  cases hd : o.dst with
  | none =>
    simp only [compOp, hop, hd, Bool.and_false, Bool.false_eq_true, if_false] at hc
    split at hc
    · rename_i n ag hcell
      split at hc
      · rename_i s
        split at hc
        · cases hc
        · rename_i hlt
          split at hc
          · rename_i hk
            split at hc
            · simp at hc
            obtain ⟨as, h1, rfl, h3⟩ := mk0 hc
            cases h1
            exact sim_ldl hi hx.kd hx.nt hop (by rw [hx.kd]; exact hk) hcell (by rw [hd]; exact h3) (by rw [hd]; exact hrun)
          · split at hc
            · rename_i b hal
              split at hc
              · rename_i hkb
                obtain ⟨as, h1, rfl, h3⟩ := mk0 hc
                cases h1
                exact sim_ldf hi hx.kd hx.nt hop hcell (by rw [hd]; exact h3) (by rw [hd]; exact hrun)
              · cases hc
            · split at hc
              · obtain ⟨as, h1, rfl, h3⟩ := mk0 hc
                exact sim_ldp hi hx.kd hx.nt hop hcell h1 (by rw [hd]; exact h3) (by rw [hd]; exact hrun)
              · split at hc
                · cases hc
                rename_i hn0
                obtain ⟨as, h1, rfl, h3⟩ := mk0 hc
                exact sim_ld hi hx.kd hx.nt hop hcell hn0 h1 (by rw [hd]; exact h3) (by rw [hd]; exact hrun)
      · cases hc
    · cases hc
  | some u =>
    simp only [compOp, hop, hd] at hc
    split at hc
    · rename_i n ag hcell
      split at hc
      · rename_i s
        split at hc
        · cases hc
        · rename_i hlt
          split at hc
          · rename_i hk
            split at hc
            · split at hc
              · rename_i hcc
                simp only [Bool.and_eq_true] at hcc
                cases hc
                obtain ⟨⟨h1, _⟩, rfl⟩ := hcc
                exact sim_ldz hi hx.kd hx.nt hop hd (by rw [hx.kd]; exact hk) hcell h1 hrun
              · cases hc
            obtain ⟨as, h1, rfl, h3⟩ := mk0 hc
            cases h1
            exact sim_ldl hi hx.kd hx.nt hop (by rw [hx.kd]; exact hk) hcell (by rw [hd]; exact h3) (by rw [hd]; exact hrun)
          · split at hc
            · rename_i b hal
              split at hc
              · rename_i hkb
                split at hc
                · rename_i hcc
                  simp only [Bool.and_eq_true, Bool.not_eq_true'] at hcc
                  split at hc
                  · rename_i hpd
                    cases hc
                    obtain ⟨rfl, _⟩ := hcc
                    exact sim_ldfo hi hx.kd hx.nt hop hd hcell hpd hrun
                  · cases hc
                · obtain ⟨as, h1, rfl, h3⟩ := mk0 hc
                  cases h1
                  exact sim_ldf hi hx.kd hx.nt hop hcell (by rw [hd]; exact h3) (by rw [hd]; exact hrun)
              · cases hc
            · split at hc
              · rename_i hcc
                obtain ⟨as, h1, rfl, h3⟩ := mk0 hc
                simp only [Bool.and_eq_true, Bool.not_eq_true'] at hcc
                obtain ⟨rfl, _⟩ := hcc
                exact sim_ldo hi hx.kd hx.nt hop hd hcell h3 h1 hrun
              · split at hc
                · obtain ⟨as, h1, rfl, h3⟩ := mk0 hc
                  exact sim_ldp hi hx.kd hx.nt hop hcell h1 (by rw [hd]; exact h3) (by rw [hd]; exact hrun)
                · split at hc
                  · cases hc
                  rename_i hn0
                  obtain ⟨as, h1, rfl, h3⟩ := mk0 hc
                  exact sim_ld hi hx.kd hx.nt hop hcell hn0 h1 (by rw [hd]; exact h3) (by rw [hd]; exact hrun)
      · cases hc
    · cases hc
theorem op_store (hi : Inv cx G a w A σ) (hx : CxOk cx fi) {t : TypeId} {y x : Operand} (hop : o.op = .store t y x) (hc : compOp P pur fi rg o = some ao) (hrun : runA pur call ao A σ = some (A', σ')) : Gives P cx o a w A' σ' := by
  simp only [compOp, hop] at hc
  split at hc
  · rename_i n ag s hcell hd
    split at hc
    · cases hc
    · rename_i hlt
      split at hc
      · rename_i hk
        obtain ⟨as, h1, rfl⟩ := Option.map_eq_some_iff.1 hc
        exact sim_stl hi hx.kd hop hd (by rw [hx.kd]; exact hk) hcell h1 hrun
      · rename_i hk
        obtain ⟨as, h1, rfl⟩ := Option.map_eq_some_iff.1 hc
        exact sim_sti hi hx.kd hop hd (by rw [hx.kd, hk]; rfl) hcell h1 hrun
      · rename_i hnb _
        have hnb' : cx.kd s ≠ .box := by rw [hx.kd]; exact hnb
        split at hc
        · rename_i b hal
          split at hc
          · rename_i hkb
            split at hc
            · rename_i u
              split at hc
              · rename_i hcc
                simp only [Bool.and_eq_true, beq_iff_eq] at hcc
                cases hc
                exact sim_stfo hi hx.kd hx.nt hop hd hcell hcc.2 hcc.1.2 hrun
              · obtain ⟨as, h1, rfl⟩ := Option.map_eq_some_iff.1 hc
                exact sim_stf hi hx.kd hop hd hcell h1 hrun
            · obtain ⟨as, h1, rfl⟩ := Option.map_eq_some_iff.1 hc
              exact sim_stf hi hx.kd hop hd hcell h1 hrun
          · cases hc
        · split at hc
          · rename_i u
            split at hc
            · rename_i hcc
              simp only [Bool.and_eq_true, beq_iff_eq] at hcc
              cases hc
              exact sim_sto hi hx.kd hx.nt hop hd hnb' hcell hcc.2 hcc.1.2 hrun
            · obtain ⟨as, h1, rfl⟩ := Option.map_eq_some_iff.1 hc
              exact sim_st hi hx.kd hop hd hnb' hcell h1 hrun
          · obtain ⟨as, h1, rfl⟩ := Option.map_eq_some_iff.1 hc
            exact sim_st hi hx.kd hop hd hnb' hcell h1 hrun
  · cases hc
theorem op_binOp (hi : Inv cx G a w A σ) (hx : CxOk cx fi) {op : BinOp} {t yt : TypeId} {x y : Operand} (hop : o.op = .binOp op t x y yt) (hc : compOp P pur fi rg o = some ao) (hrun : runA pur call ao A σ = some (A', σ')) : Gives P cx o a w A' σ' := by
  simp only [compOp, hop] at hc
  split at hc
  · obtain ⟨as, h1, rfl, h3⟩ := mk0 hc
    exact sim_bin hi hx.kd hx.nt hop (by simp) (by simp) h1 h3 hrun
  · obtain ⟨as, h1, rfl, h3⟩ := mk0 hc
    exact sim_bin hi hx.kd hx.nt hop (by simp) (by simp) h1 h3 hrun
  · rename_i ht
    obtain ⟨as, h1, rfl, h3⟩ := mk0 hc
    exact sim_bin hi hx.kd hx.nt hop (fun _ => ht) (by simp) h1 h3 hrun
  · rename_i ps rs v ht
    obtain ⟨as, h1, rfl, h3⟩ := mk0 hc
    exact sim_bin hi hx.kd hx.nt hop (by simp) (fun _ => ⟨ps, rs, v, ht⟩) h1 h3 hrun
  · rename_i e ht
    split at hc
    · obtain ⟨as, h1, rfl, h3⟩ := mk0 hc
      exact sim_snil hi hx.kd hx.nt (ne := false) rfl hop ht h1 h3 hrun
    · obtain ⟨as, h1, rfl, h3⟩ := mk0 hc
      exact sim_snil hi hx.kd hx.nt (ne := true) rfl hop ht h1 h3 hrun
    · obtain ⟨as, h1, rfl, h3⟩ := mk0 hc
      obtain ⟨vs, rs, _, hs, _, _⟩ := runX rfl hrun
      cases vs <;> simp [semP] at hs
  · obtain ⟨as, h1, rfl, h3⟩ := mk0 hc
    obtain ⟨vs, rs, _, hs, _, _⟩ := runX rfl hrun
    cases vs <;> simp [semP] at hs
theorem op_convert (hi : Inv cx G a w A σ) (hx : CxOk cx fi) {s t : TypeId} {x : Operand} (hop : o.op = .convert s t x) (hc : compOp P pur fi rg o = some ao) (hrun : runA pur call ao A σ = some (A', σ')) : Gives P cx o a w A' σ' := by
  simp only [compOp, hop] at hc
  split at hc
  · rename_i hs ht
    obtain ⟨as, h1, rfl, h3⟩ := mk0 hc
    exact sim_cvt hi hx.kd hx.nt hop hs ht h1 h3 hrun
  · rename_i e hs ht
    split at hc
    · rename_i he hcell
      obtain ⟨as, h1, rfl, h3⟩ := mk0 hc
      exact sim_cvb hi hx.kd hx.nt hop hs ht he h1 h3 hrun
    · cases hc
  · rename_i e' e hs ht
    split at hc
    · rename_i u d he hd
      split at hc
      · rename_i hst
        rw [hd] at hc
        obtain ⟨as, h1, rfl, h3, h4, h5⟩ := mk1 hc
        exact sim_cvi hi hx.kd hx.nt hop hst hd hs ht he h1 h3 h4 h5 hrun
      · cases hc
    · cases hc
  · cases hc
theorem op_insert (hi : Inv cx G a w A σ) (hx : CxOk cx fi) {t : TypeId} {m : Operand} {k x : Operand} (hop : o.op = .insert t m k x) (hc : compOp P pur fi rg o = some ao) (hrun : runA pur call ao A σ = some (A', σ')) : Gives P cx o a w A' σ' := by
  cases m with
  | tmp m =>
    simp only [compOp, hop] at hc
    split at hc
    · rename_i kt et keys s ht hkm hps hd
      split at hc
      · rename_i ik m' key hkt hks
        split at hc
        · rename_i hcc
          obtain ⟨c1, rfl, c3, c4⟩ := hcc
          obtain ⟨as, h1, rfl⟩ := Option.map_eq_some_iff.1 hc
          exact sim_ins hi hx.kd hop hd ht hkt (.inl ⟨ik, rfl⟩) c1 (by rw [hx.kd]; exact hkm) (by rw [hx.kd]; exact hks) h1 hrun
        · cases hc
      · rename_i m' key hkt hks
        split at hc
        · rename_i hcc
          obtain ⟨c1, rfl, c3, c4⟩ := hcc
          obtain ⟨as, h1, rfl⟩ := Option.map_eq_some_iff.1 hc
          exact sim_ins hi hx.kd hop hd ht hkt (.inr rfl) c1 (by rw [hx.kd]; exact hkm) (by rw [hx.kd]; exact hks) h1 hrun
        · cases hc
      · cases hc
    · cases hc
  | _ => simp [compOp, hop] at hc
theorem op_makeMap (hi : Inv cx G a w A σ) (hx : CxOk cx fi) {t : TypeId} {r : Option Operand} (hop : o.op = .makeMap t r) (hc : compOp P pur fi rg o = some ao) (hrun : runA pur call ao A σ = some (A', σ')) : Gives P cx o a w A' σ' := by
  cases r with
  | some r => simp [compOp, hop] at hc
  | none =>
    simp only [compOp, hop] at hc
    split at hc
    · rename_i s kt et hd ht
      split at hc
      · rename_i keys hk
        split at hc
        · rename_i hlt
          cases hc
          rw [hd] at hrun
          exact sim_mkm hi hx.kd hop hd (by rw [hx.nt]; exact hlt) (by rw [hx.kd]; exact hk) hrun
        · cases hc
      · cases hc
    · cases hc
theorem op_lookup (hi : Inv cx G a w A σ) (hx : CxOk cx fi) {t : TypeId} {x i : Operand} {ok : Bool} (hop : o.op = .lookup t x i ok) (hc : compOp P pur fi rg o = some ao) (hrun : runA pur call ao A σ = some (A', σ')) : Gives P cx o a w A' σ' := by
  simp only [compOp, hop] at hc
  split at hc
  · rename_i kt et ht
    split at hc
    · rename_i ik z hkt hz
      obtain ⟨as, h1, rfl, h3⟩ := mk0 hc
      exact sim_look hi hx.kd hx.nt hop ht hkt (.inl ⟨ik, rfl⟩) hz h1 h3 hrun
    · rename_i z hkt hz
      obtain ⟨as, h1, rfl, h3⟩ := mk0 hc
      exact sim_look hi hx.kd hx.nt hop ht hkt (.inr rfl) hz h1 h3 hrun
    · cases hc
  · cases hc
theorem op_indexAddr (hi : Inv cx G a w A σ) (hx : CxOk cx fi) {t : TypeId} {x i : Operand} (hop : o.op = .indexAddr t x i) (hc : compOp P pur fi rg o = some ao) (hrun : runA pur call ao A σ = some (A', σ')) : Gives P cx o a w A' σ' := by
  simp only [compOp, hop] at hc
  split at hc
  · rename_i e ht
    split at hc
    · rename_i size ag hcell
      split at hc
      · obtain ⟨as, h1, rfl, h3⟩ := mk0 hc
        exact sim_idx hi hx.kd hx.nt hop ht hcell h1 h3 hrun
      · cases hc
    · cases hc
  · cases hc
theorem op_cut0 (hi : Inv cx G a w A σ) (hx : CxOk cx fi) {t : TypeId} {x : Operand} {k1 k2 : IntKind} {p q : Int} (hop : o.op = .slice t x none (some (.const (.int k1 p))) (some (.const (.int k2 q)))) (hc : compOp P pur fi rg o = some ao) (hrun : runA pur call ao A σ = some (A', σ')) : Gives P cx o a w A' σ' := by
  simp only [compOp, hop] at hc
  split at hc
  case isFalse => cases hc
  rename_i hpq
  obtain ⟨rfl, rfl⟩ := hpq
  split at hc
  · rename_i e ht
    split at hc
    · rename_i ag hcell
      obtain ⟨as, h1, rfl, h3⟩ := mk0 hc
      exact sim_cut0 hi hx.kd hx.nt hop ht hcell h1 h3 hrun
    · cases hc
  · cases hc
theorem op_makeSlice (hi : Inv cx G a w A σ) (hx : CxOk cx fi) {t : TypeId} {l c : Operand} (hop : o.op = .makeSlice t l c) (hc : compOp P pur fi rg o = some ao) (hrun : runA pur call ao A σ = some (A', σ')) : Gives P cx o a w A' σ' := by
  simp only [compOp, hop] at hc
  split at hc
  · rename_i e d ht hd
    split at hc
    · rename_i it z hit hz
      split at hc
      · rename_i hcc
        rw [hd] at hc
        obtain ⟨as, h1, rfl, h3⟩ := mk0 hc
        exact sim_mks hi hx.kd hx.nt hop hd ht hit hz hcc.1 hcc.2.1 hcc.2.2 h1 h3 hrun
      · cases hc
    · cases hc
  · cases hc
theorem op_slice (hi : Inv cx G a w A σ) (hx : CxOk cx fi) {t : TypeId} {x : Operand} {lo hi' mx : Option Operand} (hop : o.op = .slice t x lo hi' mx) (hc : compOp P pur fi rg o = some ao) (hrun : runA pur call ao A σ = some (A', σ')) : Gives P cx o a w A' σ' := by
  cases mx with
  | some mx =>
    have hbad : ∃ k1 p k2 q, lo = none ∧ hi' = some (.const (.int k1 p)) ∧ mx = .const (.int k2 q) := by
      simp only [compOp, hop] at hc
      split at hc <;> simp_all
    obtain ⟨k1, p, k2, q, rfl, rfl, rfl⟩ := hbad
    exact op_cut0 hi hx hop hc hrun
  | none =>
    simp only [compOp, hop] at hc
    split at hc
    · rename_i ht
      split at hc
      · rename_i as hcs
        obtain ⟨as', h1, rfl, h3⟩ := mk0 hc
        cases h1
        exact sim_ssl hi hx.kd hx.nt hop ht hcs h3 hrun
      · cases hc
    · rename_i e ht
      split at hc
      · rename_i size ag as hcell hcs
        split at hc
        · obtain ⟨as', h1, rfl, h3⟩ := mk0 hc
          cases h1
          exact sim_vsl hi hx.kd hx.nt hop ht hcell hcs h3 hrun
        · cases hc
      · cases hc
    · cases hc
theorem sim_fa' (hi : Inv cx G a w A σ) (hx : CxOk cx fi) {t : TypeId} {s u f : Nat} (hop : o.op = .fieldAddr t (.tmp s) f) (hd : o.dst = some u)
    {fs : Array Field} {fl : Field} (hs : P.underlying t = some (.struct fs)) (hf : fs[f]? = some fl) {n : Nat} {ag : Bool} (hn : cellsT P fl.type = some (n, ag)) (hn0 : n ≠ 0) (hlt : ¬ fi.nt ≤ s) (hnb : fi.kind s ≠ .box)
    (hal : ∀ b, fi.alias s = some b → fi.alias u = some b) (hpd : isPlain fi u = true) (hrun : runA pur call { dst := some u, k := .p (.fa fl.offset n ag), args := [.slot s] } A σ = some (A', σ')) : Gives P cx o a w A' σ' := by
  by_cases hl : ∃ d' off, A.get s = some (.lref d' off)
  · obtain ⟨d', off, hg⟩ := hl
    have hal1 := (lref_al hi hg).2.1
    rw [hx.al] at hal1
    exact sim_fal2 hi hx.kd hx.nt hx.al hop hd hs hf hn hn0 hal1 (hal _ hal1) hpd hg hrun
  · have hval : (fi.kind s).val = true := by
      obtain ⟨vs, rs, he, hsem, _, _⟩ := runX rfl hrun
      obtain ⟨p, qs, rfl, hp, hq⟩ := evalArgs_cons he
      cases hq
      obtain ⟨hg, _⟩ := slot_get hp
      have hsl := hi.slot s p hg
      rw [← hx.kd]
      cases hk : cx.kd s with
      | box => exact absurd (by rw [← hx.kd]; exact hk) hnb
      | mapb keys =>
        have := ((SlotOk_mapb hk).1 hsl).1
        subst this
        simp [semP, faV] at hsem
      | ent m key =>
        obtain ⟨_, _, _, _, rfl, _⟩ := (SlotOk_ent hk).1 hsl
        simp [semP, faV] at hsem
      | _ => rfl
    refine sim_fa hi hx.kd hx.nt hop hs hf hn hn0 ?_ (comp_slot hlt hval) (by rw [hd]; exact hpd) (by rw [hd]; exact hrun)
    rintro p d off rfl y hy he
    have := comp_slot hlt hval
    simp only [compArgs, hy] at this
    cases this
    exact hl ⟨d, off, (slot_get he).1⟩
theorem op_fieldAddr (hi : Inv cx G a w A σ) (hx : CxOk cx fi) {t : TypeId} {x : Operand} {f : Nat} (hop : o.op = .fieldAddr t x f) (hc : compOp P pur fi rg o = some ao) (hrun : runA pur call ao A σ = some (A', σ')) : Gives P cx o a w A' σ' := by
  simp only [compOp, hop] at hc
  split at hc
  · rename_i fs ht
    split at hc
    · rename_i fl hf
      split at hc
      · rename_i n ag hcell
        split at hc
        · cases hc
        · rename_i hn0
          split at hc
          · rename_i s u hd
            split at hc
            · cases hc
            · rename_i hlt
              split at hc
              · rename_i hk
                split at hc
                · rename_i hal
                  obtain ⟨as, h1, rfl, h3⟩ := mk0 hc
                  cases h1
                  rw [hd] at h3 hrun
                  exact sim_fal hi hx.kd hx.nt hx.al hop hd ht hf hcell hn0 (by rw [hx.kd]; exact hk) hal h3 hrun
                · cases hc
              · rename_i hnb
                split at hc
                · rename_i b hal
                  split at hc
                  · rename_i hcc
                    obtain ⟨as, h1, rfl, h3⟩ := mk0 hc
                    cases h1
                    rw [hd] at h3 hrun
                    exact sim_fa' hi hx hop hd ht hf hcell hn0 hlt hnb (fun b' hb' => by rw [hal] at hb'; cases hb'; exact hcc.1) h3 hrun
                  · cases hc
                · rename_i hal
                  obtain ⟨as, h1, rfl, h3⟩ := mk0 hc
                  cases h1
                  rw [hd] at h3 hrun
                  exact sim_fa' hi hx hop hd ht hf hcell hn0 hlt hnb (fun b' hb' => by rw [hal] at hb'; cases hb') h3 hrun
          · cases hc
      · cases hc
    · cases hc
  · cases hc
theorem op_call {ro : Option Nat} {n : Nat} {K : Act → World → Prop} {Q : Exit → Act → World → Prop} (hS : Sound P call) (hi : Inv cx G a w A σ) (hx : CxOk cx fi) {c : Call} (hop : o.op = .call c) (hc : compOp P pur fi rg o = some ao)
    (hrun : runA pur call ao A σ = some (A', σ')) (hk : ∀ a' w', Sim cx a' w' A' σ' → Kept o.dst a a' → K a' w') : o.wpIn (FW ro) n P a w K Q := by
  have hnd : ∀ c', o.op ≠ .defer c' := by simp [hop]
  simp only [compOp, hop] at hc
  split at hc
  · rename_i f hcal
    split at hc
    · obtain ⟨as, h1, rfl, h3⟩ := mk0 hc
      exact sim_c hS hi hx.kd hx.nt hop hcal h1 h3 hrun hk
    split at hc
    · rename_i hm
      obtain ⟨d, hd⟩ := Option.isSome_iff_exists.1 hm.2
      obtain ⟨as, h1, rfl, h3⟩ := mk0 hc
      exact sim_callz hS hi hx.kd hx.nt hop hcal hd h1 h3 hrun hk
    · obtain ⟨as, h1, rfl, h3⟩ := mk0 hc
      exact sim_call hS hi hx.kd hx.nt hop hcal h1 h3 hrun hk
  · rename_i x _ hcal
    obtain ⟨as, h1, rfl, h3⟩ := mk0 hc
    exact sim_calld hS hi hx.kd hx.nt hop hcal h1 h3 hrun hk
  · rename_i hcal
    split at hc
    · rename_i ht
      obtain ⟨as, h1, rfl, h3⟩ := mk0 hc
      exact (sim_len hi hx.kd hx.nt hop hcal (.inl ⟨rfl, ht⟩) h1 h3 hrun).wp hnd hk
    · rename_i e ht
      obtain ⟨as, h1, rfl, h3⟩ := mk0 hc
      exact (sim_len hi hx.kd hx.nt hop hcal (.inr ⟨rfl, e, ht⟩) h1 h3 hrun).wp hnd hk
    · cases hc
  · rename_i hcal
    split at hc
    · rename_i e ht
      obtain ⟨as, h1, rfl, h3⟩ := mk0 hc
      exact (sim_cap0 hi hx.kd hx.nt hop hcal ⟨e, ht⟩ h1 h3 hrun).wp hnd hk
    · cases hc
  · rename_i hcal
    split at hc
    · split at hc
      · rename_i s x y z d htys hargs hd
        have htys' : c.argTypes = #[s, x] := by apply Array.toList_inj.1; exact htys
        have hargs' : c.args = #[y, z] := by apply Array.toList_inj.1; exact hargs
        split at hc
        · rename_i e e' hs hxx
          split at hc
          · rename_i it hit
            split at hc
            · rename_i hcc
              rw [hd] at hc
              obtain ⟨as, h1, rfl, h3⟩ := mk0 hc
              exact (sim_appA hi hx.kd hx.nt hop hcal hargs' htys' hd hs ⟨e', hxx⟩ hit hcc.1 hcc.2.1 hcc.2.2 h1 h3 hrun).wp hnd hk
            · cases hc
          · cases hc
        · rename_i e k' hs hxx
          split at hc
          · rename_i it zp hit hz
            split at hc
            · rename_i hcc
              rw [hd] at hc
              obtain ⟨as, h1, rfl, h3⟩ := mk0 hc
              exact (sim_appZ hi hx.kd hx.nt hop hcal hargs' htys' hd hs hxx hit hz hcc.1 hcc.2.1 hcc.2.2 h1 h3 hrun).wp hnd hk
            · cases hc
          · cases hc
        · cases hc
      · cases hc
    split at hc
    · rename_i s x u y d htys hargs hd
      have htys' : c.argTypes = #[s, x] := by apply Array.toList_inj.1; exact htys
      have hargs' : c.args = #[.tmp u, y] := by apply Array.toList_inj.1; exact hargs
      split at hc
      · rename_i e e' hs hxx
        split at hc
        · rename_i it hit
          split at hc
          · rename_i hcc
            rw [hd] at hc
            obtain ⟨as, h1, rfl, h3, h4, h5⟩ := mk1 hc
            exact (sim_app hi hx.kd hx.nt hop hcal hargs' htys' hd hs (.inl ⟨e', hxx⟩) hit hcc.1 hcc.2.1 hcc.2.2 h1 h3 h4 h5 hrun).wp hnd hk
          · cases hc
        · cases hc
      · rename_i e hs hxx
        split at hc
        · rename_i it hit
          split at hc
          · rename_i hcc
            rw [hd] at hc
            obtain ⟨as, h1, rfl, h3, h4, h5⟩ := mk1 hc
            exact (sim_app hi hx.kd hx.nt hop hcal hargs' htys' hd hs (.inr hxx) hit (by omega) hcc.2.1 hcc.2.2 h1 h3 h4 h5 hrun).wp hnd hk
          · cases hc
        · cases hc
      · cases hc
    · cases hc
  · rename_i hcal
    split at hc
    · obtain ⟨as, h1, rfl, h3⟩ := mk0 hc
      exact (sim_min hi hx.kd hx.nt hop hcal h1 h3 hrun).wp hnd hk
    · cases hc
  · rename_i hcal
    split at hc
    · obtain ⟨as, h1, rfl, h3⟩ := mk0 hc
      exact (sim_max hi hx.kd hx.nt hop hcal h1 h3 hrun).wp hnd hk
    · cases hc
  · cases hc
theorem op_sound {ro : Option Nat} {n : Nat} {K : Act → World → Prop} {Q : Exit → Act → World → Prop} (hS : Sound P call) (hi : Inv cx G a w A σ) (hx : CxOk cx fi) (hc : compOp P pur fi rg o = some ao)
    (hrun : runA pur call ao A σ = some (A', σ')) (hk : ∀ a' w', Sim cx a' w' A' σ' → Kept o.dst a a' → K a' w') : o.wpIn (FW ro) n P a w K Q := by
  have gv : Gives P cx o a w A' σ' → (∀ c', o.op ≠ .defer c') → o.wpIn (FW ro) n P a w K Q := fun h hd => h.wp hd hk
  cases hop : o.op with
  | move x => exact gv (op_move hi hx hop hc hrun) (by simp [hop])
  | assign x => exact gv (op_assign hi hx hop hc hrun) (by simp [hop])
  | pick c x y =>
    refine gv ?_ (by simp [hop])
    simp only [compOp, hop] at hc
    obtain ⟨as, h1, rfl, h3⟩ := mk0 hc
    exact sim_pick hi hx.kd hx.nt hop h1 h3 hrun
  | box t x => exact gv (op_box hi hx hop hc hrun) (by simp [hop])
  | alloc t => exact gv (op_alloc hi hx hop hc hrun) (by simp [hop])
  | build t ps => exact gv (op_build hi hx hop hc hrun) (by simp [hop])
  | buildSlice t n ps => exact gv (op_buildSlice hi hx hop hc hrun) (by simp [hop])
  | load t x => exact gv (op_load hi hx hop hc hrun) (by simp [hop])
  | store t x y => exact gv (op_store hi hx hop hc hrun) (by simp [hop])
  | nilCheck x =>
    refine gv ?_ (by simp [hop])
    simp only [compOp, hop] at hc
    obtain ⟨as, h1, rfl, h3⟩ := mk0 hc
    exact sim_chk hi hx.kd hx.nt hop h1 h3 hrun
  | binOp op t x y yt => exact gv (op_binOp hi hx hop hc hrun) (by simp [hop])
  | unOp op t x =>
    refine gv ?_ (by simp [hop])
    cases op with
    | not =>
      simp only [compOp, hop] at hc
      obtain ⟨as, h1, rfl, h3⟩ := mk0 hc
      exact sim_not hi hx.kd hx.nt hop h1 h3 hrun
    | _ => simp [compOp, hop] at hc
  | convert s t x => exact gv (op_convert hi hx hop hc hrun) (by simp [hop])
  | makeFunc fn first cap =>
    refine gv ?_ (by simp [hop])
    cases fn with
    | func f =>
      simp only [compOp, hop] at hc
      obtain ⟨as, h1, rfl, h3⟩ := mk0 hc
      exact sim_mkf hi hx.kd hx.nt hop h1 h3 hrun
    | _ => simp [compOp, hop] at hc
  | makeMap t r => exact gv (op_makeMap hi hx hop hc hrun) (by simp [hop])
  | makeSlice t l c => exact gv (op_makeSlice hi hx hop hc hrun) (by simp [hop])
  | insert t m k x => exact gv (op_insert hi hx hop hc hrun) (by simp [hop])
  | lookup t x i ok => exact gv (op_lookup hi hx hop hc hrun) (by simp [hop])
  | indexAddr t x i => exact gv (op_indexAddr hi hx hop hc hrun) (by simp [hop])
  | index t x i =>
    refine gv ?_ (by simp [hop])
    simp only [compOp, hop] at hc
    split at hc
    · rename_i ht
      obtain ⟨as, h1, rfl, h3⟩ := mk0 hc
      exact sim_sidx hi hx.kd hx.nt hop ht h1 h3 hrun
    · cases hc
  | slice t x lo hi' mx => exact gv (op_slice hi hx hop hc hrun) (by simp [hop])
  | fieldAddr t x f => exact gv (op_fieldAddr hi hx hop hc hrun) (by simp [hop])
  | field t x f =>
    refine gv ?_ (by simp [hop])
    simp only [compOp, hop] at hc
    split at hc
    · rename_i fs hs
      split at hc
      · rename_i fl hf
        split at hc
        · rename_i n ag hn
          obtain ⟨as, h1, rfl, h3⟩ := mk0 hc
          exact sim_fld hi hx.kd hx.nt hop hs hf hn h1 h3 hrun
        · cases hc
      · cases hc
    · cases hc
  | extract x i =>
    refine gv ?_ (by simp [hop])
    simp only [compOp, hop] at hc
    obtain ⟨as, h1, rfl, h3⟩ := mk0 hc
    exact sim_ext hi hx.kd hx.nt hop h1 h3 hrun
  | call c => exact op_call hS hi hx hop hc hrun hk
  | panic x =>
    simp only [compOp, hop] at hc
    obtain ⟨as, h1, rfl, h3⟩ := mk0 hc
    obtain ⟨vs, rs, _, hs, _, _⟩ := runX rfl hrun
    cases vs <;> simp [semP] at hs
  | makeInterface t x =>
    simp only [compOp, hop] at hc
    obtain ⟨as, h1, rfl, h3⟩ := mk0 hc
    obtain ⟨vs, rs, _, hs, _, _⟩ := runX rfl hrun
    cases vs <;> simp [semP] at hs
  | _ => simp [compOp, hop] at hc
end
end Go.Abs
