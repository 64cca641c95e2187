/- A part of the proof: A27 A28. -/
import Derived.Test.YtfahhgdeociahaaGreatDoorKg

set_option linter.unusedVariables false
set_option linter.unusedSimpArgs false
namespace Go.Abs
open Go.RowKit
def AxE (I : Imm) (bl : Bl) (w : World) (vs : List Value) (ps : List PV) : Prop :=
  vs.length = ps.length ∧ ∀ (i : Nat) (p : PV), ps[i]? = some p → ∃ v, vs[i]? = some v ∧ RepT I bl w v p
theorem AxE.append {I : Imm} {bl : Bl} {w : World} {vs ws : List Value} {ps qs : List PV} (h : AxE I bl w vs ps) (k : AxE I bl w ws qs) : AxE I bl w (vs ++ ws) (ps ++ qs) := by
  refine ⟨by simp [h.1, k.1], fun i p hp => ?_⟩
  by_cases hi : i < ps.length
  · rw [List.getElem?_append_left hi] at hp
    obtain ⟨v, h1, h2⟩ := h.2 i p hp;exact ⟨v, by rw [List.getElem?_append_left (by rw [h.1]; exact hi)]; exact h1, h2⟩
  · rw [List.getElem?_append_right (by omega)] at hp
    obtain ⟨v, h1, h2⟩ := k.2 _ p hp;exact ⟨v, by rw [List.getElem?_append_right (by rw [h.1]; omega), h.1]; exact h1, h2⟩
theorem AxE.Aq0 {I : Imm} {bl : Bl} {w : World} {vs : List Value} {ps : List PV} (h : AxE I bl w vs ps) : AxE I bl w vs (ps.map PV.Aq0) := by
  refine ⟨by simp [h.1], fun i p hp => ?_⟩
  rw [List.getElem?_map] at hp
  obtain ⟨q, hq, rfl⟩ := Option.map_eq_some_iff.1 hp;obtain ⟨v, h1, h2⟩ := h.2 i q hq;exact ⟨v, h1, h2.Aq0⟩
structure Pre (K : Nat → Prop) (G : Gh) (w : World) (σ : Sto) : Prop where
  lt : ∀ b x, G.I b x → b < w.heap.size
  Klt : ∀ b, K b → b < w.heap.size
  own : ∀ b tag, G.ω b = some tag → b < w.heap.size ∧ ¬ K b
  obj : ∀ (id : Nat) (cs : List PV), σ[id]? = some cs → ObjOk G w id cs
  len : G.bl.l.length = σ.length
  abl : ∀ id g a, G.bl.ab id g = some a → id < σ.length
structure Aft (K : Nat → Prop) (G : Gh) (w : World) (σ' : Sto) (G' : Gh) (w' : World) : Prop where
  keep : ∀ b, K b → w'.heap[b]? = w.heap[b]?
  same : Same G.I w w'
  sub : ∀ b x, G.I b x → G'.I b x
  new : ∀ b x, G'.I b x → G.I b x ∨ ¬ K b
  lt : ∀ b x, G'.I b x → b < w'.heap.size
  own : ∀ b tag, G'.ω b = some tag → b < w'.heap.size ∧ ¬ K b
  grow : w.heap.size ≤ w'.heap.size
  bl : G.bl.le G'.bl
  os : w'.os = w.os
  tape : w'.tape = w.tape
  output : w'.output = w.output
  obj : ∀ (id : Nat) (cs : List PV), σ'[id]? = some cs → ObjOk G' w' id cs
  len : G'.bl.l.length = σ'.length
  abl : ∀ id g a, G'.bl.ab id g = some a → id < σ'.length
def BqO (P : Program) (f : FuncId) : Prop := ∃ fn, P.funcs[f]? = some fn ∧ (fn.name == "runtime.NumGoroutine") = false ∧ fn.body.isNone = false
def Aw4 (P : Program) (f : FuncId) (args : List PV) (σ : Sto) (r : PV) (σ' : Sto) : Prop :=
  BqO P f ∧ ∀ (n : Nat) (vs : Array Value) (w : World) (G : Gh) (K : Nat → Prop), AxE G.I G.bl w vs.toList args → Pre K G w σ →
    CallsIn (FW none) n P f vs w fun e w' => ∃ v G', e = .returned v ∧ RepT G'.I G'.bl w' v r ∧ Aft K G w σ' G' w'
def Sound (P : Program) (call : Caller) : Prop :=
  ∀ f args σ r σ', (∀ p ∈ args, p.Aq0 = p) → call f args σ = some (r, σ') → Aw4 P f args σ r σ'
theorem BjI (p : PV) : p.Aq0.Aq0 = p.Aq0 := by
  cases p with
  | agg cs =>
    simp only [PV.Aq0, List.map_map, PV.agg.injEq];apply List.map_congr_left;intro x _;cases x <;> rfl
  | _ => rfl
section
variable {P : Program} {pur : FuncId → Bool} {call : Caller} {fi : FI} {cx : Cx} {G : Gh} {a : Act} {w : World} {A A' : Frm} {σ σ' : Sto}
theorem callsIn_FW {ro ro' : Option Nat} {n m : Nat} {f : FuncId} {vs : Array Value} {R : Ending → World → Prop} (h : CallsIn (FW ro) n P f vs w R) : CallsIn (FW ro') m P f vs w R :=
  ⟨trivial, fun cs _ => h.2 cs (fun _ hd => by cases hd)⟩
theorem BqR {ro : Option Nat} {n : Nat} {o : Oper} {c : Call} {K : Act → World → Prop} {Q : Exit → Act → World → Prop} (ho : o.op = .call c) {x : Operand} (hcal : c.callee = .value x) {f : FuncId} {fs cs : Array Value} (hx : a.eval x = .func (.func f) fs cs)
    (hent : BqO P f) (h : CallsIn (FW none) 0 P f (fs ++ c.args.map a.eval ++ cs) w fun e w' => ∃ v, e = .returned v ∧ K (a.put o.dst v) w') : o.wpIn (FW ro) n P a w K Q := by
  obtain ⟨fn, hf, hname, hbody⟩ := hent;refine ⟨fun _ _ => trivial, ?_⟩
  rw [Oper.semAt_eq _ _ _ (by simp [ho])]
  have hrun : (execOp a.eval o).run P w = .ok (.enter f (fs ++ c.args.map a.eval ++ cs)) w := by
    have h1 : ¬ fn.name = "runtime.NumGoroutine" := by simpa using hname
    have h2 : ¬ fn.body = none := fun e => by rw [e] at hbody; cases hbody
    simp [execOp, ho, resolve, hcal, hx, Deferred.ofValue, invoke, callFunc, hf, h1, h2]
  rw [hrun, Oper.uponIn_enter];refine ⟨fun h => by simp [FW] at h, (callsIn_FW h).mono fun e w' => ?_⟩
  rintro ⟨v, rfl, hk⟩
  exact hk
theorem ObjOk.congr {G' : Gh} {id : Nat} {cs : List PV} (hI : G'.I = G.I) (hω : ∀ b i j, G.ω b = some (.obj i j) → G'.ω b = some (.obj i j)) (hbl : G'.bl = G.bl) (h : ObjOk G w id cs) : ObjOk G' w id cs := by
  obtain ⟨b, h1, hh⟩ := h;refine ⟨b, by rw [hbl]; exact h1, ?_⟩
  rcases hh with ⟨h2, h3, cs', elem, h4, h5, h6⟩ | ⟨t, e, l, rfl, h2, h3, p, v, hp, h4, h5, h6⟩ | h | ⟨gen, size, es, rfl, b1, base, n, cs, elem, g1, g2, g3, g4, g5, g6, g7, g8, g9⟩
  rotate_left
  · refine .inr (.inl ⟨t, e, l, rfl, hω _ _ _ h2, by rw [hI]; exact h3, p, v, hp, h4, h5, fun g hg => ?_⟩)
    obtain ⟨e1, e2, e3⟩ := h6 g hg;exact ⟨e1, hω _ _ _ e2, by rw [hI]; exact e3⟩
  · exact .inr (.inr (.inl h))
  · exact .inr (.inr (.inr ⟨gen, size, es, rfl, b1, base, n, cs, elem, by rw [hbl]; exact g1, by rw [hbl]; exact g2, hω _ _ _ g3, by rw [hI]; exact g4, g5, g6, g7, g8, by rw [hI, hbl]; exact g9⟩))
  refine .inl ⟨hω _ _ _ h2, by rw [hI]; exact h3, cs', elem, h4, h5, fun j p hp => ?_⟩
  rcases h6 j p hp with ⟨hr, ho⟩ | hself
  rotate_left
  · exact .inr hself
  refine .inl ⟨by rw [hI, hbl]; exact hr, ?_⟩
  unfold OwnOk at ho ⊢;split
  · rename_i size es;obtain ⟨b', off, cap, cs2, elem2, e1, e2, e3, e4, e5, e6, e7, e8⟩ := ho;exact ⟨b', off, cap, cs2, elem2, e1, hω _ _ _ e2, by rw [hI]; exact e3, by rw [hI]; exact e4, e5, e6, e7, e8⟩
  · trivial
def Gh.lend (G : Gh) : Gh := ⟨G.I, fun b => match G.ω b with | some (.obj i j) => some (.obj i j) | _ => none, G.bl⟩
def Gh.lentK (G : Gh) (w : World) (b : Nat) : Prop := b < w.heap.size ∧ ∀ i j, G.ω b ≠ some (.obj i j)
def Gh.back (G : Gh) (w : World) (G1 : Gh) : Gh := ⟨G1.I, fun b => match G1.ω b with | some (.obj i j) => some (.obj i j) | _ => if b < w.heap.size then (match G.ω b with | some (.slot t j) => some (.slot t j) | _ => none) else none, G1.bl⟩
theorem lend_obj {b i : Nat} {j : Option Nat} : G.lend.ω b = some (.obj i j) ↔ G.ω b = some (.obj i j) := by
  simp only [Gh.lend];split
  · rename_i i' j' h; rw [h]
  · rename_i h; constructor
    · intro h'; cases h'
    · intro h'; exact absurd h' (h i j)
theorem pre_lend (hi : Inv cx G a w A σ) : Pre (G.lentK w) G.lend w σ := by
  refine ⟨hi.base.lt, fun b h => h.1, fun b tag h => ?_, fun id cs h => ObjOk.congr (G := G) (G' := G.lend) rfl (fun b i j h => lend_obj.2 h) rfl (hi.obj id cs h), hi.len, hi.abl⟩
  have : ∃ i j, tag = .obj i j := by
    simp only [Gh.lend] at h
    split at h
    · cases h; exact ⟨_, _, rfl⟩
    · cases h
  obtain ⟨i, j, rfl⟩ := this;rw [lend_obj] at h;exact ⟨(hi.base.own b _ h).1, fun hk => hk.2 i j h⟩
theorem back_obj {G1 : Gh} {b i : Nat} {j : Option Nat} (h : G1.ω b = some (.obj i j)) : (G.back w G1).ω b = some (.obj i j) := by
  simp only [Gh.back, h]
theorem K_lent (hi : Inv cx G a w A σ) {b : Nat} (h : cx.K b) : G.lentK w b :=
  ⟨Nat.lt_of_lt_of_le (hi.base.Klt b h) hi.base.grow, fun i j he => (hi.base.own b _ he).2 h⟩
theorem ext_back {G1 : Gh} {w' : World} {σ1 : Sto} (ha : Aft (G.lentK w) G.lend w σ1 G1 w') (hi : Inv cx G a w A σ) : Ext (fun tg => ∃ i j, tg = .obj i j) G (G.back w G1) w w' := by
  refine ⟨ha.sub, ha.same, ha.bl, fun id _ hX => absurd ⟨id, none, rfl⟩ (hX none), fun b tag h hX => ?_⟩
  cases tag with
  | obj i j => exact absurd ⟨i, j, rfl⟩ hX
  | slot t j =>
    have hK : G.lentK w b := ⟨(hi.base.own b _ h).1, fun i j he => by rw [h] at he; cases he⟩
    have hn : G1.ω b = none := by
      cases hg : G1.ω b with
      | none => rfl
      | some tag => exact absurd hK (ha.own b tag hg).2
    refine ⟨by simp only [Gh.back, hn, hK.1, if_true, h], ha.keep b hK, fun x hx => ?_⟩
    rcases ha.new b x hx with h' | h'
    · exact h'
    · exact absurd hK h'
theorem base_back {G1 : Gh} {w' : World} {σ1 : Sto} (ha : Aft (G.lentK w) G.lend w σ1 G1 w') (hi : Inv cx G a w A σ) : Base cx (G.back w G1) w' := by
  refine ⟨fun b h => ?_, hi.base.same.trans ha.same hi.base.sub, fun b x h => ha.sub b x (hi.base.sub b x h), fun b x h => ?_, ha.lt, fun b tag h => ?_, hi.base.Klt, Nat.le_trans hi.base.grow ha.grow, hi.base.bl.trans ha.bl, ha.os.trans hi.base.os, ha.tape.trans hi.base.tape, ha.output.trans hi.base.output⟩
  · rw [ha.keep b (K_lent hi h)]; exact hi.base.keep b h
  · rcases ha.new b x h with h' | h'
    · exact hi.base.new b x h'
    · exact .inr fun hk => h' (K_lent hi hk)
  · simp only [Gh.back] at h
    split at h
    · rename_i i j hg;cases h;have := ha.own b _ hg;exact ⟨this.1, fun hk => this.2 (K_lent hi hk)⟩
    · split at h
      · rename_i hlt
        split at h
        · rename_i t j hg;cases h;exact ⟨Nat.lt_of_lt_of_le hlt ha.grow, (hi.base.own b _ hg).2⟩
        · cases h
      · cases h
theorem inv_back {G1 : Gh} {w' : World} {v : Value} {r : PV} (hi : Inv cx G a w A σ) (ha : Aft (G.lentK w) G.lend w σ' G1 w') (dst : Option Nat) (hdst : ∀ d, dst = some d → d < cx.nt ∧ (cx.kd d).val = true)
    (hr : RepT G1.I G1.bl w' v r) : Inv cx (G.back w G1) (a.put dst v) w' (setO A dst r.Aq0) σ' := by
  have hvr := hr.Aq0;refine hi.step _ dst v (ext_back ha hi) (base_back ha hi) (by cases dst <;> simp [setO]) ?_ (fun id cs hc => .inr (ObjOk.congr (G := G1) (G' := G.back w G1) rfl (fun b i j h => back_obj h) rfl (ha.obj id cs hc))) ha.len ha.abl
  intro t q hq;cases dst with
  | none => exact .inl ⟨hq, by simp, fun j h => (by obtain ⟨_, _, h⟩ := h; cases h), fun _ _ _ _ => by simp, fun _ _ => ⟨by simp, fun h => by obtain ⟨_, _, h⟩ := h; cases h⟩⟩
  | some d =>
    obtain ⟨hd1, hd2⟩ := hdst d rfl;simp only [setO, AqM] at hq
    split at hq
    · rename_i hc;cases hq;refine .inr ?_
      rw [hc.1, AqF hd2 hvr.free, Ax5 _ _ _ (by rw [hi.size]; exact hd1)]
      exact ⟨hvr, AqB r⟩
    · rename_i hc;have hne : d ≠ t := fun e => hc ⟨e.symm, by have := hi.room; omega⟩
      refine .inl ⟨hq, fun e => hne (Option.some.inj e), fun j h => (by obtain ⟨_, _, h⟩ := h; cases h), fun d' off e hbx e' => ?_, fun m hm => ⟨fun e' => ?_, fun h => by obtain ⟨_, _, h⟩ := h; cases h⟩⟩
      · cases e';rw [hbx] at hd2; simp [SK.val] at hd2
      · cases e';obtain ⟨keys, hk⟩ := cx.ents t d hm;rw [hk] at hd2; simp [SK.val] at hd2
def Gh.bare (G : Gh) : Gh := ⟨G.I, fun _ => none, Bl.nil⟩
def Gh.after (G : Gh) (w : World) (G1 : Gh) : Gh := ⟨G1.I, fun b => if b < w.heap.size then G.ω b else none, G.bl⟩
theorem pre_bare (hi : Inv cx G a w A σ) : Pre (fun b => b < w.heap.size) G.bare w [] :=
  ⟨hi.base.lt, fun b h => h, fun b tag h => (by cases h), fun id cs h => (by simp at h), rfl, fun id g a h => (by cases h)⟩
theorem inv_after {G1 : Gh} {w' : World} {v : Value} {r : PV} (hi : Inv cx G a w A σ) (ha : Aft (fun b => b < w.heap.size) G.bare w σ' G1 w') (dst : Option Nat) (hdst : ∀ d, dst = some d → d < cx.nt ∧ (cx.kd d).val = true)
    (hr : RepT G1.I G1.bl w' v r) (hf : r.flat = true) : Inv cx (G.after w G1) (a.put dst v) w' (setO A dst r.Aq0) σ := by
  have hrep := (hr.flat hf).Aq0
  have hext : Ext (fun _ => False) G (G.after w G1) w w' := by
    refine ⟨ha.sub, ha.same, Bl.le_refl _, fun _ _ _ _ => rfl, fun b tag h _ => ?_⟩
    have hlt := (hi.base.own b tag h).1;refine ⟨by simp only [Gh.after, hlt, if_true, h], ha.keep b hlt, fun x hx => ?_⟩
    rcases ha.new b x hx with h' | h'
    · exact h'
    · exact absurd hlt h'
  have hbase : Base cx (G.after w G1) w' := by
    have hK : ∀ b, cx.K b → b < w.heap.size := fun b h => Nat.lt_of_lt_of_le (hi.base.Klt b h) hi.base.grow
    refine ⟨fun b h => ?_, hi.base.same.trans ha.same hi.base.sub, fun b x h => ha.sub b x (hi.base.sub b x h), fun b x h => ?_, ha.lt, fun b tag h => ?_, hi.base.Klt, Nat.le_trans hi.base.grow ha.grow, hi.base.bl, ha.os.trans hi.base.os, ha.tape.trans hi.base.tape, ha.output.trans hi.base.output⟩
    · rw [ha.keep b (hK b h)]; exact hi.base.keep b h
    · rcases ha.new b x h with h' | h'
      · exact hi.base.new b x h'
      · exact .inr fun hk => h' (hK b hk)
    · simp only [Gh.after] at h
      split at h
      · rename_i hlt; exact ⟨Nat.lt_of_lt_of_le hlt ha.grow, (hi.base.own b tag h).2⟩
      · cases h
  exact hi.put1 hext hbase rfl dst hdst (by rw [AqG]; exact hr.free) (.one (.inl hrep)) (fun _ _ => AqB r)
theorem Av3 (hi : Inv cx G a w A σ) (hkd : ∀ t, cx.kd t = fi.kind t) {xs : Array Operand} {as : List AArg} (hc : Aq2 fi xs.toList = some as) {ps : List PV} (he : Aq8 A as = some ps) (hf : ps.all PV.free = true) :
    AxE G.I G.bl w (xs.map a.eval).toList ps := by
  obtain ⟨hl, hr⟩ := BjL hi hkd hc he (fun p hp => List.all_eq_true.1 hf p hp)
  refine ⟨by simpa using hl, fun i p hp => ?_⟩
  have hlt : i < xs.size := by have := (List.getElem?_eq_some_iff.1 hp).1; simp at hl; omega
  have hx : xs.toList[i]? = some xs[i] := by rw [Array.getElem?_toList]; exact Array.getElem?_eq_getElem hlt
  exact ⟨a.eval xs[i], by simp [hlt], hr i _ p hx hp⟩
theorem AxE.bare {vs : List Value} {ps : List PV} (h : AxE G.I G.bl w vs ps) (hf : ps.all PV.flat = true) : AxE G.I Bl.nil w vs ps :=
  ⟨h.1, fun i p hp => let ⟨v, h1, h2⟩ := h.2 i p hp; ⟨v, h1, .one (.inl (h2.flat (List.all_eq_true.1 hf p (List.mem_of_getElem? hp))))⟩⟩
theorem flat_disown1 (p : PV) : p.Aq0.flat = p.flat := by cases p <;> rfl
theorem AvO (ps : List PV) : ∀ p ∈ ps.map PV.Aq0, p.Aq0 = p := by
  intro p hp;obtain ⟨q, _, rfl⟩ := List.mem_map.1 hp;exact BjI q
theorem A_of {o : Oper} {k : AK} {as : List AArg} {p : PV} (h1 : ([some p] : List (Option PV)).length = o.dst.toList.length + ([] : List Nat).length → A' = AqP A ({ dst := o.dst, k := k, args := as } : AOp).wr ([some p] ++ ([] : List Nat).map fun _ => none))
    (h2 : ([some p] : List (Option PV)).length ≠ o.dst.toList.length + ([] : List Nat).length → A' = A ∧ o.dst = none) : A' = setO A o.dst p := by
  cases hdd : o.dst with
  | none =>
    rw [hdd] at h2;exact (h2 (by simp)).1
  | some d =>
    rw [hdd] at h1;rw [h1 rfl];simp [AOp.wr, AqP, setO]
theorem call_step {ro : Option Nat} {n : Nat} {o : Oper} {c : Call} {K : Act → World → Prop} {Q : Exit → Act → World → Prop} (hS : Sound P call) (hi : Inv cx G a w A σ) (ho : o.op = .call c) {x : Operand} (hcal : c.callee = .value x) {f : FuncId} {fs cs : Array Value} (hx : a.eval x = .func (.func f) fs cs)
    (hdst : ∀ d, o.dst = some d → d < cx.nt ∧ (cx.kd d).val = true) {ps : List PV} (hargs : AxE G.I G.bl w (fs ++ c.args.map a.eval ++ cs).toList ps) {r : PV} {σ1 : Sto}
    (hcall : call f (ps.map PV.Aq0) σ = some (r, σ1)) (hk : ∀ a' w', Sim cx a' w' (setO A o.dst r.Aq0) σ1 → Kept o.dst a a' → K a' w') : o.wpIn (FW ro) n P a w K Q := by
  obtain ⟨hent, hcl⟩ := hS f _ σ r σ1 (AvO ps) hcall;refine BqR ho hcal hx hent ((hcl 0 _ w G.lend (G.lentK w) hargs.Aq0 (pre_lend hi)).mono ?_)
  rintro e w' ⟨v, G1, rfl, hr, ha⟩
  exact ⟨v, rfl, hk _ _ ⟨_, inv_back hi ha o.dst hdst hr⟩ (AkR _ _ _)⟩
theorem AzR {ro : Option Nat} {n : Nat} {o : Oper} {c : Call} {K : Act → World → Prop} {Q : Exit → Act → World → Prop} (hS : Sound P call) (hi : Inv cx G a w A σ) (ho : o.op = .call c) {x : Operand} (hcal : c.callee = .value x) {f : FuncId} {fs cs : Array Value} (hx : a.eval x = .func (.func f) fs cs)
    (hdst : ∀ d, o.dst = some d → d < cx.nt ∧ (cx.kd d).val = true) {ps : List PV} (hargs : AxE G.I G.bl w (fs ++ c.args.map a.eval ++ cs).toList ps) (hflat : (ps.map PV.Aq0).all PV.flat = true) {r : PV} {σ1 : Sto}
    (hcall : call f (ps.map PV.Aq0) [] = some (r, σ1)) (hrf : r.flat = true) (hk : ∀ a' w', Sim cx a' w' (setO A o.dst r.Aq0) σ → Kept o.dst a a' → K a' w') : o.wpIn (FW ro) n P a w K Q := by
  obtain ⟨hent, hcl⟩ := hS f _ [] r σ1 (AvO ps) hcall;refine BqR ho hcal hx hent ((hcl 0 _ w G.bare (fun b => b < w.heap.size) (hargs.Aq0.bare hflat) (pre_bare hi)).mono ?_)
  rintro e w' ⟨v, G1, rfl, hr, ha⟩
  exact ⟨v, rfl, hk _ _ ⟨_, inv_after hi ha o.dst hdst hr hrf⟩ (AkR _ _ _)⟩
theorem AjM {ps : List PV} (h : ps.all PV.flat = true) : (ps.map PV.Aq0).all PV.flat = true := by
  rw [List.all_map];rw [List.all_eq_true] at h ⊢;intro p hp;simpa [flat_disown1] using h p hp
theorem sim_c {ro : Option Nat} {n : Nat} {o : Oper} {c : Call} {K : Act → World → Prop} {Q : Exit → Act → World → Prop} (hS : Sound P call) (hi : Inv cx G a w A σ) (hkd : ∀ t, cx.kd t = fi.kind t) (hnt : cx.nt = fi.nt) (ho : o.op = .call c) {f : FuncId} (hcal : c.callee = .value (.func f))
    {as : List AArg} (hc : Aq2 fi c.args.toList = some as) (hd : Aq9 fi o.dst = true) (hrun : runA pur call { dst := o.dst, k := .c f, args := as } A σ = some (A', σ'))
    (hk : ∀ a' w', Sim cx a' w' A' σ' → Kept o.dst a a' → K a' w') : o.wpIn (FW ro) n P a w K Q := by
  obtain ⟨ps, rs, he, hs, hA1, hA2⟩ := runK hrun;simp only [sem] at hs
  split at hs
  · rename_i hf;simp only [Bool.and_eq_true] at hf;obtain ⟨⟨r, σ1⟩, hcall, hs⟩ := Option.bind_eq_some_iff.1 hs;dsimp only at hs
    split at hs
    · rename_i hrf;cases hs;have hA := A_of hA1 hA2;subst hA;refine AzR hS hi ho hcal (f := f) (fs := #[]) (cs := #[]) rfl (Ax1 hkd hnt hd) (ps := ps) ?_ (AjM hf.2) hcall hrf hk
      simpa using Av3 hi hkd hc he hf.1
    · cases hs
  · cases hs
theorem sim_call {ro : Option Nat} {n : Nat} {o : Oper} {c : Call} {K : Act → World → Prop} {Q : Exit → Act → World → Prop} (hS : Sound P call) (hi : Inv cx G a w A σ) (hkd : ∀ t, cx.kd t = fi.kind t) (hnt : cx.nt = fi.nt) (ho : o.op = .call c) {f : FuncId} (hcal : c.callee = .value (.func f))
    {as : List AArg} (hc : Aq2 fi c.args.toList = some as) (hd : Aq9 fi o.dst = true) (hrun : runA pur call { dst := o.dst, k := .w (.call f), args := as } A σ = some (A', σ'))
    (hk : ∀ a' w', Sim cx a' w' A' σ' → Kept o.dst a a' → K a' w') : o.wpIn (FW ro) n P a w K Q := by
  obtain ⟨ps, rs, he, hs, hA1, hA2⟩ := runK hrun;simp only [sem, semW] at hs
  split at hs
  · rename_i hf
    split at hs
    · split at hs
      · rename_i hflat;obtain ⟨⟨r, σ1⟩, hcall, hs⟩ := Option.bind_eq_some_iff.1 hs;dsimp only at hs
        split at hs
        · rename_i hrf;cases hs;have hA := A_of hA1 hA2;subst hA;refine AzR hS hi ho hcal (f := f) (fs := #[]) (cs := #[]) rfl (Ax1 hkd hnt hd) (ps := ps) ?_ (AjM hflat) hcall hrf hk
          simpa using Av3 hi hkd hc he hf
        · cases hs
      · cases hs
    · obtain ⟨⟨r, σ1⟩, hcall, hs⟩ := Option.map_eq_some_iff.1 hs;cases hs;have hA := A_of hA1 hA2;subst hA;refine call_step hS hi ho hcal (f := f) (fs := #[]) (cs := #[]) rfl (Ax1 hkd hnt hd) (ps := ps) ?_ hcall hk
      simpa using Av3 hi hkd hc he hf
  · cases hs
theorem BxZ {fs : Array Value} {ps : List PV} (h1 : fs.size = ps.length) (hf : ∀ (i : Nat) (p : PV), ps[i]? = some p → Rep1 G.I G.bl w (fs.getD i undef) p) : AxE G.I G.bl w fs.toList ps := by
  refine ⟨by simpa using h1, fun i p hp => ?_⟩
  have hlt : i < fs.size := by have := (List.getElem?_eq_some_iff.1 hp).1; omega
  exact ⟨fs.getD i undef, by simp [Array.getD, hlt], .one (hf i p hp)⟩
theorem sim_calld {ro : Option Nat} {n : Nat} {o : Oper} {c : Call} {K : Act → World → Prop} {Q : Exit → Act → World → Prop} (hS : Sound P call) (hi : Inv cx G a w A σ) (hkd : ∀ t, cx.kd t = fi.kind t) (hnt : cx.nt = fi.nt) (ho : o.op = .call c) {x : Operand} (hcal : c.callee = .value x)
    {as : List AArg} (hc : Aq2 fi (x :: c.args.toList) = some as) (hd : Aq9 fi o.dst = true) (hrun : runA pur call { dst := o.dst, k := .w .calld, args := as } A σ = some (A', σ'))
    (hk : ∀ a' w', Sim cx a' w' A' σ' → Kept o.dst a a' → K a' w') : o.wpIn (FW ro) n P a w K Q := by
  obtain ⟨ps, rs, he, hs, hA1, hA2⟩ := runK hrun;obtain ⟨y, zs, rfl, hy, hz⟩ := Aq4 hc;obtain ⟨p, qs, rfl, hp, hq⟩ := Aq1 he;simp only [sem] at hs;cases p with
  | func f first cap =>
    obtain ⟨fs, cs, hx, h1, h2, h3, h4⟩ := (AqA hi hkd hy hp rfl).AkW;simp only [semW] at hs
    split at hs
    · rename_i hf
      have hargs : AxE G.I G.bl w (fs ++ c.args.map a.eval ++ cs).toList (first ++ qs ++ cap) := by
        rw [Array.toList_append, Array.toList_append];exact ((BxZ h1 h3).append (Av3 hi hkd hz hq hf)).append (BxZ h2 h4)
      split at hs
      · split at hs
        · rename_i hflat;obtain ⟨⟨r, σ1⟩, hcall, hs⟩ := Option.bind_eq_some_iff.1 hs;dsimp only at hs
          split at hs
          · rename_i hrf;cases hs;have hA := A_of hA1 hA2;subst hA;exact AzR hS hi ho hcal hx (Ax1 hkd hnt hd) hargs hflat hcall hrf hk
          · cases hs
        · cases hs
      · obtain ⟨⟨r, σ1⟩, hcall, hs⟩ := Option.map_eq_some_iff.1 hs;cases hs;have hA := A_of hA1 hA2;subst hA;exact call_step hS hi ho hcal hx (Ax1 hkd hnt hd) hargs hcall hk
    · cases hs
  | _ => simp [semW] at hs
end
end Go.Abs

namespace Go.Abs
open Go.RowKit
structure CxOk (cx : Cx) (fi : FI) : Prop where
  kd : ∀ t, cx.kd t = fi.kind t
  nt : cx.nt = fi.nt
  al : ∀ t, cx.al t = fi.alias t
section
variable {P : Program} {pur : FuncId → Bool} {call : Caller} {fi : FI} {cx : Cx} {G : Gh} {a : Act} {w : World} {A A' : Frm} {σ σ' : Sto} {rg : RG} {o : Oper} {ao : AOp}
theorem mk0 {d : Option Nat} {k : AK} {args : Option (List AArg)} (h : mk fi d k args = some ao) : ∃ as, args = some as ∧ ao = { dst := d, k, args := as } ∧ Aq9 fi d = true := by
  obtain ⟨as, h1, h2, h3, _⟩ := Bj9 h;exact ⟨as, h1, h2, h3⟩
theorem mk1 {d s : Nat} {k : AK} {args : Option (List AArg)} (h : mk fi (some d) k args [s] = some ao) : ∃ as, args = some as ∧ ao = { dst := some d, k, args := as, ex := [s] } ∧ AqO fi d = true ∧ AqO fi s = true ∧ d ≠ s := by
  obtain ⟨as, h1, h2, h3, h4, h5⟩ := Bj9 h;refine ⟨as, h1, h2, h3, by simpa using h4, ?_⟩
  simp at h5;exact h5
theorem op_move (hi : Inv cx G a w A σ) (hx : CxOk cx fi) {x : Operand} (hop : o.op = .move x) (hc : AqC P pur fi rg o = some ao) (hrun : runA pur call ao A σ = some (A', σ')) : Gives P cx o a w A' σ' := by
  simp only [AqC, hop] at hc
  split at hc
  · obtain ⟨as, h1, rfl, h3⟩ := mk0 hc;exact sim_frz hi hx.kd hx.nt hop h1 h3 hrun
  split at hc
  · rename_i s t hd
    split at hc
    · rename_i keys hk
      split at hc
      · rename_i hcc;cases hc;rw [hd] at hrun;exact sim_mvb hi hx.kd hx.nt hop hd (by rw [hx.kd]; exact hk) hcc.1 hrun
      · cases hc
    · split at hc
      · rw [hd] at hc;obtain ⟨as, h1, rfl, h3, h4, _⟩ := mk1 hc;exact sim_mvo hi hx.kd hx.nt (.inl hop) hd h1 h3 h4 hrun
      · obtain ⟨as, h1, rfl, h3⟩ := mk0 hc;exact sim_mv hi hx.kd hx.nt (.inl hop) h1 h3 hrun
  · obtain ⟨as, h1, rfl, h3⟩ := mk0 hc;exact sim_mv hi hx.kd hx.nt (.inl hop) h1 h3 hrun
theorem op_assign (hi : Inv cx G a w A σ) (hx : CxOk cx fi) {x : Operand} (hop : o.op = .assign x) (hc : AqC P pur fi rg o = some ao) (hrun : runA pur call ao A σ = some (A', σ')) : Gives P cx o a w A' σ' := by
  simp only [AqC, hop] at hc
  split at hc
  · rename_i s
    split at hc
    · cases hd : o.dst with
      | none =>
        rw [hd] at hc;obtain ⟨as, h1, rfl, h3, h4, h5⟩ := Bj9 hc;obtain ⟨vs, rs, he, hs, rfl, hA⟩ := runX rfl hrun;obtain ⟨y, zs, rfl, hy, hz⟩ := Aq4 h1;cases hz;obtain ⟨p, qs, rfl, hp, hq⟩ := Aq1 he;cases hq;simp only [semP] at hs
        split at hs
        · cases hs;unfold runA at hrun;dsimp only at he hrun;rw [he] at hrun;simp only [sem, semP] at hrun
          simp_all
        · cases hs
      | some d =>
        rw [hd] at hc;obtain ⟨as, h1, rfl, h3, h4, _⟩ := mk1 hc;exact sim_mvo hi hx.kd hx.nt (.inr hop) hd h1 h3 h4 hrun
    · obtain ⟨as, h1, rfl, h3⟩ := mk0 hc;exact sim_mv hi hx.kd hx.nt (.inr hop) h1 h3 hrun
  · obtain ⟨as, h1, rfl, h3⟩ := mk0 hc;exact sim_mv hi hx.kd hx.nt (.inr hop) h1 h3 hrun
theorem op_box (hi : Inv cx G a w A σ) (hx : CxOk cx fi) {t : TypeId} {x : Operand} (hop : o.op = .box t x) (hc : AqC P pur fi rg o = some ao) (hrun : runA pur call ao A σ = some (A', σ')) : Gives P cx o a w A' σ' := by
  simp only [AqC, hop] at hc
  split at hc
  · rename_i s nag hd hcell
    split at hc
    · cases hc
    · rename_i hlt;have hlt' : s < cx.nt := by rw [hx.nt]; exact Nat.lt_of_not_le hlt
      rw [hd] at hc
      split at hc
      · rename_i hk;obtain ⟨as, h1, rfl⟩ := Option.map_eq_some_iff.1 hc;exact sim_bxl hi hx.kd hx.al hop hd hlt' (by rw [hx.kd]; exact hk) h1 hrun
      · rename_i hk;obtain ⟨as, h1, rfl⟩ := Option.map_eq_some_iff.1 hc;refine sim_bx hi hx.kd hop (fun d hd' => ?_) h1 (by rw [hd]; exact hrun)
        rw [hd] at hd'; cases hd';exact ⟨hlt', by rw [hx.kd, hk]; rfl⟩
      · rename_i hk;obtain ⟨as, h1, rfl⟩ := Option.map_eq_some_iff.1 hc;exact sim_bxO hi hx.kd hop hd hlt' (by rw [hx.kd, hk]; rfl) h1 hrun
      · cases hc
  · cases hc
theorem op_alloc (hi : Inv cx G a w A σ) (hx : CxOk cx fi) {t : TypeId} (hop : o.op = .alloc t) (hc : AqC P pur fi rg o = some ao) (hrun : runA pur call ao A σ = some (A', σ')) : Gives P cx o a w A' σ' := by
  simp only [AqC, hop] at hc
  split at hc
  · rename_i s n ag z hd hcell hz
    split at hc
    · cases hc
    · rename_i hlt;have hlt' : s < cx.nt := by rw [hx.nt]; exact Nat.lt_of_not_le hlt
      rw [hd] at hc
      split at hc
      · rename_i hk;cases hc;exact sim_zl hi hx.al hop hd hlt' (by rw [hx.kd]; exact hk) hz hrun
      · rename_i hk
        split at hc
        · rename_i hzn;cases hc;exact sim_zi hi hop hd hlt' (by rw [hx.kd, hk]; rfl) hz hzn hrun
        · cases hc
      · rename_i hk
        split at hc
        · rename_i bt be hbt
          split at hc
          · rename_i hbe
            split at hc
            · cases hc;exact sim_alB hi hop hd hlt' (by rw [hx.kd, hk]; rfl) hz hrun
            · cases hc
          · cases hc;exact sim_alO hi hop hd hlt' (by rw [hx.kd, hk]; rfl) hz hrun
        · cases hc;exact sim_alO hi hop hd hlt' (by rw [hx.kd, hk]; rfl) hz hrun
      · cases hc
  · cases hc
theorem op_build (hi : Inv cx G a w A σ) (hx : CxOk cx fi) {t : TypeId} {ps : Array (Nat × Operand)} (hop : o.op = .build t ps) (hc : AqC P pur fi rg o = some ao) (hrun : runA pur call ao A σ = some (A', σ')) : Gives P cx o a w A' σ' := by
  simp only [AqC, hop] at hc
  split at hc
  · rename_i fs z hs hz
    split at hc
    · rename_i places hpl
      split at hc
      · rename_i pl hpp;obtain ⟨as, h1, rfl, h3⟩ := mk0 hc;exact sim_build hi hx.kd hx.nt hop hs hz hpl hpp h1 h3 hrun
      · cases hc
    · cases hc
  · cases hc
theorem Bj3 (hi : Inv cx G a w A σ) (hx : CxOk cx fi) {t : TypeId} {n : Nat} {ps : Array (Nat × Operand)} (hop : o.op = .buildSlice t n ps) (hc : AqC P pur fi rg o = some ao) (hrun : runA pur call ao A σ = some (A', σ')) : Gives P cx o a w A' σ' := by
  simp only [AqC, hop] at hc
  split at hc
  · rename_i e hs
    split at hc
    · rename_i size ag hcell
      split at hc
      · rename_i hcc;simp only [Bool.and_eq_true, beq_iff_eq, decide_eq_true_eq] at hcc;obtain ⟨⟨⟨⟨⟨c1, c2⟩, c3⟩, c4⟩, c5⟩, c6⟩ := hcc;obtain ⟨as, h1, rfl, h3⟩ := mk0 hc;exact sim_bsl hi hx.kd hx.nt hop hs hcell c1 c2 c3 c4 c5 c6 h1 h3 hrun
      · cases hc
    · cases hc
  · cases hc
theorem comp_slot {s : Nat} (hlt : ¬ fi.nt ≤ s) (hk : (fi.kind s).val = true) : Aq2 fi [.tmp s] = some [.slot s] := by
  have hlt' : s < fi.nt := by omega
  simp only [Aq2, AxC];cases h : fi.kind s <;> rw [h] at hk <;> first | (simp [SK.val] at hk; done) | simp [hlt']
theorem op_load (hi : Inv cx G a w A σ) (hx : CxOk cx fi) {t : TypeId} {x : Operand} (hop : o.op = .load t x) (hc : AqC P pur fi rg o = some ao) (hrun : runA pur call ao A σ = some (A', σ')) : Gives P cx o a w A' σ' := by
  cases hd : o.dst with
  | none =>
    simp only [AqC, hop, hd, Bool.and_false, Bool.false_eq_true, if_false] at hc
    split at hc
    · rename_i n ag hcell
      split at hc
      · rename_i s
        split at hc
        · cases hc
        · rename_i hlt
          split at hc
          · rename_i hk;obtain ⟨as, h1, rfl, h3⟩ := mk0 hc;cases h1;exact sim_ldl hi hx.kd hx.nt hop (by rw [hx.kd]; exact hk) hcell (by rw [hd]; exact h3) (by rw [hd]; exact hrun)
          · split at hc
            · rename_i b hal
              split at hc
              · rename_i hkb;obtain ⟨as, h1, rfl, h3⟩ := mk0 hc;cases h1;exact sim_ldf hi hx.kd hx.nt hop hcell (by rw [hd]; exact h3) (by rw [hd]; exact hrun)
              · cases hc
            · split at hc
              · obtain ⟨as, h1, rfl, h3⟩ := mk0 hc;exact sim_ldp hi hx.kd hx.nt hop hcell h1 (by rw [hd]; exact h3) (by rw [hd]; exact hrun)
              · split at hc
                · cases hc
                rename_i hn0;obtain ⟨as, h1, rfl, h3⟩ := mk0 hc;exact sim_ld hi hx.kd hx.nt hop hcell hn0 h1 (by rw [hd]; exact h3) (by rw [hd]; exact hrun)
      · cases hc
    · cases hc
  | some u =>
    simp only [AqC, hop, hd] at hc
    split at hc
    · rename_i n ag hcell
      split at hc
      · rename_i s
        split at hc
        · cases hc
        · rename_i hlt
          split at hc
          · rename_i hk;obtain ⟨as, h1, rfl, h3⟩ := mk0 hc;cases h1;exact sim_ldl hi hx.kd hx.nt hop (by rw [hx.kd]; exact hk) hcell (by rw [hd]; exact h3) (by rw [hd]; exact hrun)
          · split at hc
            · rename_i b hal
              split at hc
              · rename_i hkb
                split at hc
                · rename_i hcc;simp only [Bool.and_eq_true, Bool.not_eq_true'] at hcc
                  split at hc
                  · rename_i hpd;cases hc;obtain ⟨rfl, _⟩ := hcc;exact sim_ldfo hi hx.kd hx.nt hop hd hcell hpd hrun
                  · cases hc
                · obtain ⟨as, h1, rfl, h3⟩ := mk0 hc;cases h1;exact sim_ldf hi hx.kd hx.nt hop hcell (by rw [hd]; exact h3) (by rw [hd]; exact hrun)
              · cases hc
            · split at hc
              · rename_i hcc;obtain ⟨as, h1, rfl, h3⟩ := mk0 hc;simp only [Bool.and_eq_true, Bool.not_eq_true'] at hcc;obtain ⟨rfl, _⟩ := hcc;exact sim_ldo hi hx.kd hx.nt hop hd hcell h3 h1 hrun
              · split at hc
                · obtain ⟨as, h1, rfl, h3⟩ := mk0 hc;exact sim_ldp hi hx.kd hx.nt hop hcell h1 (by rw [hd]; exact h3) (by rw [hd]; exact hrun)
                · split at hc
                  · cases hc
                  rename_i hn0;obtain ⟨as, h1, rfl, h3⟩ := mk0 hc;exact sim_ld hi hx.kd hx.nt hop hcell hn0 h1 (by rw [hd]; exact h3) (by rw [hd]; exact hrun)
      · cases hc
    · cases hc
theorem op_store (hi : Inv cx G a w A σ) (hx : CxOk cx fi) {t : TypeId} {y x : Operand} (hop : o.op = .store t y x) (hc : AqC P pur fi rg o = some ao) (hrun : runA pur call ao A σ = some (A', σ')) : Gives P cx o a w A' σ' := by
  simp only [AqC, hop] at hc
  split at hc
  · rename_i n ag s hcell hd
    split at hc
    · cases hc
    · rename_i hlt
      split at hc
      · rename_i hk;obtain ⟨as, h1, rfl⟩ := Option.map_eq_some_iff.1 hc;exact sim_stl hi hx.kd hop hd (by rw [hx.kd]; exact hk) hcell h1 hrun
      · rename_i hk;obtain ⟨as, h1, rfl⟩ := Option.map_eq_some_iff.1 hc;exact sim_sti hi hx.kd hop hd (by rw [hx.kd, hk]; rfl) hcell h1 hrun
      · rename_i hnb _;have hnb' : cx.kd s ≠ .box := by rw [hx.kd]; exact hnb
        split at hc
        · rename_i b hal
          split at hc
          · rename_i hkb
            split at hc
            · rename_i u
              split at hc
              · rename_i hcc;simp only [Bool.and_eq_true, beq_iff_eq] at hcc;cases hc;exact sim_stfo hi hx.kd hx.nt hop hd hcell hcc.2 hcc.1.2 hrun
              · obtain ⟨as, h1, rfl⟩ := Option.map_eq_some_iff.1 hc;exact sim_stf hi hx.kd hop hd hcell h1 hrun
            · obtain ⟨as, h1, rfl⟩ := Option.map_eq_some_iff.1 hc;exact sim_stf hi hx.kd hop hd hcell h1 hrun
          · cases hc
        · split at hc
          · rename_i u
            split at hc
            · rename_i hcc;simp only [Bool.and_eq_true, beq_iff_eq] at hcc;cases hc;exact sim_sto hi hx.kd hx.nt hop hd hnb' hcell hcc.2 hcc.1.2 hrun
            · obtain ⟨as, h1, rfl⟩ := Option.map_eq_some_iff.1 hc;exact sim_st hi hx.kd hop hd hnb' hcell h1 hrun
          · obtain ⟨as, h1, rfl⟩ := Option.map_eq_some_iff.1 hc;exact sim_st hi hx.kd hop hd hnb' hcell h1 hrun
  · cases hc
theorem op_binOp (hi : Inv cx G a w A σ) (hx : CxOk cx fi) {op : BinOp} {t yt : TypeId} {x y : Operand} (hop : o.op = .binOp op t x y yt) (hc : AqC P pur fi rg o = some ao) (hrun : runA pur call ao A σ = some (A', σ')) : Gives P cx o a w A' σ' := by
  simp only [AqC, hop] at hc
  split at hc
  · obtain ⟨as, h1, rfl, h3⟩ := mk0 hc;exact Bz7 hi hx.kd hx.nt hop (by simp) (by simp) h1 h3 hrun
  · obtain ⟨as, h1, rfl, h3⟩ := mk0 hc;exact Bz7 hi hx.kd hx.nt hop (by simp) (by simp) h1 h3 hrun
  · rename_i ht;obtain ⟨as, h1, rfl, h3⟩ := mk0 hc;exact Bz7 hi hx.kd hx.nt hop (fun _ => ht) (by simp) h1 h3 hrun
  · rename_i ps rs v ht;obtain ⟨as, h1, rfl, h3⟩ := mk0 hc;exact Bz7 hi hx.kd hx.nt hop (by simp) (fun _ => ⟨ps, rs, v, ht⟩) h1 h3 hrun
  · obtain ⟨as, h1, rfl, h3⟩ := mk0 hc;obtain ⟨vs, rs, _, hs, _, _⟩ := runX rfl hrun;cases vs <;> simp [semP] at hs
theorem op_convert (hi : Inv cx G a w A σ) (hx : CxOk cx fi) {s t : TypeId} {x : Operand} (hop : o.op = .convert s t x) (hc : AqC P pur fi rg o = some ao) (hrun : runA pur call ao A σ = some (A', σ')) : Gives P cx o a w A' σ' := by
  simp only [AqC, hop] at hc
  split at hc
  · rename_i hs ht;obtain ⟨as, h1, rfl, h3⟩ := mk0 hc;exact sim_cvt hi hx.kd hx.nt hop hs ht h1 h3 hrun
  · rename_i e hs ht
    split at hc
    · rename_i he hcell;obtain ⟨as, h1, rfl, h3⟩ := mk0 hc;exact sim_cvb hi hx.kd hx.nt hop hs ht he h1 h3 hrun
    · cases hc
  · rename_i e' e hs ht
    split at hc
    · rename_i u d he hd
      split at hc
      · rename_i hst;rw [hd] at hc;obtain ⟨as, h1, rfl, h3, h4, h5⟩ := mk1 hc;exact sim_cvi hi hx.kd hx.nt hop hst hd hs ht he h1 h3 h4 h5 hrun
      · cases hc
    · cases hc
  · cases hc
theorem op_insert (hi : Inv cx G a w A σ) (hx : CxOk cx fi) {t : TypeId} {m : Operand} {k x : Operand} (hop : o.op = .insert t m k x) (hc : AqC P pur fi rg o = some ao) (hrun : runA pur call ao A σ = some (A', σ')) : Gives P cx o a w A' σ' := by
  cases m with
  | tmp m =>
    simp only [AqC, hop] at hc
    split at hc
    · rename_i kt et keys s ht hkm hps hd
      split at hc
      · rename_i ik m' key hkt hks
        split at hc
        · rename_i hcc;obtain ⟨c1, rfl, c3, c4⟩ := hcc;obtain ⟨as, h1, rfl⟩ := Option.map_eq_some_iff.1 hc;exact sim_ins hi hx.kd hop hd ht hkt (.inl ⟨ik, rfl⟩) c1 (by rw [hx.kd]; exact hkm) (by rw [hx.kd]; exact hks) h1 hrun
        · cases hc
      · rename_i m' key hkt hks
        split at hc
        · rename_i hcc;obtain ⟨c1, rfl, c3, c4⟩ := hcc;obtain ⟨as, h1, rfl⟩ := Option.map_eq_some_iff.1 hc;exact sim_ins hi hx.kd hop hd ht hkt (.inr rfl) c1 (by rw [hx.kd]; exact hkm) (by rw [hx.kd]; exact hks) h1 hrun
        · cases hc
      · cases hc
    · cases hc
  | _ => simp [AqC, hop] at hc
theorem op_makeMap (hi : Inv cx G a w A σ) (hx : CxOk cx fi) {t : TypeId} {r : Option Operand} (hop : o.op = .makeMap t r) (hc : AqC P pur fi rg o = some ao) (hrun : runA pur call ao A σ = some (A', σ')) : Gives P cx o a w A' σ' := by
  cases r with
  | some r => simp [AqC, hop] at hc
  | none =>
    simp only [AqC, hop] at hc
    split at hc
    · rename_i s kt et hd ht
      split at hc
      · rename_i keys hk
        split at hc
        · rename_i hlt;cases hc;rw [hd] at hrun;exact sim_mkm hi hx.kd hop hd (by rw [hx.nt]; exact hlt) (by rw [hx.kd]; exact hk) hrun
        · cases hc
      · cases hc
    · cases hc
theorem op_lookup (hi : Inv cx G a w A σ) (hx : CxOk cx fi) {t : TypeId} {x i : Operand} {ok : Bool} (hop : o.op = .lookup t x i ok) (hc : AqC P pur fi rg o = some ao) (hrun : runA pur call ao A σ = some (A', σ')) : Gives P cx o a w A' σ' := by
  simp only [AqC, hop] at hc
  split at hc
  · rename_i kt et ht
    split at hc
    · rename_i ik z hkt hz;obtain ⟨as, h1, rfl, h3⟩ := mk0 hc;exact sim_look hi hx.kd hx.nt hop ht hkt (.inl ⟨ik, rfl⟩) hz h1 h3 hrun
    · rename_i z hkt hz;obtain ⟨as, h1, rfl, h3⟩ := mk0 hc;exact sim_look hi hx.kd hx.nt hop ht hkt (.inr rfl) hz h1 h3 hrun
    · cases hc
  · cases hc
theorem op_indexAddr (hi : Inv cx G a w A σ) (hx : CxOk cx fi) {t : TypeId} {x i : Operand} (hop : o.op = .indexAddr t x i) (hc : AqC P pur fi rg o = some ao) (hrun : runA pur call ao A σ = some (A', σ')) : Gives P cx o a w A' σ' := by
  simp only [AqC, hop] at hc
  split at hc
  · rename_i e ht
    split at hc
    · rename_i size ag hcell
      split at hc
      · obtain ⟨as, h1, rfl, h3⟩ := mk0 hc;exact sim_idx hi hx.kd hx.nt hop ht hcell h1 h3 hrun
      · cases hc
    · cases hc
  · cases hc
theorem op_slice (hi : Inv cx G a w A σ) (hx : CxOk cx fi) {t : TypeId} {x : Operand} {lo hi' mx : Option Operand} (hop : o.op = .slice t x lo hi' mx) (hc : AqC P pur fi rg o = some ao) (hrun : runA pur call ao A σ = some (A', σ')) : Gives P cx o a w A' σ' := by
  cases mx with
  | some mx => simp [AqC, hop] at hc
  | none =>
    simp only [AqC, hop] at hc
    split at hc
    · rename_i ht
      split at hc
      · rename_i as hcs;obtain ⟨as', h1, rfl, h3⟩ := mk0 hc;cases h1;exact sim_ssl hi hx.kd hx.nt hop ht hcs h3 hrun
      · cases hc
    · rename_i e ht
      split at hc
      · rename_i size ag as hcell hcs
        split at hc
        · obtain ⟨as', h1, rfl, h3⟩ := mk0 hc;cases h1;exact sim_vsl hi hx.kd hx.nt hop ht hcell hcs h3 hrun
        · cases hc
      · cases hc
    · cases hc
theorem sim_fa' (hi : Inv cx G a w A σ) (hx : CxOk cx fi) {t : TypeId} {s u f : Nat} (hop : o.op = .fieldAddr t (.tmp s) f) (hd : o.dst = some u)
    {fs : Array Field} {fl : Field} (hs : P.underlying t = some (.struct fs)) (hf : fs[f]? = some fl) {n : Nat} {ag : Bool} (hn : AqH P fl.type = some (n, ag)) (hn0 : n ≠ 0) (hlt : ¬ fi.nt ≤ s) (hnb : fi.kind s ≠ .box)
    (hal : ∀ b, fi.alias s = some b → fi.alias u = some b) (hpd : AqO fi u = true) (hrun : runA pur call { dst := some u, k := .p (.fa fl.offset n ag), args := [.slot s] } A σ = some (A', σ')) : Gives P cx o a w A' σ' := by
  by_cases hl : ∃ d' off, A.get s = some (.lref d' off)
  · obtain ⟨d', off, hg⟩ := hl;have hal1 := (BjA hi hg).2.1;rw [hx.al] at hal1;exact sim_fal2 hi hx.kd hx.nt hx.al hop hd hs hf hn hn0 hal1 (hal _ hal1) hpd hg hrun
  · have hval : (fi.kind s).val = true := by
      obtain ⟨vs, rs, he, hsem, _, _⟩ := runX rfl hrun;obtain ⟨p, qs, rfl, hp, hq⟩ := Aq1 he;cases hq;obtain ⟨hg, _⟩ := AqQ hp;have hsl := hi.slot s p hg;rw [← hx.kd];cases hk : cx.kd s with
      | box => exact absurd (by rw [← hx.kd]; exact hk) hnb
      | mapb keys =>
        have := ((AxQ hk).1 hsl).1;subst this;simp [semP, faV] at hsem
      | ent m key =>
        obtain ⟨_, _, _, _, rfl, _⟩ := (AzA hk).1 hsl;simp [semP, faV] at hsem
      | _ => rfl
    refine sim_fa hi hx.kd hx.nt hop hs hf hn hn0 ?_ (comp_slot hlt hval) (by rw [hd]; exact hpd) (by rw [hd]; exact hrun)
    rintro p d off rfl y hy he
    have := comp_slot hlt hval;simp only [Aq2, hy] at this;cases this;exact hl ⟨d, off, (AqQ he).1⟩
theorem op_fieldAddr (hi : Inv cx G a w A σ) (hx : CxOk cx fi) {t : TypeId} {x : Operand} {f : Nat} (hop : o.op = .fieldAddr t x f) (hc : AqC P pur fi rg o = some ao) (hrun : runA pur call ao A σ = some (A', σ')) : Gives P cx o a w A' σ' := by
  simp only [AqC, hop] at hc
  split at hc
  · rename_i fs ht
    split at hc
    · rename_i fl hf
      split at hc
      · rename_i n ag hcell
        split at hc
        · cases hc
        · rename_i hn0
          split at hc
          · rename_i s u hd
            split at hc
            · cases hc
            · rename_i hlt
              split at hc
              · rename_i hk
                split at hc
                · rename_i hal;obtain ⟨as, h1, rfl, h3⟩ := mk0 hc;cases h1;rw [hd] at h3 hrun;exact sim_fal hi hx.kd hx.nt hx.al hop hd ht hf hcell hn0 (by rw [hx.kd]; exact hk) hal h3 hrun
                · cases hc
              · rename_i hnb
                split at hc
                · rename_i b hal
                  split at hc
                  · rename_i hcc;obtain ⟨as, h1, rfl, h3⟩ := mk0 hc;cases h1;rw [hd] at h3 hrun;exact sim_fa' hi hx hop hd ht hf hcell hn0 hlt hnb (fun b' hb' => by rw [hal] at hb'; cases hb'; exact hcc.1) h3 hrun
                  · cases hc
                · rename_i hal;obtain ⟨as, h1, rfl, h3⟩ := mk0 hc;cases h1;rw [hd] at h3 hrun;exact sim_fa' hi hx hop hd ht hf hcell hn0 hlt hnb (fun b' hb' => by rw [hal] at hb'; cases hb') h3 hrun
          · cases hc
      · cases hc
    · cases hc
  · cases hc
theorem op_call {ro : Option Nat} {n : Nat} {K : Act → World → Prop} {Q : Exit → Act → World → Prop} (hS : Sound P call) (hi : Inv cx G a w A σ) (hx : CxOk cx fi) {c : Call} (hop : o.op = .call c) (hc : AqC P pur fi rg o = some ao)
    (hrun : runA pur call ao A σ = some (A', σ')) (hk : ∀ a' w', Sim cx a' w' A' σ' → Kept o.dst a a' → K a' w') : o.wpIn (FW ro) n P a w K Q := by
  have hnd : ∀ c', o.op ≠ .defer c' := by simp [hop]
  simp only [AqC, hop] at hc
  split at hc
  · rename_i f hcal
    split at hc
    · obtain ⟨as, h1, rfl, h3⟩ := mk0 hc;exact sim_c hS hi hx.kd hx.nt hop hcal h1 h3 hrun hk
    · obtain ⟨as, h1, rfl, h3⟩ := mk0 hc;exact sim_call hS hi hx.kd hx.nt hop hcal h1 h3 hrun hk
  · rename_i x _ hcal;obtain ⟨as, h1, rfl, h3⟩ := mk0 hc;exact sim_calld hS hi hx.kd hx.nt hop hcal h1 h3 hrun hk
  · rename_i hcal
    split at hc
    · rename_i ht;obtain ⟨as, h1, rfl, h3⟩ := mk0 hc;exact (sim_len hi hx.kd hx.nt hop hcal (.inl ⟨rfl, ht⟩) h1 h3 hrun).wp hnd hk
    · rename_i e ht;obtain ⟨as, h1, rfl, h3⟩ := mk0 hc;exact (sim_len hi hx.kd hx.nt hop hcal (.inr ⟨rfl, e, ht⟩) h1 h3 hrun).wp hnd hk
    · cases hc
  · rename_i hcal
    split at hc
    · split at hc
      · rename_i s x y z d htys hargs hd;have htys' : c.argTypes = #[s, x] := by apply Array.toList_inj.1; exact htys
        have hargs' : c.args = #[y, z] := by apply Array.toList_inj.1; exact hargs
        split at hc
        · rename_i e e' hs hxx
          split at hc
          · rename_i it hit
            split at hc
            · rename_i hcc;rw [hd] at hc;obtain ⟨as, h1, rfl, h3⟩ := mk0 hc;exact (sim_appA hi hx.kd hx.nt hop hcal hargs' htys' hd hs ⟨e', hxx⟩ hit hcc.1 hcc.2.1 hcc.2.2 h1 h3 hrun).wp hnd hk
            · cases hc
          · cases hc
        · cases hc
      · cases hc
    split at hc
    · rename_i s x u y d htys hargs hd;have htys' : c.argTypes = #[s, x] := by apply Array.toList_inj.1; exact htys
      have hargs' : c.args = #[.tmp u, y] := by apply Array.toList_inj.1; exact hargs
      split at hc
      · rename_i e e' hs hxx
        split at hc
        · rename_i it hit
          split at hc
          · rename_i hcc;rw [hd] at hc;obtain ⟨as, h1, rfl, h3, h4, h5⟩ := mk1 hc;exact (sim_app hi hx.kd hx.nt hop hcal hargs' htys' hd hs (.inl ⟨e', hxx⟩) hit hcc.1 hcc.2.1 hcc.2.2 h1 h3 h4 h5 hrun).wp hnd hk
          · cases hc
        · cases hc
      · rename_i e hs hxx
        split at hc
        · rename_i it hit
          split at hc
          · rename_i hcc;rw [hd] at hc;obtain ⟨as, h1, rfl, h3, h4, h5⟩ := mk1 hc;exact (sim_app hi hx.kd hx.nt hop hcal hargs' htys' hd hs (.inr hxx) hit (by omega) hcc.2.1 hcc.2.2 h1 h3 h4 h5 hrun).wp hnd hk
          · cases hc
        · cases hc
      · cases hc
    · cases hc
  · rename_i hcal
    split at hc
    · obtain ⟨as, h1, rfl, h3⟩ := mk0 hc;exact (sim_min hi hx.kd hx.nt hop hcal h1 h3 hrun).wp hnd hk
    · cases hc
  · rename_i hcal
    split at hc
    · obtain ⟨as, h1, rfl, h3⟩ := mk0 hc;exact (sim_max hi hx.kd hx.nt hop hcal h1 h3 hrun).wp hnd hk
    · cases hc
  · cases hc
theorem op_sound {ro : Option Nat} {n : Nat} {K : Act → World → Prop} {Q : Exit → Act → World → Prop} (hS : Sound P call) (hi : Inv cx G a w A σ) (hx : CxOk cx fi) (hc : AqC P pur fi rg o = some ao)
    (hrun : runA pur call ao A σ = some (A', σ')) (hk : ∀ a' w', Sim cx a' w' A' σ' → Kept o.dst a a' → K a' w') : o.wpIn (FW ro) n P a w K Q := by
  have gv : Gives P cx o a w A' σ' → (∀ c', o.op ≠ .defer c') → o.wpIn (FW ro) n P a w K Q := fun h hd => h.wp hd hk
  cases hop : o.op with
  | move x => exact gv (op_move hi hx hop hc hrun) (by simp [hop])
  | assign x => exact gv (op_assign hi hx hop hc hrun) (by simp [hop])
  | pick c x y =>
    refine gv ?_ (by simp [hop])
    simp only [AqC, hop] at hc;obtain ⟨as, h1, rfl, h3⟩ := mk0 hc;exact sim_pick hi hx.kd hx.nt hop h1 h3 hrun
  | box t x => exact gv (op_box hi hx hop hc hrun) (by simp [hop])
  | alloc t => exact gv (op_alloc hi hx hop hc hrun) (by simp [hop])
  | build t ps => exact gv (op_build hi hx hop hc hrun) (by simp [hop])
  | buildSlice t n ps => exact gv (Bj3 hi hx hop hc hrun) (by simp [hop])
  | load t x => exact gv (op_load hi hx hop hc hrun) (by simp [hop])
  | store t x y => exact gv (op_store hi hx hop hc hrun) (by simp [hop])
  | nilCheck x =>
    refine gv ?_ (by simp [hop])
    simp only [AqC, hop] at hc;obtain ⟨as, h1, rfl, h3⟩ := mk0 hc;exact sim_chk hi hx.kd hx.nt hop h1 h3 hrun
  | binOp op t x y yt => exact gv (op_binOp hi hx hop hc hrun) (by simp [hop])
  | unOp op t x =>
    refine gv ?_ (by simp [hop])
    cases op with
    | not =>
      simp only [AqC, hop] at hc;obtain ⟨as, h1, rfl, h3⟩ := mk0 hc;exact sim_not hi hx.kd hx.nt hop h1 h3 hrun
    | _ => simp [AqC, hop] at hc
  | convert s t x => exact gv (op_convert hi hx hop hc hrun) (by simp [hop])
  | makeFunc fn first cap =>
    refine gv ?_ (by simp [hop])
    cases fn with
    | func f =>
      simp only [AqC, hop] at hc;obtain ⟨as, h1, rfl, h3⟩ := mk0 hc;exact sim_mkf hi hx.kd hx.nt hop h1 h3 hrun
    | _ => simp [AqC, hop] at hc
  | makeMap t r => exact gv (op_makeMap hi hx hop hc hrun) (by simp [hop])
  | insert t m k x => exact gv (op_insert hi hx hop hc hrun) (by simp [hop])
  | lookup t x i ok => exact gv (op_lookup hi hx hop hc hrun) (by simp [hop])
  | indexAddr t x i => exact gv (op_indexAddr hi hx hop hc hrun) (by simp [hop])
  | index t x i =>
    refine gv ?_ (by simp [hop])
    simp only [AqC, hop] at hc
    split at hc
    · rename_i ht;obtain ⟨as, h1, rfl, h3⟩ := mk0 hc;exact sim_sidx hi hx.kd hx.nt hop ht h1 h3 hrun
    · cases hc
  | slice t x lo hi' mx => exact gv (op_slice hi hx hop hc hrun) (by simp [hop])
  | fieldAddr t x f => exact gv (op_fieldAddr hi hx hop hc hrun) (by simp [hop])
  | field t x f =>
    refine gv ?_ (by simp [hop])
    simp only [AqC, hop] at hc
    split at hc
    · rename_i fs hs
      split at hc
      · rename_i fl hf
        split at hc
        · rename_i n ag hn;obtain ⟨as, h1, rfl, h3⟩ := mk0 hc;exact sim_fld hi hx.kd hx.nt hop hs hf hn h1 h3 hrun
        · cases hc
      · cases hc
    · cases hc
  | extract x i =>
    refine gv ?_ (by simp [hop])
    simp only [AqC, hop] at hc;obtain ⟨as, h1, rfl, h3⟩ := mk0 hc;exact sim_ext hi hx.kd hx.nt hop h1 h3 hrun
  | call c => exact op_call hS hi hx hop hc hrun hk
  | _ => simp [AqC, hop] at hc
end
end Go.Abs
