/- A part of the proof: A35 A36. -/
import Derived.Test.YtakhbjefcjmelaaGreatDoorKj
import Derived.RangeFuncFrom
import Derived.RangeFuncLeaves

set_option linter.unusedVariables false
set_option linter.unusedSimpArgs false
namespace Go.Abs
open Go.RowKit
mutual

def PV.noMap : PV → Bool
  | .mapv _ _ => false
  | .vptr v => v.noMap
  | .slice _ _ es => PV.noMaps es
  | .agg cs => PV.noMaps cs
  | .aggr cs => PV.noMaps cs
  | .tuple vs => PV.noMaps vs
  | .func _ fs cs => PV.noMaps fs && PV.noMaps cs
  | .arrv _ _ es => PV.noMaps es
  | _ => true
def PV.noMaps : List PV → Bool
  | [] => true
  | v :: vs => v.noMap && PV.noMaps vs
end
theorem noMaps_get : ∀ {l : List PV}, PV.noMaps l = true → ∀ {i : Nat} {p : PV}, l[i]? = some p → p.noMap = true
  | [], _, i, p, h => by simp at h
  | v :: vs, hn, i, p, h => by
    rw [PV.noMaps, Bool.and_eq_true] at hn
    cases i with
    | zero => simp at h; subst h; exact hn.1
    | succ i => exact noMaps_get hn.2 (by simpa using h)
theorem noMap_cells {v : PV} (hn : v.noMap = true) {j : Nat} {p : PV} (h : v.cells[j]? = some p) : p.noMap = true := by
  cases v with
  | agg cs => rw [PV.noMap] at hn; exact noMaps_get hn h
  | aggr cs => rw [PV.noMap] at hn; exact noMaps_get hn h
  | _ =>
    simp only [PV.cells] at h
    cases j with
    | zero => simp at h; subst h; exact hn
    | succ j => simp at h
def pruneI (I : Imm) (B : Nat) (w : World) : Imm := fun b x => I b x ∧ (b < B ∨ ∃ o, x = some o ∧ (w.cell? ⟨b, o, none⟩).isSome = true)
theorem Rep.prune {I : Imm} {w : World} (B : Nat) {v : Value} {p : PV} (h : Rep I w v p) : p.noMap = true → Rep (pruneI I B w) w v p := by
  induction h with
  | bool b => intro _; exact .bool b
  | int k n => intro _; exact .int k n
  | str s => intro _; exact .str s
  | nilp => intro _; exact .nilp
  | vptr cv h1 h2 _ ih =>
    intro hn
    rw [PV.noMap] at hn
    exact .vptr cv (fun j p h => ⟨h1 j p h, .inr ⟨_, rfl, by rw [h2 j p h]; rfl⟩⟩) h2 (fun j p h => ih j p h (noMap_cells hn h))
  | nils => intro _; exact .nils
  | empt => intro _; exact .empt
  | slice cv h1 h2 h3 h4 h5 h6 _ ih =>
    intro hn
    rw [PV.noMap] at hn
    exact .slice cv h1 h2 h3 h4 (fun i e j p he hp => ⟨h5 i e j p he hp, .inr ⟨_, rfl, by rw [h6 i e j p he hp]; rfl⟩⟩) h6 (fun i e j p he hp => ih i e j p he hp (noMap_cells (noMaps_get hn he) hp))
  | nili => intro _; exact .nili
  | nilm => intro _; exact .nilm
  | mapv => intro hn; simp [PV.noMap] at hn
  | nilf => intro _; exact .nilf
  | func h1 h2 _ _ ih1 ih2 =>
    intro hn
    rw [PV.noMap, Bool.and_eq_true] at hn
    exact .func h1 h2 (fun i p h => ih1 i p h (noMaps_get hn.1 h)) (fun i p h => ih2 i p h (noMaps_get hn.2 h))
  | agg h _ ih =>
    intro hn
    rw [PV.noMap] at hn
    exact .agg h (fun i p h => ih i p h (noMaps_get hn h))
  | tuple h _ ih =>
    intro hn
    rw [PV.noMap] at hn
    exact .tuple h (fun i p h => ih i p h (noMaps_get hn h))
theorem Rep1.prune {I : Imm} {bl : Bl} {w : World} (B : Nat) {v : Value} {p : PV} (h : Rep1 I bl w v p) (hn : p.noMap = true) : Rep1 (pruneI I B w) bl w v p := by
  rcases h with h | h
  · exact .inl (h.prune B hn)
  · exact .inr h
theorem RepT.prune {I : Imm} {bl : Bl} {w : World} (B : Nat) {v : Value} {p : PV} (h : RepT I bl w v p) (hn : p.noMap = true) : RepT (pruneI I B w) bl w v p := by
  cases h with
  | one h => exact .one (h.prune B hn)
  | func h1 h2 hf hc =>
    rw [PV.noMap, Bool.and_eq_true] at hn
    exact .func h1 h2 (fun i p h => (hf i p h).prune B (noMaps_get hn.1 h)) (fun i p h => (hc i p h).prune B (noMaps_get hn.2 h))
  | tuple h hr =>
    rw [PV.noMap] at hn
    exact .tuple h (fun i p h => (hr i p h).prune B (noMaps_get hn h))
  | aggr h hr =>
    rw [PV.noMap] at hn
    exact .aggr h (fun i p h => (hr i p h).prune B (noMaps_get hn h))
def Gh.prune (G : Gh) (B : Nat) (w : World) : Gh := ⟨pruneI G.I B w, fun b => match w.heap[b]? with | some (.cells _ _ _) => G.ω b | _ => none, G.bl⟩
structure Tame (B : Nat) (G : Gh) (w : World) : Prop where
  I : ∀ b x, G.I b x → b < B ∨ ∃ o, x = some o ∧ (w.cell? ⟨b, o, none⟩).isSome = true
  ω : ∀ b tag, G.ω b = some tag → ∃ cs e f, w.heap[b]? = some (.cells cs e f)
theorem tame_prune (G : Gh) (B : Nat) (w : World) : Tame B (G.prune B w) w := by
  refine ⟨fun b x h => h.2, fun b tag h => ?_⟩
  simp only [Gh.prune] at h
  split at h
  · rename_i cs e f hh; exact ⟨cs, e, f, hh⟩
  · cases h
section
variable {P : Program} {pur : FuncId → Bool} {call : Caller} {fi : FI} {cx : Cx} {G : Gh} {a : Act} {w : World} {A A' : Frm} {σ σ' : Sto}
theorem prune_ω {B b : Nat} {cs : Array Value} {e : TypeId} {f : Nat × Nat} (h : w.heap[b]? = some (.cells cs e f)) : (G.prune B w).ω b = G.ω b := by
  simp only [Gh.prune, h]
theorem OwnOk.prune (B : Nat) {tag : Tag} {c : Value} {p : PV} (h : OwnOk G w tag c p) : OwnOk (G.prune B w) w tag c p := by
  unfold OwnOk at *
  split
  · obtain ⟨b, off, cap, cs, elem, e1, hω, h1, h2, h3, h4⟩ := h
    exact ⟨b, off, cap, cs, elem, e1, by rw [prune_ω h3]; exact hω, fun hi => h1 hi.1, fun o ho hi => h2 o ho hi.1, h3, h4⟩
  · trivial
theorem CellsOk.prune (B : Nat) {b : Nat} {tag : Option Nat → Tag} {cells : List PV} (h : CellsOk G w b tag cells) (hn : ∀ (j : Nat) (p : PV), cells[j]? = some p → p.noMap = true) : CellsOk (G.prune B w) w b tag cells := by
  obtain ⟨hω, h1, cs, elem, h2, h3, h4⟩ := h
  refine ⟨by rw [prune_ω h2]; exact hω, fun x hx => h1 x hx.1, cs, elem, h2, h3, fun j p hp => ?_⟩
  rcases h4 j p hp with ⟨hr, ho⟩ | hs
  · exact .inl ⟨hr.prune B (hn j p hp), ho.prune B⟩
  · exact .inr hs
theorem BOk.prune (B : Nat) {b id : Nat} {t e : TypeId} {l : List UInt8} (h : BOk G w b id t e l) : BOk (G.prune B w) w b id t e l := by
  obtain ⟨h1, h2, p, v, hp, h3, h4, h5⟩ := h
  refine ⟨by rw [prune_ω h3]; exact h1, fun x hx => h2 x hx.1, p, v, hp, h3, h4, fun g hg => ?_⟩
  obtain ⟨e1, e2, e3⟩ := h5 g hg
  refine ⟨e1, ?_, fun x hx => e3 x hx.1⟩
  rcases h4.2 with ⟨h, _⟩ | ⟨g', cap, cur, hv, hb, hg', r⟩
  · subst h; cases hg
  · subst hv
    cases hg
    rw [prune_ω hg']; exact e2
theorem ArrOk.prune (B : Nat) {id gen size : Nat} {es : List PV} (h : ArrOk G w id gen size es) (hn : ∀ (i : Nat) (e : PV), es[i]? = some e → e.noMap = true) : ArrOk (G.prune B w) w id gen size es := by
  obtain ⟨b, base, n, cs, elem, h1, h2, h3, h4, h5, h6, h7, h8, h9⟩ := h
  exact ⟨b, base, n, cs, elem, h1, h2, by rw [prune_ω h5]; exact h3, fun x hx => h4 x hx.1, h5, h6, h7, h8, fun i e he => ⟨(h9 i e he).1, fun j p hp => ((h9 i e he).2 j p hp).prune B (noMap_cells (hn i e he) hp)⟩⟩
theorem ObjOk.prune (B : Nat) {id : Nat} {cs : List PV} (h : ObjOk G w id cs) (hn : PV.noMaps cs = true) : ObjOk (G.prune B w) w id cs := by
  obtain ⟨b, h1, h2⟩ := h
  refine ⟨b, h1, ?_⟩
  rcases h2 with h2 | ⟨t, e, l, rfl, h2⟩ | h2 | ⟨gen, size, es, rfl, h2⟩
  · exact .inl (h2.prune B (fun j p hp => noMaps_get hn hp))
  · exact .inr (.inl ⟨t, e, l, rfl, h2.prune B⟩)
  · exact .inr (.inr (.inl h2))
  · refine .inr (.inr (.inr ⟨gen, size, es, rfl, h2.prune B (fun i e he => ?_)⟩))
    have h := noMaps_get hn (i := 0) rfl
    rw [PV.noMap] at h
    exact noMaps_get h he
def plainSlot (cx : Cx) (t : Nat) (v : PV) : Prop := v.free = true ∧ ((cx.kd t).val = true ∨ cx.kd t = .box)
theorem SlotOk.prune (B : Nat) {t : Nat} {v : PV} (hp : plainSlot cx t v) (hn : v.noMap = true) (h : SlotOk cx G a w t v) : SlotOk cx (G.prune B w) a w t v := by
  rcases hp.2 with hk | hk
  · rw [SlotOk_val hk hp.1] at h ⊢
    exact ⟨h.1.prune B hn, h.2.prune B⟩
  · rw [SlotOk_box hk] at h ⊢
    obtain ⟨b, h1, h2⟩ := h
    exact ⟨b, h1, h2.prune B (fun j p hp => noMap_cells hn hp)⟩
theorem SlotOk.of_at {cx' : Cx} (hkd : cx'.kd = cx.kd) {a' : Act} {t : Nat} {v : PV} (hp : plainSlot cx t v) (hat : at' a' t = at' a t) (h : SlotOk cx G a w t v) : SlotOk cx' G a' w t v := by
  rcases hp.2 with hk | hk
  · rw [SlotOk_val hk hp.1] at h
    rw [SlotOk_val (by rw [hkd]; exact hk) hp.1, hat]; exact h
  · rw [SlotOk_box hk] at h
    rw [SlotOk_box (by rw [hkd]; exact hk), hat]; exact h
def quiet (A : Frm) (σ : Sto) : Bool := A.all (fun v => match v with | some p => p.noMap | none => true) && σ.all PV.noMaps
theorem quiet_get (h : quiet A σ = true) {t : Nat} {v : PV} (hg : A.get t = some v) : v.noMap = true := by
  unfold quiet at h
  rw [Bool.and_eq_true] at h
  unfold Frm.get at hg
  split at hg
  · rename_i u hu
    have := List.all_eq_true.1 h.1 _ (List.mem_of_getElem? hu)
    rw [hg] at this
    exact this
  · cases hg
theorem Inv.prune (hi : Inv cx G a w A σ) (B : Nat) (hB : ∀ b x, cx.I0 b x → b < B) (hA : ∀ t v, A.get t = some v → plainSlot cx t v) (hq : quiet A σ = true) : Inv cx (G.prune B w) a w A σ := by
  have hb := hi.base
  refine ⟨hi.defers, hi.size, hi.room, ⟨hb.keep, hb.same, fun b x h => ⟨hb.sub b x h, .inl (hB b x h)⟩, fun b x h => hb.new b x h.1, fun b x h => hb.lt b x h.1, fun b tag h => ?_, hb.Klt, hb.grow, hb.bl, hb.os, hb.tape, hb.output⟩,
    fun t v hv => (hi.slot t v hv).prune B (hA t v hv) (quiet_get hq hv), fun id cs hc => (hi.obj id cs hc).prune B ?_, hi.len, hi.abl⟩
  · simp only [Gh.prune] at h
    split at h
    · exact hb.own b tag h
    · cases h
  · unfold quiet at hq
    rw [Bool.and_eq_true] at hq
    exact List.all_eq_true.1 hq.2 _ (List.mem_of_getElem? hc)
theorem cell_isCells {b o : Nat} (h : (w.cell? ⟨b, o, none⟩).isSome = true) : ∃ cs e f, w.heap[b]? = some (.cells cs e f) := by
  unfold World.cell? at h
  dsimp only at h
  split at h
  · rename_i cs e f hh
    exact ⟨_, _, _, hh⟩
  · simp at h
theorem Inv.grown (hi : Inv cx G a w A σ) {B : Nat} (ht : Tame B G w) (hK : ∀ b, cx.K b → b < B) (hBw : B ≤ w.heap.size) {w' : World} {row : Option Nat} (hg : w.grownBy w' row)
    (hrow : ∀ r, row = some r → B ≤ r ∧ ∃ o : Obj, w.heap[r]? = some o ∧ o.isCells = false) : Inv cx G a w' A σ ∧ Tame B G w' ∧ Same G.I w w' := by
  have hcells : ∀ b : Nat, (∃ cs e f, w.heap[b]? = some (Obj.cells cs e f)) → w'.heap[b]? = w.heap[b]? := by
    rintro b ⟨cs, e, f, h⟩
    refine hg.block b (Array.getElem?_eq_some_iff.1 h).1 fun hr => ?_
    obtain ⟨_, o, ho, hc⟩ := hrow b hr.symm
    rw [h] at ho
    cases ho
    cases hc
  have hlow : ∀ b : Nat, b < B → w'.heap[b]? = w.heap[b]? := fun b hb => hg.block b (by omega) (fun hr => by have := (hrow b hr.symm).1; omega)
  have hblk : ∀ b x, G.I b x → w'.heap[b]? = w.heap[b]? := by
    intro b x h
    rcases ht.I b x h with hb | ⟨o, rfl, hc⟩
    · exact hlow b hb
    · exact hcells b (cell_isCells hc)
  have hsame : Same G.I w w' := ⟨fun b o h => cell_of_heap (hblk b _ h), fun b h => hblk b _ h⟩
  have hext : Ext (fun _ => False) G G w w' := ⟨fun _ _ h => h, hsame, Bl.le_refl _, fun _ _ _ _ => rfl, fun b tag h _ => ⟨h, hcells b (ht.ω b tag h), fun _ h => h⟩⟩
  have hb := hi.base
  have hbase : Base cx G w' := ⟨fun b h => (hlow b (hK b h)).trans (hb.keep b h), hb.same.trans hsame hb.sub, hb.sub, hb.new, fun b x h => Nat.lt_of_lt_of_le (hb.lt b x h) hg.size,
    fun b tag h => ⟨Nat.lt_of_lt_of_le (hb.own b tag h).1 hg.size, (hb.own b tag h).2⟩, hb.Klt, Nat.le_trans hb.grow hg.size, hb.bl, hg.os.trans hb.os, hg.tape.trans hb.tape, hg.output.trans hb.output⟩
  refine ⟨hi.step (fun _ => False) none undef hext hbase rfl (fun t p hp => .inl ⟨hp, by simp, fun _ h => h, fun _ _ _ _ => by simp, fun _ _ => ⟨by simp, fun h => h⟩⟩) (fun id cs hc => .inl ⟨hc, fun _ h => h⟩) hi.len hi.abl, ⟨fun b x h => ?_, fun b tag h => ?_⟩, hsame⟩
  · rcases ht.I b x h with hb | ⟨o, rfl, hc⟩
    · exact .inl hb
    · exact .inr ⟨o, rfl, by rw [cell_of_heap (hblk b _ h)]; exact hc⟩
  · rw [hcells b (ht.ω b tag h)]
    exact ht.ω b tag h
def Known (G : Gh) (b : Nat) : Prop := G.ω b ≠ none ∨ ∃ x, G.I b x
theorem known_prune {B b : Nat} (h : Known (G.prune B w) b) : Known G b := by
  rcases h with h | ⟨x, h⟩
  · refine .inl fun e => h ?_
    simp only [Gh.prune]
    split
    · exact e
    · rfl
  · exact .inr ⟨x, h.1⟩
def Cx.inner (cx : Cx) (G : Gh) (w : World) (ds : List Deferred) : Cx :=
  { cx with K := fun b => cx.K b ∨ (b < w.heap.size ∧ ((∀ cs e f, w.heap[b]? ≠ some (Obj.cells cs e f)) ∨ ¬ Known G b)), I0 := G.I, w0 := w, bl0 := G.bl, ds := ds }
theorem Inv.inner (hi : Inv cx G a w A σ) {B : Nat} (ht : Tame B G w) (ds : List Deferred) {a' : Act} (hd : a'.defers = ds) (hsz : a'.tmps.size = a.tmps.size) (hA : ∀ t v, A'.get t = some v → plainSlot cx t v ∧ A.get t = some v ∧ at' a' t = at' a t) (hl : A'.length = A.length) :
    Inv (cx.inner G w ds) G a' w A' σ := by
  have hb := hi.base
  refine ⟨hd, hsz.trans hi.size, by rw [hl]; exact hi.room, ⟨fun _ _ => rfl, Same.refl _ _, fun _ _ h => h, fun _ _ h => .inl h, hb.lt, fun b tag h => ⟨(hb.own b tag h).1, ?_⟩, ⟨fun b h => ?_, fun b o h => (hb.Klt.tab b o h).imp .inl fun ⟨t, f, e⟩ => ⟨t, f, (hb.keep b (hb.Klt.tab b o h).1).trans e⟩⟩, Nat.le_refl _, Bl.le_refl _, rfl, rfl, rfl⟩,
    fun t v hv => (hi.slot t v (hA t v hv).2.1).of_at rfl (hA t v hv).1 (hA t v hv).2.2, hi.obj, hi.len, hi.abl⟩
  · rintro (h' | ⟨_, h' | h'⟩)
    · exact (hb.own b tag h).2 h'
    · obtain ⟨cs, e, f, hh⟩ := ht.ω b tag h
      exact h' cs e f hh
    · exact h' (.inl (by rw [h]; simp))
  · rcases h with h | h
    · exact Nat.lt_of_lt_of_le (hb.Klt b h) hb.grow
    · exact h.1
theorem base_outer (hb : Base cx G w) {ds : List Deferred} {G' : Gh} {w' : World} (hb' : Base (cx.inner G w ds) G' w') : Base cx G' w' := by
  refine ⟨fun b h => (hb'.keep b (.inl h)).trans (hb.keep b h), hb.same.trans hb'.same hb.sub, fun b x h => hb'.sub b x (hb.sub b x h), fun b x h => ?_, hb'.lt, fun b tag h => ⟨(hb'.own b tag h).1, fun hk => (hb'.own b tag h).2 (.inl hk)⟩, hb.Klt, Nat.le_trans hb.grow hb'.grow, hb.bl.trans hb'.bl, hb'.os.trans hb.os, hb'.tape.trans hb.tape, hb'.output.trans hb.output⟩
  rcases hb'.new b x h with h' | h'
  · exact hb.new b x h'
  · exact .inr fun hk => h' (.inl hk)
theorem Inv.outer (hi : Inv cx G a w A σ) {ds ds' : List Deferred} {G' : Gh} {a1 a2 : Act} {w' : World} {A1 A2 : Frm} (hi' : Inv (cx.inner G w ds) G' a1 w' A1 σ') (hd : a2.defers = ds') (hsz : a2.tmps.size = a1.tmps.size)
    (hA : ∀ t v, A2.get t = some v → plainSlot cx t v ∧ A1.get t = some v ∧ at' a2 t = at' a1 t) (hl : A2.length = A1.length) : Inv { cx with ds := ds' } G' a2 w' A2 σ' := by
  have hb := base_outer hi.base hi'.base
  exact ⟨hd, hsz.trans hi'.size, by rw [hl]; exact hi'.room, ⟨hb.keep, hb.same, hb.sub, hb.new, hb.lt, hb.own, hb.Klt, hb.grow, hb.bl, hb.os, hb.tape, hb.output⟩,
    fun t v hv => (hi'.slot t v (hA t v hv).2.1).of_at (cx := cx.inner G w ds) rfl (hA t v hv).1 (hA t v hv).2.2, hi'.obj, hi'.len, hi'.abl⟩
theorem inner_keeps {ds : List Deferred} {G' : Gh} {w' : World} (hb' : Base (cx.inner G w ds) G' w') : KeepsOthers w w' := by
  refine ⟨hb'.grow, fun k o hk ho => ?_⟩
  refine (hb'.keep k (.inr ⟨(Array.getElem?_eq_some_iff.1 hk).1, .inl fun cs e f h => ?_⟩)).trans hk
  rw [hk] at h
  cases h
  cases ho
theorem inner_kept {ds : List Deferred} {G' : Gh} {w' : World} (hb' : Base (cx.inner G w ds) G' w') {b : Nat} (hb : b < w.heap.size) (hk : ¬ Known G b) : w'.heap[b]? = w.heap[b]? :=
  hb'.keep b (.inr ⟨hb, .inr hk⟩)
theorem inner_known {ds : List Deferred} {G' : Gh} {w' : World} (hb' : Base (cx.inner G w ds) G' w') {b : Nat} (hk : Known G' b) : w.heap.size ≤ b ∨ Known G b := by
  rcases Nat.lt_or_ge b w.heap.size with h | h
  · refine .inr ?_
    rcases hk with hk | ⟨x, hk⟩
    · cases ho : G'.ω b with
      | none => exact absurd ho hk
      | some tag => exact Classical.byContradiction fun hc => (hb'.own b tag ho).2 (.inr ⟨h, .inr hc⟩)
    · rcases hb'.new b x hk with h' | h'
      · exact .inr ⟨x, h'⟩
      · exact Classical.byContradiction fun hc => h' (.inr ⟨h, .inr hc⟩)
  · exact .inl h
theorem base_known (hb : Base cx G w) {b : Nat} (hk : Known G b) : b < w.heap.size := by
  rcases hk with hk | ⟨x, hk⟩
  · cases ho : G.ω b with
    | none => exact absurd ho hk
    | some tag => exact (hb.own b tag ho).1
  · exact hb.lt b x hk
end
end Go.Abs

namespace Go.Abs
open Go.RowKit
section
variable {P : Program} {pur : FuncId → Bool} {call : Caller} {fi : FI} {cx : Cx} {G : Gh} {a : Act} {w : World} {A A' : Frm} {σ σ' : Sto}
def keepF (L : List Bool) (A : Frm) : Frm := List.zipWith (fun b v => if b then v.filter PV.free else none) L A
theorem keepF_len {L : List Bool} (h : A.length = L.length) : (keepF L A).length = L.length := by simp [keepF, h]
theorem keepF_get {L : List Bool} {t : Nat} {p : PV} (h : (keepF L A).get t = some p) : L.getD t false = true ∧ A.get t = some p ∧ p.free = true := by
  unfold keepF Frm.get at h
  split at h
  · rename_i v hv
    subst h
    rw [List.getElem?_zipWith] at hv
    split at hv
    · rename_i b u hb hu
      cases b with
      | true =>
        have h2 := Option.some.inj hv
        rw [if_pos rfl] at h2
        obtain ⟨h3, h4⟩ := Option.filter_eq_some_iff.1 h2
        subst h3
        refine ⟨by rw [List.getD_eq_getElem?_getD, hb]; rfl, ?_, h4⟩
        unfold Frm.get
        rw [hu]
      | false => simp at hv
    · cases hv
  · cases h
def enterL (ds : List (Nat × Nat)) (x : List PV) (A : Frm) : Frm := ds.foldl (fun A d => A.set d.1 (x[d.2]?)) A
theorem enterL_len (x : List PV) : ∀ (ds : List (Nat × Nat)) (A : Frm), (enterL ds x A).length = A.length
  | [], A => rfl
  | d :: ds, A => by
    show (enterL ds x (A.set d.1 (x[d.2]?))).length = _
    rw [enterL_len x ds, List.length_set]
theorem enterL_get (x : List PV) {t : Nat} {p : PV} : ∀ (ds : List (Nat × Nat)) (A : Frm), (enterL ds x A).get t = some p → (∃ i, (t, i) ∈ ds ∧ x[i]? = some p) ∨ A.get t = some p
  | [], A, h => .inr h
  | d :: ds, A, h => by
    rcases enterL_get x ds (A.set d.1 (x[d.2]?)) h with ⟨i, h1, h2⟩ | h1
    · exact .inl ⟨i, List.mem_cons_of_mem _ h1, h2⟩
    · rw [get_set] at h1
      split at h1
      · rename_i hc
        exact .inl ⟨d.2, by rw [hc.1]; exact List.mem_cons_self .., h1⟩
      · exact .inr h1
noncomputable def ofF (A : Frm) : Nat → FF := List.rec (motive := fun _ => Nat → FF) (fun _ => []) (fun v _ ih n => Option.rec (motive := fun _ => FF) (ih (n + 1)) (fun p => (n, some p) :: ih (n + 1)) v) A
noncomputable def toF (ff : FF) (N : Nat) : Frm := (List.range N).map (getK ff)
noncomputable def runF (pur : FuncId → Bool) (call : Caller) (m : Nat) (ac : ACode) (A : Frm) (σ : Sto) : Option (AExit × Frm × Sto) :=
  cond (okCode A.length ac) ((arunK pur call m ac (ofF A 0) σ).map fun r => (r.1, toF r.2.1 A.length, r.2.2)) none
theorem getK_ofF {p : PV} {t : Nat} : ∀ (A : Frm) (n : Nat), getK (ofF A n) t = some p → n ≤ t ∧ A[t - n]? = some (some p)
  | [], n, h => by cases h
  | v :: A, n, h => by
    cases v with
    | none =>
      have h' : getK (ofF A (n + 1)) t = some p := h
      obtain ⟨h1, h2⟩ := getK_ofF A (n + 1) h'
      refine ⟨by omega, ?_⟩
      rw [show t - n = (t - (n + 1)) + 1 from by omega]
      simpa using h2
    | some q =>
      have h' : getK ((n, some q) :: ofF A (n + 1)) t = some p := h
      rw [getK_cons] at h'
      cases hb : Nat.beq n t with
      | true =>
        rw [hb] at h'
        have := Nat.eq_of_beq_eq_true hb
        subst this
        have e : q = p := by simpa using h'
        subst e
        exact ⟨Nat.le_refl _, by simp⟩
      | false =>
        rw [hb] at h'
        obtain ⟨h1, h2⟩ := getK_ofF A (n + 1) h'
        refine ⟨by omega, ?_⟩
        rw [show t - n = (t - (n + 1)) + 1 from by omega]
        simpa using h2
theorem runF_ok {m : Nat} {ac : ACode} {e : AExit} (h : runF pur call m ac A σ = some (e, A', σ')) : ∃ A'', arun pur call m ac A σ = some (e, A'', σ') ∧ A'.length = A''.length ∧ ∀ t v, A'.get t = some v → A''.get t = some v := by
  unfold runF at h
  cases hok : okCode A.length ac with
  | false => rw [hok] at h; cases h
  | true =>
    rw [hok] at h
    obtain ⟨⟨e1, ff, σ1⟩, hr, he⟩ := Option.map_eq_some_iff.1 h
    cases he
    have hrel : Rel A.length (ofF A 0) A := by
      refine ⟨rfl, fun t v hv => ?_⟩
      obtain ⟨_, h2⟩ := getK_ofF A 0 hv
      unfold Frm.get
      rw [Nat.sub_zero] at h2
      rw [h2]
    obtain ⟨A2, h3, h4⟩ := arunK_sim ac _ _ _ _ _ _ hok hrel hr
    refine ⟨A2, h3, by rw [h4.len]; simp [toF], fun t v hv => h4.get t v ?_⟩
    unfold Frm.get toF at hv
    rw [List.getElem?_map] at hv
    split at hv
    · rename_i u hu
      obtain ⟨s, hs, rfl⟩ := Option.map_eq_some_iff.1 hu
      have hs2 := (List.getElem?_eq_some_iff.1 hs)
      obtain ⟨h5, h6⟩ := hs2
      rw [List.getElem_range] at h6
      subst h6
      exact hv
    · cases hv
noncomputable def roundL (pur : FuncId → Bool) (call : Caller) (m : Nat) (aca ac : ACode) (La L : List Bool) (ds : List (Nat × Nat)) (x : List PV) (A : Frm) (σ : Sto) : Option (Frm × Sto) :=
  match runF pur call m aca (enterL ds x A) σ with
  | some (.normal, A1, σ1) => if quiet (keepF La A1) σ1 = true ∧ A1.length = La.length then (match runF pur call m ac (keepF La A1) σ1 with
    | some (.normal, A', σ') => if quiet (keepF L A') σ' = true ∧ A'.length = L.length then some (keepF L A', σ') else none
    | _ => none) else none
  | _ => none
noncomputable def iterL (pur : FuncId → Bool) (call : Caller) (m : Nat) (aca ac : ACode) (La L : List Bool) (ds : List (Nat × Nat)) : List (List PV) → Frm → Sto → Option (Frm × Sto)
  | [], A, σ => some (A, σ)
  | x :: xs, A, σ => match roundL pur call m aca ac La L ds x A σ with
    | some (A', σ') => iterL pur call m aca ac La L ds xs A' σ'
    | none => none
theorem iterL_append {m : Nat} {aca ac : ACode} {La L : List Bool} {ds : List (Nat × Nat)} (ys : List (List PV)) {r : Frm × Sto} : ∀ (xs : List (List PV)) (A : Frm) (σ : Sto), iterL pur call m aca ac La L ds (xs ++ ys) A σ = some r →
    ∃ A' σ', iterL pur call m aca ac La L ds xs A σ = some (A', σ') ∧ iterL pur call m aca ac La L ds ys A' σ' = some r
  | [], A, σ, h => ⟨A, σ, rfl, h⟩
  | y :: xs, A, σ, h => by
    simp only [iterL, List.cons_append] at h ⊢
    split at h
    · exact iterL_append ys xs _ _ h
    · cases h
theorem iterL_snoc {m : Nat} {aca ac : ACode} {La L : List Bool} {ds : List (Nat × Nat)} (x : List PV) {A2 : Frm} {σ2 : Sto} : ∀ (xs : List (List PV)) (A : Frm) (σ : Sto) {A' : Frm} {σ' : Sto}, iterL pur call m aca ac La L ds xs A σ = some (A', σ') → roundL pur call m aca ac La L ds x A' σ' = some (A2, σ2) →
    iterL pur call m aca ac La L ds (xs ++ [x]) A σ = some (A2, σ2)
  | [], A, σ, A', σ', h, h2 => by
    cases h
    simp only [List.nil_append, iterL, h2]
  | y :: ys, A, σ, A', σ', h, h2 => by
    simp only [iterL, List.cons_append] at h ⊢
    split at h
    · exact iterL_snoc x ys _ _ h h2
    · cases h
theorem Inv.withDs (hi : Inv cx G a w A σ) (hA : ∀ t v, A.get t = some v → plainSlot cx t v) (ds : List Deferred) {a' : Act} (ht : a'.tmps = a.tmps) (hd : a'.defers = ds) : Inv { cx with ds := ds } G a' w A σ := by
  have hb := hi.base
  exact ⟨hd, by rw [ht]; exact hi.size, hi.room, ⟨hb.keep, hb.same, hb.sub, hb.new, hb.lt, hb.own, hb.Klt, hb.grow, hb.bl, hb.os, hb.tape, hb.output⟩,
    fun t v hv => (hi.slot t v hv).of_at (cx := cx) rfl (hA t v hv) (by simp only [at', ht]), hi.obj, hi.len, hi.abl⟩
def mark (D : Nat) : Deferred := { target := .collected D, args := #[] }
def ItOk (P : Program) (gf : FuncId) (lb : Array Value) (xs : List (Array Value)) (I : Imm) (w : World) : Prop :=
  ∀ (n l : Nat) (J : List (Array Value) → (Nat → Prop) → World → Prop) (W : World), Below w.heap.size w W → (∀ O, AbidesFrom W.heap.size (fun s => J s O)) →
    (∀ pre x post O W1, xs = pre ++ x :: post → J pre O W1 → YieldAt (FW none) n P l x W1 fun e W' => e = .returned (.bool true) ∧ J (pre ++ [x]) (fun b => O b ∨ (W1.heap.size ≤ b ∧ b < W'.heap.size)) W' ∧ Same I W1 W' ∧ W1.heap.size ≤ W'.heap.size ∧
      ∀ b cs t f, ¬ O b → W1.heap[b]? = some (Obj.cells cs t f) → W'.heap[b]? = some (Obj.cells cs t f)) → J [] (fun b => b < W.heap.size) W →
    CallsIn (FW none) n P gf (#[.func (.yield l) #[] #[]] ++ lb) W fun e W' => (∃ v, e = .returned v) ∧ ∃ O, J xs O W'
theorem range_sound {n m : Nat} (hS : Sound P call) (hx : CxOk cx fi) (hmo : P.follows .mixedOrders = true) {g : Operand} {ps : Array Tmp} {assign body : Code} {aca ac : ACode} (hca : comp P pur fi assign = some aca) (hcb : comp P pur fi body = some ac)
    {gf : FuncId} {lb : Array Value} (hg : a.eval g = .func (.func gf) #[] lb) (hent : Enterable P gf) {vs : List (Array Value)} {xs : List (List PV)} (hit : ItOk P gf lb vs G.I w) (hps : ∀ x ∈ vs, x.size = ps.size)
    (hlv : vs.length = xs.length) (hpv : ∀ (j : Nat) (v : Array Value) (x : List PV), vs[j]? = some v → xs[j]? = some x → ∀ (i : Nat) (p : PV), x[i]? = some p → Rep G.I w (v.getD i undef) p ∧ p.free = true ∧ p.disown = p)
    {La L : List Bool} {ds : List (Nat × Nat)} (hi : Inv cx G a w A σ) (hB : ∀ b x, cx.I0 b x → b < w.heap.size) (hA : ∀ t v, A.get t = some v → plainSlot cx t v ∧ L.getD t false = true) (hq : quiet A σ = true) (hlen : A.length = L.length) (hla : La.length = L.length)
    (hLk : ∀ t, L.getD t false = true → ((cx.kd t).val = true ∨ cx.kd t = .box) ∧ spares t assign = true ∧ spares t body = true ∧ ∀ p ∈ ps, p ≠ t) (hLa : ∀ t, La.getD t false = true → (cx.kd t).val = true ∨ cx.kd t = .box)
    (hds : ∀ d ∈ ds, (cx.kd d.1).val = true ∧ ∀ (v : Array Value) (tm : Array Value), v.size = ps.size → tm.size = cx.nt → ((ps.zip v).foldl (fun t (p, v) => t.setIfInBounds p v) tm).getD d.1 undef = v.getD d.2 undef)
    {A2 : Frm} {σ2 : Sto} (hrun : iterL pur call m aca ac La L ds xs A σ = some (A2, σ2))
    {Q : Exit → Act → World → Prop} (hdone : ∀ (D : Nat) (W : World), w.heap.size ≤ D → W.heap[D]? = some (.deferred (some [])) → w.heap.size ≤ W.heap.size →
      (∃ G', Inv { cx with ds := mark D :: a.defers } G' { a with defers := mark D :: a.defers } W A2 σ2 ∧ Tame w.heap.size G' W ∧ (∀ t v, A2.get t = some v → plainSlot cx t v ∧ L.getD t false = true)) → Q .normal { a with defers := mark D :: a.defers } W) :
    (Code.rangeFunc g ps assign body).wpIn (FW none) n P Q a w := by
  obtain ⟨fn0, hfn0, hname, hbody0⟩ := hent
  have hKB : ∀ b, cx.K b → b < w.heap.size := fun b h => Nat.lt_of_lt_of_le (hi.base.Klt b h) hi.base.grow
  have eg : ∀ (args : Array Value) (w : World), (callFunc gf args).run P w = .ok (.enter gf args) w := fun args W => by
    have h1 : ¬ fn0.name = "runtime.NumGoroutine" := by simpa using hname
    have h2 : ¬ fn0.body = none := fun e => by rw [e] at hbody0; cases hbody0
    simp [callFunc, hfn0, h1, h2]
  let I : List (Array Value) → (Nat → Prop) → World → Prop := fun pre O W => w.heap.size ≤ W.heap.size ∧ ∃ A' σ', iterL pur call m aca ac La L ds (xs.take pre.length) A σ = some (A', σ') ∧ (∀ t v, A'.get t = some v → plainSlot cx t v ∧ L.getD t false = true) ∧ A'.length = L.length ∧
      ∃ G', Inv { cx with ds := [] } G' { a with defers := [] } W A' σ' ∧ Tame w.heap.size G' W ∧ (∀ b x, G.I b x → G'.I b x) ∧ Same G.I w W ∧ ∀ b, Known G' b → O b
  have hI : ∀ (pre : List (Array Value)) (O : Nat → Prop) (W W' : World) (row : Option Nat), I pre O W → W.grownBy W' row → (∀ r, row = some r → w.heap.size ≤ r ∧ ∃ o : Obj, W.heap[r]? = some o ∧ o.isCells = false) → I pre O W' := by
    rintro pre O W W' row ⟨hsz, A', σ', hit, hA', hl', G', hi', ht', hsub, hsame, hO⟩ hgr hrow
    obtain ⟨h2, h3, h4⟩ := hi'.grown ht' hKB hsz hgr hrow
    exact ⟨Nat.le_trans hsz hgr.size, A', σ', hit, hA', hl', G', h2, h3, hsub, hsame.trans h4 hsub, hO⟩
  have h0 : I [] (fun b => b < w.heap.size) w := by
    have hp : ∀ t v, A.get t = some v → plainSlot cx t v := fun t v h => (hA t v h).1
    have h2 := (hi.withDs hp [] (a' := { a with defers := [] }) rfl rfl)
    exact ⟨Nat.le_refl _, A, σ, rfl, hA, hlen, _, h2.prune w.heap.size hB hp hq, tame_prune _ _ _, fun b x h => ⟨h, .inl (hi.base.lt b x h)⟩, Same.refl _ _, fun b hb => base_known hi.base (known_prune hb)⟩
  refine wpIn_rangeFunc fun fn hfn => ?_
  obtain ⟨rec, hrec⟩ : ∃ rec : LoopState → Option Code → Loop, rec = fun st pe => { state := st, pending := pe, fn, tmps := a.tmps, params := ps, assign, body, defers := w.heap.size } := ⟨_, rfl⟩
  obtain ⟨W1, hW1⟩ : ∃ W1, (w.alloc (.deferred (some []))).alloc (.loop (rec .ready none)) = W1 := ⟨_, rfl⟩
  have hL1 : W1.heap[w.heap.size + 1]? = some (.loop (rec .ready none)) := by
    rw [← hW1]; have := World.alloc_heap_new (w.alloc (.deferred (some []))) (.loop (rec .ready none)); rwa [World.size_alloc] at this
  have hK1 : W1.heap[w.heap.size]? = some (.deferred (some [])) := by
    rw [← hW1]; exact (Below.heap_alloc _ _ _ (by simp)).trans (World.alloc_heap_new w _)
  have hg1 : w.grownBy (w.alloc (.deferred (some []))) none := World.grownBy_alloc w _ none
  have hg2 : (w.alloc (.deferred (some []))).grownBy W1 none := by rw [← hW1]; exact World.grownBy_alloc _ _ none
  have hI1' : I [] (fun b => b < w.heap.size) W1 := hI _ _ _ _ none (hI _ _ _ _ none h0 hg1 (fun r e => by cases e)) hg2 (fun r e => by cases e)
  have hb1 : Below w.heap.size w W1 := by
    rw [← hW1]; exact (((Below.refl w.heap.size w).alloc (Nat.le_refl _) _).alloc (by simp) _)
  have hsz1 : W1.heap.size = w.heap.size + 2 := by rw [← hW1]; simp
  have hI1 : I [] (fun b => b < W1.heap.size) W1 := by
    obtain ⟨hsz, A', σ', hit, hA', hl', G', hi', ht', hsub, hsame, hO⟩ := hI1'
    exact ⟨hsz, A', σ', hit, hA', hl', G', hi', ht', hsub, hsame, fun b hb => by have := hO b hb; omega⟩
  refine ⟨w.heap.size + 1, [mark w.heap.size], W1, { target := .fn (.func gf) lb, args := #[.func (.yield (w.heap.size + 1)) #[] #[]] }, W1, gf,
    #[.func (.yield (w.heap.size + 1)) #[] #[]] ++ lb, W1, ?_, ?_, ?_, ?_, fun h => (by cases h), ?_⟩
  · rw [← hW1, hrec]; exact run_enterLoop_outer _ _ _ _ _
  · simp only [resolve, hg]
    simp [go_sem]
  · intro f' _; trivial
  · simp [invoke, go_sem, eg]
  · have hnc : ∀ {W W' : World} {row : Option Nat}, (∀ r, row = some r → W1.heap.size ≤ r ∧ ∃ o : Obj, W.heap[r]? = some o ∧ o.isWalk = true) → (∀ r, row = some r → w.heap.size ≤ r ∧ ∃ o : Obj, W.heap[r]? = some o ∧ o.isCells = false) :=
      fun hr r e => by obtain ⟨hB', o, ho, hw⟩ := hr r e; exact ⟨by omega, o, ho, Obj.not_cells_of_walk hw⟩
    refine (hit (n - 1) (w.heap.size + 1) (fun pre O W => I pre O W ∧ W.heap[w.heap.size + 1]? = some (.loop (rec .ready none)) ∧ W.heap[w.heap.size]? = some (.deferred (some []))) W1 hb1
      (fun O s X Y row hs hg' hr => ⟨hI s O X Y row hs.1 hg' (hnc (W' := Y) hr), (grownBy_keeps hg' (fun r e => (hr r e).2) hs.2.1 rfl).trans hs.2.1, (grownBy_keeps hg' (fun r e => (hr r e).2) hs.2.2 rfl).trans hs.2.2⟩) ?_ ⟨hI1, hL1, hK1⟩).mono ?_
    · 
      rintro pre v post O W hvs ⟨⟨hsz, A', σ', hitr, hA', hl', G', hi', ht', hsub, hsame, hO⟩, hl, hk⟩
      have hjv : vs[pre.length]? = some v := by rw [hvs]; simp
      have hjlt : pre.length < xs.length := by rw [← hlv]; exact (List.getElem?_eq_some_iff.1 hjv).1
      obtain ⟨x, hjx⟩ : ∃ x, xs[pre.length]? = some x := ⟨_, List.getElem?_eq_getElem hjlt⟩
      have hsplit : xs = xs.take pre.length ++ x :: xs.drop (pre.length + 1) := by
        have := List.take_append_drop pre.length xs
        rw [List.drop_eq_getElem_cons hjlt] at this
        have hx' : xs[pre.length] = x := (List.getElem?_eq_some_iff.1 hjx).2
        rw [hx'] at this
        exact this.symm
      have htake : xs.take (pre ++ [v]).length = xs.take pre.length ++ [x] := by
        rw [List.length_append, List.length_singleton, List.take_add_one, hjx]; rfl
      obtain ⟨rr, hround⟩ : ∃ rr, roundL pur call m aca ac La L ds x A' σ' = some rr := by
        rw [hsplit] at hrun
        obtain ⟨B', τ', h1, h2⟩ := iterL_append _ _ _ _ hrun
        rw [hitr] at h1
        cases h1
        simp only [iterL] at h2
        split at h2
        · rename_i h3; exact ⟨_, h3⟩
        · cases h2
      obtain ⟨A4, σ4⟩ := rr
      have hround' := hround
      unfold roundL at hround
      split at hround
      case h_2 => cases hround
      rename_i Aa σa hruna0
      obtain ⟨Aa', hruna, hla', hsa⟩ := runF_ok hruna0
      split at hround
      case isFalse => cases hround
      rename_i hqa
      split at hround
      case h_2 => cases hround
      rename_i A3 σ3 hrunb0
      obtain ⟨A3', hrunb, hlb', hsb⟩ := runF_ok hrunb0
      split at hround
      case isFalse => cases hround
      rename_i hqb
      cases hround
      have hvm : v ∈ vs := List.mem_of_getElem? hjv
      have hy := run_yield (P := P) (args := v) hl (by rw [hrec]; exact hps v hvm)
      rw [hrec] at hy
      obtain ⟨tm, htm⟩ : ∃ tm, (ps.zip v).foldl (fun t (p, v) => t.setIfInBounds p v) a.tmps = tm := ⟨_, rfl⟩
      have htsz : tm.size = a.tmps.size := by
        rw [← htm, ← Array.foldl_toList]
        generalize (ps.zip v).toList = l
        generalize a.tmps = t0
        induction l generalizing t0 with
        | nil => rfl
        | cons d l ih => rw [List.foldl_cons, ih]; simp
      have htat : ∀ t, (∀ p ∈ ps, p ≠ t) → tm.getD t undef = a.tmps.getD t undef := by
        intro t ht
        have hz : ∀ d ∈ (ps.zip v).toList, d.1 ≠ t := by
          intro d hd
          have hd' : (d.1, d.2) ∈ ps.toList.zip v.toList := by simpa [Array.toList_zip] using hd
          exact ht _ (by have := (List.of_mem_zip hd').1; simpa using this)
        rw [← htm, ← Array.foldl_toList]
        generalize (ps.zip v).toList = l at hz
        generalize a.tmps = t0
        induction l generalizing t0 with
        | nil => rfl
        | cons d l ih =>
          rw [List.foldl_cons, ih (fun d' hd' => hz d' (List.mem_cons_of_mem _ hd'))]
          have := hz d (List.mem_cons_self ..)
          simp only [Array.getD_eq_getD_getElem?]
          rw [Array.getElem?_setIfInBounds_ne this]
      let cx' : Cx := { cx with ds := [] }
      have hx' : ∀ {H : Gh} {V : World}, CxOk (cx'.inner H V []) fi := ⟨hx.kd, hx.nt, hx.al⟩
      let a1 : Act := { tmps := tm, defers := [] }
      have hi1 := hi'.inner ht' [] (a' := a1) rfl htsz (A' := A') (fun t u hu => ⟨(hA' t u hu).1, hu, htat t (hLk t (hA' t u hu).2).2.2.2⟩) rfl
      have hi2 : Inv (cx'.inner G' W []) G' a1 W (enterL ds x A') σ' := by
        refine ⟨hi1.defers, hi1.size, by rw [enterL_len]; exact hi1.room, hi1.base, fun t u hu => ?_, hi1.obj, hi1.len, hi1.abl⟩
        rcases enterL_get _ _ _ hu with ⟨i, h2, h3⟩ | h2
        · obtain ⟨e1, e2, e3⟩ := hpv _ v x hjv hjx i u h3
          obtain ⟨hdv, hdt⟩ := hds _ h2
          rw [SlotOk_val (cx := cx'.inner G' W []) hdv e2]
          have hat : at' a1 t = v.getD i undef := by
            have := hdt v a.tmps (hps v hvm) hi.size
            rw [htm] at this
            exact this
          rw [hat]
          exact ⟨.one (.inl (e1.mono hsub hsame)), own_none_of e3⟩
        · exact hi1.slot t u h2
      refine ⟨fn, tm, assign, body, by rw [← htm]; exact hy, roundIn_of_wpIn hfn ?_⟩
      refine code_sound (ro := some (w.heap.size + 1)) (cx := cx'.inner G' W []) hS hx' hmo assign aca hca m _ _ _ _ _ hruna a1 W ⟨G', hi2⟩ _ (fun a2 w2 hs2 hat2 => ?_)
      obtain ⟨G2, hi3'⟩ := hs2
      have hi3 := hi3'.forget hla' hsa
      have hk2 := inner_keeps hi3.base
      have hA2 : ∀ t u, (keepF La Aa).get t = some u → plainSlot cx t u ∧ Aa.get t = some u ∧ at' a2 t = at' a2 t := fun t u hu => by
        obtain ⟨e1, e2, e3⟩ := keepF_get hu
        exact ⟨⟨e3, hLa t e1⟩, e2, rfl⟩
      have hi4 := (hi'.outer hi3 (ds' := []) (a2 := a2) hi3.defers rfl (A2 := keepF La Aa) hA2 (by rw [keepF_len hqa.2]; exact hqa.2.symm)).prune w.heap.size hB (fun t u hu => (hA2 t u hu).1) hqa.1
      have ht4 := tame_prune G2 w.heap.size w2
      have hsub4 : ∀ b x, G.I b x → (G2.prune w.heap.size w2).I b x := fun b x h => ⟨hi3.base.sub _ _ (hsub _ _ h), .inl (hi.base.lt b x h)⟩
      have hss2 : Same G.I W w2 := ⟨fun b o h => hi3.base.same.cell b o (hsub _ _ h), fun b h => hi3.base.same.blk b (hsub _ _ h)⟩
      have hsz2 : w.heap.size ≤ w2.heap.size := Nat.le_trans hsz hk2.size
      have hl2 := hk2.same _ _ hl rfl
      have hd2 := hk2.same _ _ hk rfl
      refine ⟨_, run_beginRound hl2 (by rw [hrec]), ?_⟩
      obtain ⟨w3, hw3⟩ : ∃ w3, w2.putObj (w.heap.size + 1) (.loop { rec .ready none with state := .busy }) = w3 := ⟨_, rfl⟩
      have hg3 : w2.grownBy w3 (some (w.heap.size + 1)) := by rw [← hw3]; exact grownBy_putObj' _ _ _
      have hlt2 : w.heap.size + 1 < w2.heap.size := (Array.getElem?_eq_some_iff.1 hl2).1
      have hl3 : w3.heap[w.heap.size + 1]? = some (.loop { rec .ready none with state := .busy }) := by rw [← hw3]; exact World.putObj_heap_same hlt2
      have hd3 : w3.heap[w.heap.size]? = some (.deferred (some [])) := by rw [← hw3]; exact (World.putObj_heap_other (by omega)).trans hd2
      obtain ⟨hi5, ht5, hs5⟩ := hi4.grown ht4 hKB hsz2 hg3 (fun r e => by cases e; exact ⟨by omega, _, hl2, rfl⟩)
      have hsz3 : w.heap.size ≤ w3.heap.size := Nat.le_trans hsz2 hg3.size
      have hi6 := hi5.inner ht5 [] (a' := a2) hi5.defers rfl (A' := keepF La Aa) (fun t u hu => ⟨(hA2 t u hu).1, hu, rfl⟩) rfl
      rw [hw3]
      refine code_sound (ro := some (w.heap.size + 1)) (cx := cx'.inner (G2.prune w.heap.size w2) w3 []) hS hx' hmo body ac hcb m _ _ _ _ _ hrunb a2 w3 ⟨_, hi6⟩ _ (fun a4 w4 hs4 hat4 => ?_)
      obtain ⟨G4, hi7'⟩ := hs4
      have hi7 := hi7'.forget hlb' hsb
      have hk4 := inner_keeps hi7.base
      have hA4 : ∀ t u, (keepF L A3).get t = some u → plainSlot cx t u ∧ A3.get t = some u ∧ at' { a with defers := [] } t = at' a4 t := by
        intro t u hu
        obtain ⟨e1, e2, e3⟩ := keepF_get hu
        obtain ⟨k1, k2, k3, k4⟩ := hLk t e1
        refine ⟨⟨e3, k1⟩, e2, ?_⟩
        rw [hat4 t k3, hat2 t k2]
        exact (htat t k4).symm
      have hi8 := (hi5.outer hi7 (ds' := []) (a2 := { a with defers := [] }) rfl (by have h2 := hi7.size; have h3 := hi.size; show a.tmps.size = _; rw [h3, h2]; rfl) (A2 := keepF L A3) hA4 (by rw [keepF_len hqb.2]; exact hqb.2.symm)).prune w.heap.size hB (fun t u hu => (hA4 t u hu).1) hqb.1
      have ht8 := tame_prune G4 w.heap.size w4
      have hl4 := hk4.same _ _ hl3 rfl
      have hd4 := hk4.same _ _ hd3 rfl
      have hlt4 : w.heap.size + 1 < w4.heap.size := (Array.getElem?_eq_some_iff.1 hl4).1
      have he4 := run_endRound (P := P) none hl4
      have hss5 : Same G.I w2 w3 := ⟨fun b o h => hs5.cell b o (hsub4 _ _ h), fun b h => hs5.blk b (hsub4 _ _ h)⟩
      have hss4 : Same G.I w3 w4 := ⟨fun b o h => hi7.base.same.cell b o (hsub4 _ _ h), fun b h => hi7.base.same.blk b (hsub4 _ _ h)⟩
      obtain ⟨w5, hw5⟩ : ∃ w5, w4.putObj (w.heap.size + 1) (.loop (rec .ready none)) = w5 := ⟨_, rfl⟩
      have hg5 : w4.grownBy w5 (some (w.heap.size + 1)) := by rw [← hw5]; exact grownBy_putObj' _ _ _
      obtain ⟨hi9, ht9, hs9⟩ := hi8.grown ht8 hKB (Nat.le_trans hsz3 hk4.size) hg5 (fun r e => by cases e; exact ⟨by omega, _, hl4, rfl⟩)
      have hsub8 : ∀ b x, G.I b x → (G4.prune w.heap.size w4).I b x := fun b x h => ⟨hi7.base.sub _ _ (hsub4 _ _ h), .inl (hi.base.lt b x h)⟩
      have hss9 : Same G.I w4 w5 := ⟨fun b o h => hs9.cell b o (hsub8 _ _ h), fun b h => hs9.blk b (hsub8 _ _ h)⟩
      have hall : Same G.I W w5 := ((hss2.trans hss5 (fun _ _ h => h)).trans hss4 (fun _ _ h => h)).trans hss9 (fun _ _ h => h)
      have hsW5 : W.heap.size ≤ w5.heap.size := Nat.le_trans (Nat.le_trans (Nat.le_trans hk2.size hg3.size) hk4.size) hg5.size
      refine ⟨_, w5, ?_, rfl, ⟨⟨Nat.le_trans (Nat.le_trans hsz3 hk4.size) hg5.size, keepF L A3, σ4, ?_, fun t u hu => ⟨(hA4 t u hu).1, (keepF_get hu).1⟩, keepF_len hqb.2, _, hi9, ht9, hsub8, hsame.trans hall (fun _ _ h => h), fun b hb => ?_⟩, ?_, ?_⟩, hall, hsW5, fun b cs t f hnO hb => ?_⟩
      · rw [← hw5]
        rw [hrec] at he4 ⊢
        exact he4
      · rw [htake]
        exact iterL_snoc _ _ _ _ hitr hround'
      · 
        have hlt := base_known hi9.base hb
        rcases inner_known hi7.base (known_prune hb) with h1 | h1
        · exact .inr ⟨Nat.le_trans (Nat.le_trans hk2.size hg3.size) h1, hlt⟩
        · rcases inner_known hi3.base (known_prune h1) with h2 | h2
          · exact .inr ⟨h2, hlt⟩
          · exact .inl (hO b h2)
      · rw [← hw5]; exact World.putObj_heap_same hlt4
      · rw [← hw5]; exact (World.putObj_heap_other (by omega)).trans hd4
      · 
        have hbl : b < W.heap.size := (Array.getElem?_eq_some_iff.1 hb).1
        have hnk : ¬ Known G' b := fun h => hnO (hO b h)
        have hne : w.heap.size + 1 ≠ b := by rintro rfl; rw [hl] at hb; cases hb
        have e2 : w2.heap[b]? = some (Obj.cells cs t f) := (inner_kept hi3.base hbl hnk).trans hb
        have hb2 : b < w2.heap.size := (Array.getElem?_eq_some_iff.1 e2).1
        have e3 : w3.heap[b]? = some (Obj.cells cs t f) := by rw [← hw3]; exact (World.putObj_heap_other (by omega)).trans e2
        have hb3 : b < w3.heap.size := (Array.getElem?_eq_some_iff.1 e3).1
        have hnk2 : ¬ Known (G2.prune w.heap.size w2) b := fun h => by
          rcases inner_known hi3.base (known_prune h) with h | h
          · omega
          · exact hnk h
        have e4 : w4.heap[b]? = some (Obj.cells cs t f) := (inner_kept hi7.base hb3 hnk2).trans e3
        rw [← hw5]; exact (World.putObj_heap_other (by omega)).trans e4
    · 
      rintro e W2 ⟨⟨v, rfl⟩, O, hIx, hl, hk⟩
      have hlt : w.heap.size + 1 < W2.heap.size := (Array.getElem?_eq_some_iff.1 hl).1
      refine ⟨none, _, by have := run_endLoop (P := P) hl (by rw [hrec]; simp); rw [hrec] at this; exact this, ?_⟩
      have hg9 : W2.grownBy (W2.putObj (w.heap.size + 1) (.loop { rec .ready none with state := .exhausted })) (some (w.heap.size + 1)) := grownBy_putObj' _ _ _
      obtain ⟨hsz, A', σ', hitr, hA', hl', G', hi', ht', hsub, hsame, _⟩ := hI _ _ _ _ _ hIx hg9 (fun r e => by cases e; exact ⟨by omega, _, hl, rfl⟩)
      rw [hlv, List.take_length, hrun] at hitr
      cases hitr
      rw [hrec] at hi' ht' hsame hsz
      refine hdone w.heap.size _ (Nat.le_refl _) ((World.putObj_heap_other (by omega)).trans hk) hsz ⟨G', (hi'.withDs (cx := { cx with ds := [] }) (fun t v h => (hA' t v h).1) (mark w.heap.size :: a.defers) (a' := { a with defers := mark w.heap.size :: a.defers }) rfl rfl), ht', hA'⟩
end
end Go.Abs
