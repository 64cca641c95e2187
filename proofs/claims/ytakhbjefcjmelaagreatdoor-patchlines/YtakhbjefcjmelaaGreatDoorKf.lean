/- A part of the proof: A22 A23 A24. -/
import Derived.Test.YtakhbjefcjmelaaGreatDoorKe

set_option linter.unusedVariables false
set_option linter.unusedSimpArgs false
namespace Go.Abs
open Go.RowKit
section
variable {P : Program} {pur : FuncId → Bool} {call : Caller} {fi : FI} {cx : Cx} {G : Gh} {a : Act} {w : World} {A A' : Frm} {σ σ' : Sto}
theorem ext_setRow {X : Tag → Prop} {b : Nat} {t0 : Tag} (hω : G.ω b = some t0) (hI : ∀ x, ¬ G.I b x) (hX : X t0) (cs : Array Value) : Ext X G G w (w.setRow b cs) := by
  have hne : ∀ b' x, G.I b' x → b' ≠ b := fun b' x h e => hI x (e ▸ h)
  refine ⟨fun _ _ h => h, ⟨fun b' o h => cell_of_heap (setRow_other _ _ _ _ (hne _ _ h)), fun b' h => setRow_other _ _ _ _ (hne _ _ h)⟩, Bl.le_refl _, fun _ _ _ _ => rfl, fun b' tg h' hn => ⟨h', setRow_other _ _ _ _ ?_, fun _ h => h⟩⟩
  intro e; subst e
  rw [hω] at h'; cases h'
  exact hn hX
theorem base_setRow (hb : Base cx G w) {b : Nat} {t0 : Tag} (hω : G.ω b = some t0) (hI : ∀ x, ¬ G.I b x) (cs : Array Value) : Base cx G (w.setRow b cs) := by
  have hne : ∀ b' x, G.I b' x → b' ≠ b := fun b' x h e => hI x (e ▸ h)
  have hK : ∀ b', cx.K b' → b' ≠ b := fun b' h e => (hb.own b t0 hω).2 (e ▸ h)
  refine ⟨fun b' h => ?_, ?_, hb.sub, hb.new, fun b' x h => by rw [setRow_size]; exact hb.lt b' x h, fun b' tg h => by rw [setRow_size]; exact hb.own b' tg h, hb.Klt, by rw [setRow_size]; exact hb.grow, hb.bl, hb.os, hb.tape, hb.output⟩
  · rw [setRow_other _ _ _ _ (hK b' h)]; exact hb.keep b' h
  · exact hb.same.trans (I' := G.I) ⟨fun b' o h => cell_of_heap (setRow_other _ _ _ _ (hne _ _ h)), fun b' h => setRow_other _ _ _ _ (hne _ _ h)⟩ hb.sub
theorem run_cellstore {b off : Nat} {t elem : TypeId} {n : Nat} {ag : Bool} (hn : cellsT P t = some (n, ag)) {cs : Array Value} (hheap : w.heap[b]? = some (.cells cs elem (0, 0))) {v : Value} (hv : v.cells.size = n)
    (hone : ∀ x ∈ v.cells.toList, x.oneCell' = true) (hfit : off + n ≤ cs.size) :
    (Instr.storeAt t (.pointer (some ⟨b, off, none⟩)) v).run P w = .ok () (w.setRow b (cs.toList.take off ++ v.cells.toList ++ cs.toList.drop (off + v.cells.toList.length)).toArray) := by
  have := run_storeCells_at P b off elem v.cells.toList 0 cs w hheap (by simp; omega) hone
  simp only [Nat.add_zero] at this
  simp [Instr.storeAt, Instr.sureAddr, storeVar, run_sizeOf hn, hv] at this ⊢
  exact this
theorem ones_rep {I : Imm} {v : Value} {p : PV} (h : Rep I w v p) (hp : p.ones = true) : ∀ x ∈ v.cells.toList, x.oneCell' = true := by
  intro x hx
  obtain ⟨i, hi⟩ := List.mem_iff_getElem?.1 hx
  obtain ⟨h1, h2⟩ := RepL.of_rep h
  have hlt : i < p.cells.length := by rw [← h1]; exact (List.getElem?_eq_some_iff.1 hi).1
  have hq := List.getElem?_eq_getElem hlt
  obtain ⟨c, hc, hr⟩ := h2 i _ hq
  rw [hi] at hc; cases hc
  exact one_rep hr (List.all_eq_true.1 hp _ (List.getElem_mem hlt))
theorem ones_okc {I : Imm} {bl : Bl} {v : Value} {p : PV} (h : RepT I bl w v p) (hk : p.okc = true) (hp : p.ones = true) : ∀ x ∈ v.cells.toList, x.oneCell' = true := by
  by_cases hf : p.flat = true
  · exact ones_rep (h.flat hf) hp
  · cases p with
    | ref id off => obtain ⟨b, _, rfl⟩ := h.ref_inv; intro x hx; simp [Value.cells] at hx; subst hx; rfl
    | arr id gen off len size => obtain ⟨_, _, _, _, _, _, _, _, _, _, rfl⟩ := h.arr_inv; intro x hx; simp [Value.cells] at hx; subst hx; rfl
    | aptr id gen size i off => obtain ⟨_, _, _, _, rfl⟩ := h.aptr_inv; intro x hx; simp [Value.cells] at hx; subst hx; rfl
    | func f first cap => obtain ⟨_, _, rfl, _⟩ := h.func_inv; intro x hx; simp [Value.cells] at hx; subst hx; rfl
    | aggr ps =>
      intro x hx
      obtain ⟨cs, rfl, h1, h2⟩ := h.aggr_inv
      simp only [Value.cells] at hx
      obtain ⟨i, hi⟩ := List.mem_iff_getElem?.1 hx
      rw [Array.getElem?_toList] at hi
      have hlt : i < ps.length := by rw [← h1]; exact (Array.getElem?_eq_some_iff.1 hi).1
      have hc := h2 i _ (List.getElem?_eq_getElem hlt)
      rw [Array.getD_eq_getD_getElem?, hi] at hc
      have h3 := List.all_eq_true.1 hk _ (List.getElem_mem hlt)
      simp only [Bool.and_eq_true] at h3
      rcases hc with hc | hc
      · exact one_rep hc h3.2
      · cases hc' : ps[i] with
        | ref id off => rw [hc'] at hc; cases hc; rfl
        | arr id gen off len size => rw [hc'] at hc; cases hc; rfl
        | aptr id gen size i off => rw [hc'] at hc; cases hc; rfl
        | _ => rw [hc'] at hc; cases hc
    | _ => simp [PV.okc, PV.isRef, PV.isFn] at hk; exact absurd hk hf
theorem upd_cells {c x c' : PV} {off : Nat} (h : upd c off x = some c') : c'.cells = place1 c.cells off x.cells ∧ off + x.cells.length ≤ c.cells.length := by
  unfold upd at h
  split at h
  · split at h
    · rename_i hl
      cases h
      exact ⟨rfl, hl⟩
    · cases h
  · split at h
    · rename_i hl
      cases h
      exact ⟨rfl, hl⟩
    · cases h
  · rename_i hna hna2
    split at h
    · cases h
    · cases h
    · rename_i hxa hxa2
      split at h
      · rename_i h0
        cases h
        subst h0
        have e1 : c.cells = [c] := by cases c <;> first | rfl | exact absurd rfl (hna _) | exact absurd rfl (hna2 _)
        have e2 : x.cells = [x] := by cases x <;> first | rfl | exact absurd rfl (hxa _) | exact absurd rfl (hxa2 _)
        rw [e1, e2]; exact ⟨rfl, by simp⟩
      · cases h
theorem cells_place {G' : Gh} {w' : World} {b off : Nat} {tag : Option Nat → Tag} {ps qs : List PV} {ds : List Value} {cs : Array Value} {elem : TypeId}
    (hω : G'.ω b = some (tag none)) (hI : ∀ x, ¬ G'.I b x) (hheap : w'.heap[b]? = some (.cells (cs.toList.take off ++ ds ++ cs.toList.drop (off + ds.length)).toArray elem (0, 0)))
    (hsz : cs.size = ps.length) (hl : off + qs.length ≤ ps.length) (hds : ds.length = qs.length)
    (hold : ∀ (j : Nat) (p : PV), ps[j]? = some p → (j < off ∨ off + qs.length ≤ j) → CellOk G' w' b (tag (some j)) (cs.getD j undef) p)
    (hnew : ∀ (j : Nat) (q : PV), qs[j]? = some q → ∃ c, ds[j]? = some c ∧ CellOk G' w' b (tag (some (off + j))) c q) : CellsOk G' w' b tag (place1 ps off qs) := by
  have hcl : cs.toList.length = ps.length := by simpa using hsz
  have e1 : (cs.toList.take off).length = off := by rw [List.length_take, hcl]; omega
  have e2 : (ps.take off).length = off := by rw [List.length_take]; omega
  refine ⟨hω, hI, _, elem, hheap, ?_, fun j p hp => ?_⟩
  · unfold place1
    simp only [List.size_toArray, List.length_append, List.length_take, List.length_drop, hcl, hds]
  · have hgetD : ∀ (k : Nat) (c : Value) (l : List Value), l[k]? = some c → (l.toArray).getD k undef = c := by
      intro k c l h; rw [Array.getD_eq_getD_getElem?, List.getElem?_toArray, h]; rfl
    unfold place1 at hp
    rw [List.append_assoc] at hp ⊢
    by_cases h1 : j < off
    · rw [List.getElem?_append_left (by omega), List.getElem?_take, if_pos h1] at hp
      have r1 := hold j p hp (.inl h1)
      have : (cs.toList.take off ++ (ds ++ cs.toList.drop (off + ds.length))).toArray.getD j undef = cs.getD j undef := by
        rw [Array.getD_eq_getD_getElem?, List.getElem?_toArray, List.getElem?_append_left (by omega), List.getElem?_take, if_pos h1, Array.getElem?_toList, Array.getD_eq_getD_getElem?]
      rw [this]; exact r1
    · rw [List.getElem?_append_right (by omega), e2] at hp
      by_cases h2 : j - off < qs.length
      · rw [List.getElem?_append_left h2] at hp
        obtain ⟨c, hc, r2⟩ := hnew _ p hp
        have : (cs.toList.take off ++ (ds ++ cs.toList.drop (off + ds.length))).toArray.getD j undef = c := by
          apply hgetD
          rw [List.getElem?_append_right (by omega), e1, List.getElem?_append_left (by omega)]; exact hc
        rw [this]
        rw [show off + (j - off) = j from by omega] at r2
        exact r2
      · rw [List.getElem?_append_right (by omega), List.getElem?_drop] at hp
        rw [show off + qs.length + (j - off - qs.length) = j from by omega] at hp
        have r1 := hold j p hp (.inr (by omega))
        have : (cs.toList.take off ++ (ds ++ cs.toList.drop (off + ds.length))).toArray.getD j undef = cs.getD j undef := by
          rw [Array.getD_eq_getD_getElem?, List.getElem?_toArray, List.getElem?_append_right (by omega), e1, List.getElem?_append_right (by omega), List.getElem?_drop,
            show off + ds.length + (j - off - ds.length) = j from by omega, Array.getElem?_toList, Array.getD_eq_getD_getElem?]
        rw [this]; exact r1
theorem Inv.boxStep {G' : Gh} {w' : World} {X : Tag → Prop} {T : Nat → Prop} {d b : Nat} {c' : PV} (hi : Inv cx G a w A σ) (dst : Option Nat) (v : Value) (hdst : ∀ u, dst = some u → (cx.kd u).val = true)
    (hk : cx.kd d = .box) (hb : at' a d = .pointer (some ⟨b, 0, none⟩)) (hcells : CellsOk G' w' b (.slot d) c'.cells) (he : Ext X G G' w w') (hbase : Base cx G' w') (hbl : G'.bl = G.bl)
    (hX : ∀ tg, X tg → ∃ t j, tg = .slot t j ∧ (t = d ∨ T t)) (hT : ∀ t, T t → (cx.kd t).val = true) (hl : A'.length = A.length)
    (hA : ∀ t p, A'.get t = some p → (t = d ∧ p = c') ∨ (t ≠ d ∧ ¬ T t ∧ dst ≠ some t ∧ A.get t = some p) ∨ SlotOk cx G' (a.put dst v) w' t p) : Inv cx G' (a.put dst v) w' A' σ := by
  have hval : ∀ m, (cx.kd m).val = false → dst ≠ some m ∧ ¬ T m := fun m hm => by
    refine ⟨fun e => ?_, fun e => ?_⟩
    · rw [hdst m e] at hm; cases hm
    · rw [hT m e] at hm; cases hm
  refine hi.step X dst v he hbase hl ?_ ?_ (by rw [hbl]; exact hi.len) (by rw [hbl]; exact hi.abl)
  · intro t p hp
    rcases hA t p hp with ⟨rfl, rfl⟩ | ⟨h1, h2, h3, h4⟩ | h
    · refine .inr ((SlotOk_box hk).2 ⟨b, ?_, hcells⟩)
      rw [at'_put_ne _ _ _ _ (hval t (by rw [hk]; rfl)).1]; exact hb
    · refine .inl ⟨h4, h3, fun j hx => ?_, fun d' off e hbx => (hval d' (by rw [hbx]; rfl)).1, fun m hm => ?_⟩
      · obtain ⟨t', j', e, h⟩ := hX _ hx
        cases e
        rcases h with h | h
        · exact h1 h
        · exact h2 h
      · obtain ⟨keys, hkm⟩ := cx.ents t m hm
        have := hval m (by rw [hkm]; rfl)
        refine ⟨this.1, fun hx => ?_⟩
        obtain ⟨t', j', e, h⟩ := hX _ hx
        cases e
        rcases h with h | h
        · rw [h, hk] at hkm; cases hkm
        · exact this.2 h
    · exact .inr h
  · intro id cs hc
    refine .inl ⟨hc, fun j hx => ?_⟩
    obtain ⟨t', j', e, _⟩ := hX _ hx
    cases e
end
end Go.Abs

namespace Go.Abs
open Go.RowKit
section
variable {P : Program} {pur : FuncId → Bool} {call : Caller} {fi : FI} {cx : Cx} {G : Gh} {a : Act} {w : World} {A A' : Frm} {σ σ' : Sto}
theorem runX {ao : AOp} {k : PK} (hk : ao.k = .p k) (h : runA pur call ao A σ = some (A', σ')) :
    ∃ vs rs, evalArgs A ao.args = some vs ∧ semP k vs = some rs ∧ σ' = σ ∧ (rs.length = ao.dst.toList.length + ao.ex.length → A' = putAll A ao.wr (rs ++ ao.clr.map fun _ => none)) := by
  unfold runA at h
  split at h
  · rename_i vs hvs
    rw [hk] at h
    simp only [sem] at h
    split at h
    · rename_i rs σ₁ hs
      obtain ⟨rs', hrs, e⟩ := Option.map_eq_some_iff.1 hs
      cases e
      refine ⟨vs, rs, hvs, hrs, ?_, fun hl => ?_⟩
      · split at h
        · cases h; rfl
        · split at h <;> cases h; rfl
      · rw [if_pos hl] at h
        cases h; rfl
    · cases h
  · cases h
theorem get_lt {t : Nat} {p : PV} (h : A.get t = some p) : t < A.length := by
  unfold Frm.get at h
  split at h
  · rename_i v hv; exact (List.getElem?_eq_some_iff.1 hv).1
  · cases h
theorem ones_disown (p : PV) : p.disown.ones = p.ones := by
  cases p with
  | agg cs =>
    simp only [PV.disown, PV.ones, PV.cells, List.all_map]
    congr 1
    funext x
    cases x <;> rfl
  | aggr cs =>
    simp only [PV.disown, PV.ones, PV.cells, List.all_map]
    congr 1
    funext x
    cases x <;> rfl
  | _ => rfl
theorem box_store (hi : Inv cx G a w A σ) {d off b : Nat} {c p c' : PV} (hk : cx.kd d = .box) (hg : A.get d = some c) (hb : at' a d = .pointer (some ⟨b, 0, none⟩)) {v : Value} (hrep : RepT G.I G.bl w v p) (hok : p.okc = true) (hones : p.ones = true)
    (howns : ∀ (j : Nat) (q : PV), p.cells[j]? = some q → ∀ (G : Gh) (w : World) (tag : Tag) (c : Value), OwnOk G w tag c q) (hu : upd c off p = some c') {t : TypeId} {n : Nat} {ag : Bool} (hn : cellsT P t = some (n, ag)) (hv : p.cells.length = n) :
    ∃ w', (Instr.storeAt t (.pointer (some ⟨b, off, none⟩)) v).run P w = .ok () w' ∧ Inv cx G (a.put none undef) w' (A.set d (some c')) σ := by
  obtain ⟨b', hb', hω, hI, cs, elem, hheap, hsz, hall⟩ := (SlotOk_box hk).1 (hi.slot d c hg)
  rw [hb] at hb'; cases hb'
  obtain ⟨hc', hle⟩ := upd_cells hu
  have hcl := RepTL.of_okc hrep hok
  have hvs : v.cells.size = p.cells.length := by simpa using hcl.1
  have hext := ext_setRow (G := G) (w := w) (X := fun tg => tg = .slot d none) hω hI rfl (cs.toList.take off ++ v.cells.toList ++ cs.toList.drop (off + v.cells.toList.length)).toArray
  refine ⟨_, run_cellstore hn hheap (by omega) (ones_okc hrep hok hones) (by omega), ?_⟩
  refine hi.boxStep (X := fun tg => tg = .slot d none) (T := fun _ => False) (d := d) (c' := c') none undef (by simp) hk hb ?_ hext (base_setRow hi.base hω hI _) rfl ?_ (fun _ h => h.elim) (by simp) ?_
  · rw [hc']
    refine cells_place hω hI (setRow_heap _ _ _ _ _ _ hheap) hsz hle (by simpa using hvs) ?_ ?_
    · intro j q hq _
      exact (hall j q hq).ext hext (by simp)
    · intro j q hq
      obtain ⟨c, hc, hr⟩ := hcl.2 j q hq
      exact ⟨c, hc, .inl ⟨hr.mono hext.I hext.same hext.bl, howns j q hq ..⟩⟩
  · intro tg h; exact ⟨d, none, h, .inl rfl⟩
  · intro s q hq
    rw [get_set] at hq
    split at hq
    · rename_i h; cases hq; exact .inl ⟨h.1, rfl⟩
    · rename_i h
      exact .inr (.inl ⟨fun e => h ⟨e, get_lt hg⟩, id, by simp, hq⟩)
theorem sim_stl (hi : Inv cx G a w A σ) (hkd : ∀ t, cx.kd t = fi.kind t) {o : Oper} {t : TypeId} {s : Nat} {x : Operand} (ho : o.op = .store t (.tmp s) x) (hod : o.dst = none) (hk : cx.kd s = .box) {n : Nat} {ag : Bool} (hn : cellsT P t = some (n, ag))
    {as : List AArg} (hc : compArgs fi [x] = some as) (hrun : runA pur call { dst := none, k := .p (.stl 0 n), args := .slot s :: as, ex := [s] } A σ = some (A', σ')) : Gives P cx o a w A' σ' := by
  obtain ⟨vs, rs, he, hs, rfl, hA⟩ := runX rfl hrun
  obtain ⟨y, zs, rfl, hy, hz⟩ := compArgs_cons hc
  cases hz
  obtain ⟨c, qs, rfl, _, hq⟩ := evalArgs_cons he
  obtain ⟨p, qs, rfl, hp, hq⟩ := evalArgs_cons hq
  cases hq
  obtain ⟨hg, _⟩ := slot_get he
  simp only [semP] at hs
  split at hs
  · rename_i hf
    obtain ⟨hf1, hf2, hf3⟩ := hf
    obtain ⟨c', hc', e⟩ := Option.map_eq_some_iff.1 hs
    cases e
    obtain ⟨b, hb, _⟩ := (SlotOk_box hk).1 (hi.slot s c hg)
    have hrep := (arg_rep hi hkd hy hp (okc_free hf2)).disown
    obtain ⟨w', hr, hinv⟩ := box_store (P := P) hi hk hg hb hrep (by rw [okc_disown]; exact hf2) (by rw [ones_disown]; exact hf3) (fun j q hq => own_disown_cells hq) hc' hn (by rw [cells_disown]; exact hf1)
    have hev : a.eval (.tmp s) = .pointer (some ⟨b, 0, none⟩) := hb
    rw [hA rfl]
    refine .inr ⟨w', ?_, G, ?_⟩
    · simp [execOp, ho, hev, hr]
    · rw [hod]; exact hinv
  · cases hs
theorem sim_stf (hi : Inv cx G a w A σ) (hkd : ∀ t, cx.kd t = fi.kind t) {o : Oper} {t : TypeId} {s d : Nat} {x : Operand} (ho : o.op = .store t (.tmp s) x) (hod : o.dst = none) {n : Nat} {ag : Bool} (hn : cellsT P t = some (n, ag))
    {as : List AArg} (hc : compArgs fi [x] = some as) (hrun : runA pur call { dst := none, k := .p (.stf d n), args := .slot s :: .slot d :: as, ex := [d] } A σ = some (A', σ')) : Gives P cx o a w A' σ' := by
  obtain ⟨vs, rs, he, hs, rfl, hA⟩ := runX rfl hrun
  obtain ⟨y, zs, rfl, hy, hz⟩ := compArgs_cons hc
  cases hz
  obtain ⟨l, qs, rfl, _, hq⟩ := evalArgs_cons he
  obtain ⟨c, qs, rfl, _, hq'⟩ := evalArgs_cons hq
  obtain ⟨p, qs, rfl, hp, hq''⟩ := evalArgs_cons hq'
  cases hq''
  obtain ⟨hgs, _⟩ := slot_get he
  obtain ⟨hg, _⟩ := slot_get hq
  cases l with
  | lref d' off =>
    simp only [semP] at hs
    split at hs
    · rename_i hf
      obtain ⟨rfl, hf1, hf2, hf3⟩ := hf
      obtain ⟨c', hc', e⟩ := Option.map_eq_some_iff.1 hs
      cases e
      obtain ⟨hk, b, hb, hss⟩ := lref_inv hi hgs
      have hrep := (arg_rep hi hkd hy hp (okc_free hf2)).disown
      obtain ⟨w', hr, hinv⟩ := box_store (P := P) hi hk hg hb hrep (by rw [okc_disown]; exact hf2) (by rw [ones_disown]; exact hf3) (fun j q hq => own_disown_cells hq) hc' hn (by rw [cells_disown]; exact hf1)
      have hev : a.eval (.tmp s) = .pointer (some ⟨b, off, none⟩) := hss
      rw [hA rfl]
      refine .inr ⟨w', ?_, G, ?_⟩
      · simp [execOp, ho, hev, hr]
      · rw [hod]; exact hinv
    · cases hs
  | _ => simp [semP] at hs
theorem own_to (hb : Base cx G w) {t0 t1 : Tag} {v : Value} {p : PV} (ho : OwnOk G w t0 v p) :
    ∃ G', G'.I = G.I ∧ G'.bl = G.bl ∧ Ext (fun tg => tg = t0) G G' w w ∧ Base cx G' w ∧ OwnOk G' w t1 v p := by
  by_cases h : ∃ sz es, p = .slice true sz es
  · obtain ⟨sz, es, rfl⟩ := h
    obtain ⟨b, off, cap, cs, elem, rfl, h1, h2, h3, h4, h5, h6, h7⟩ := ho
    refine ⟨G.retag b t1, rfl, rfl, ext_retag h1 rfl, base_retag hb h1, ?_⟩
    exact ⟨b, off, cap, cs, elem, rfl, by simp [Gh.retag], h2, h3, h4, h5, h6, h7⟩
  · exact ⟨G, rfl, rfl, Ext.refl _ _ _, hb, own_none (fun sz es e => h ⟨sz, es, e⟩)⟩
theorem Ext.weaken {X Y : Tag → Prop} {G G' : Gh} {w w' : World} (h : Ext X G G' w w') (hXY : ∀ tg, X tg → Y tg) : Ext Y G G' w w' :=
  ⟨h.I, h.same, h.bl, fun id hid hX g => h.ab id hid (fun j hx => hX j (hXY _ hx)) g, fun b tag ht hn => h.fix b tag ht (fun hx => hn (hXY _ hx))⟩
def PV.isSl : PV → Bool
  | .slice _ _ _ | .nils => true
  | _ => false
theorem isSl_free {p : PV} (h : p.isSl = true) : p.free = true := by cases p <;> first | rfl | simp [PV.isSl] at h
theorem isSl_cells {p : PV} (h : p.isSl = true) : p.cells = [p] := by cases p <;> first | rfl | simp [PV.isSl] at h
theorem isSl_disown {p : PV} (h : p.isSl = true) : p.disown.isSl = true := by cases p <;> first | rfl | simp [PV.isSl] at h
theorem isSl_rep {I : Imm} {bl : Bl} {v : Value} {p : PV} (h : RepT I bl w v p) (hs : p.isSl = true) : Rep I w v p := by
  refine h.rep (by cases p <;> first | rfl | cases hs) ?_ ?_ ?_ <;> (intros; intro e; subst e; simp [PV.isSl] at hs)
theorem isSl_self {p : PV} (h : p.isSl = true) : p ≠ .self := by intro e; subst e; simp [PV.isSl] at h
theorem isSl_ones {p : PV} (h : p.isSl = true) : p.ones = true := by cases p <;> first | rfl | simp [PV.isSl] at h
theorem isSl_val {I : Imm} {v : Value} {p : PV} (h : Rep I w v p) (hs : p.isSl = true) : v.cells = #[v] := by
  cases h <;> first | rfl | simp [PV.isSl] at hs
theorem stfo_sem {d : Nat} {l c v : PV} {rs : List (Option PV)} (h : semP (.stfo d) [l, c, v] = some rs) : ∃ off c', l = .lref d off ∧ v.isSl = true ∧ upd c off v = some c' ∧ rs = [some c', some v.disown] := by
  cases l with
  | lref s off =>
    simp only [semP] at h
    split at h
    · rename_i e
      subst e
      cases v <;> first | (cases h; done) | (obtain ⟨c', hc', e⟩ := Option.map_eq_some_iff.1 h; exact ⟨off, c', rfl, rfl, hc', e.symm⟩)
    · cases h
  | _ => simp [semP] at h
theorem sim_stfo (hi : Inv cx G a w A σ) (hkd : ∀ t, cx.kd t = fi.kind t) (hnt : cx.nt = fi.nt) {o : Oper} {t : TypeId} {s d u : Nat} (ho : o.op = .store t (.tmp s) (.tmp u)) (hod : o.dst = none) {n : Nat} {ag : Bool} (hn : cellsT P t = some (n, ag)) (hn1 : n = 1)
    (hu : isPlain fi u = true) (hrun : runA pur call { dst := none, k := .p (.stfo d), args := [.slot s, .slot d, .slot u], ex := [d, u] } A σ = some (A', σ')) : Gives P cx o a w A' σ' := by
  subst hn1
  obtain ⟨vs, rs, he, hs, rfl, hA⟩ := runX rfl hrun
  obtain ⟨l, qs, rfl, _, hq⟩ := evalArgs_cons he
  obtain ⟨c, qs, rfl, _, hq'⟩ := evalArgs_cons hq
  obtain ⟨p, qs, rfl, hp, hq''⟩ := evalArgs_cons hq'
  cases hq''
  obtain ⟨hgs, _⟩ := slot_get he
  obtain ⟨hg, _⟩ := slot_get hq
  obtain ⟨off, c', rfl, hsl, hup, rfl⟩ := stfo_sem hs
  have huv := plain1 hkd hnt hu
  obtain ⟨hk, b, hb, hss⟩ := lref_inv hi hgs
  obtain ⟨hrT, how⟩ := slot_val hi huv.2 hp (isSl_free hsl)
  have hrep := isSl_rep hrT hsl
  obtain ⟨G', e1, e2, hext1, hbase1, how1⟩ := own_to (t1 := .slot d (some off)) hi.base how
  obtain ⟨b', hb', hω, hI, cs, elem, hheap, hsz, hall⟩ := (SlotOk_box hk).1 (hi.slot d c hg)
  rw [hb] at hb'; cases hb'
  obtain ⟨hc', hle⟩ := upd_cells hup
  have hud : u ≠ d := fun e => by rw [e, hk] at huv; simp [SK.val] at huv
  have hω' : G'.ω b = some (.slot d none) := (hext1.fix b _ hω (by simp; exact fun e => hud e.symm)).1
  have hI' : ∀ x, ¬ G'.I b x := by rw [e1]; exact hI
  have hvc := isSl_val hrep hsl
  have hpc := isSl_cells hsl
  rw [hpc] at hle hc'
  let arr : Array Value := (cs.toList.take off ++ (at' a u).cells.toList ++ cs.toList.drop (off + (at' a u).cells.toList.length)).toArray
  have hext2 := ext_setRow (G := G') (w := w) (X := fun tg => tg = .slot d none) hω' hI' rfl arr
  have hext : Ext (fun tg => tg = .slot u none ∨ tg = .slot d none) G G' w (w.setRow b arr) := (hext1.weaken (fun _ h => .inl h)).trans (hext2.weaken (fun _ h => .inr h))
  have hrun' : (Instr.storeAt t (.pointer (some ⟨b, off, none⟩)) (at' a u)).run P w = .ok () (w.setRow b arr) :=
    run_cellstore hn hheap (by rw [hvc]; rfl) (ones_rep hrep (isSl_ones hsl)) (by rw [hsz]; simpa using hle)
  have hev : a.eval (.tmp s) = .pointer (some ⟨b, off, none⟩) := hss
  have hevu : a.eval (.tmp u) = at' a u := rfl
  rw [hA rfl]
  refine .inr ⟨w.setRow b arr, ?_, G', ?_⟩
  · simp [execOp, ho, hev, hevu, hrun']
  · rw [hod]
    refine hi.boxStep (X := fun tg => tg = .slot u none ∨ tg = .slot d none) (T := fun t => t = u) (d := d) (c' := c') none undef (by simp) hk hb ?_ hext (base_setRow hbase1 hω' hI' _) e2 ?_ (fun t h => by rw [h]; exact huv.2) ?_ ?_
    · rw [hc']
      refine cells_place hω' hI' (setRow_heap _ _ _ _ _ _ hheap) hsz hle (by rw [hvc]; rfl) ?_ ?_
      · intro j q hq _
        exact ((hall j q hq).ext hext1 (by simp)).ext hext2 (by simp)
      · intro j q hq
        cases j with
        | zero =>
          simp at hq; subst hq
          exact ⟨at' a u, by rw [hvc]; rfl, .inl ⟨.one (.inl (hrep.mono hext.I hext.same)), how1.ext hext2 (by simp)⟩⟩
        | succ j => simp at hq
    · intro tg h
      rcases h with h | h
      · exact ⟨u, none, h, .inr rfl⟩
      · exact ⟨d, none, h, .inl rfl⟩
    · rw [putAll_len]
    · intro r q hq
      simp only [AOp.wr, Option.toList, List.map_nil, List.append_nil, List.nil_append, putAll] at hq
      rw [get_set] at hq
      split at hq
      · rename_i h
        cases hq
        refine .inr (.inr ?_)
        rw [h.1, SlotOk_val huv.2 (by rw [free_disown]; exact isSl_free hsl)]
        exact ⟨.one (.inl (hrep.mono hext.I hext.same).disown), OwnOk_disown p⟩
      · rename_i h1
        rw [get_set] at hq
        split at hq
        · rename_i h; cases hq; exact .inl ⟨h.1, rfl⟩
        · rename_i h2
          refine .inr (.inl ⟨fun e => h2 ⟨e, get_lt hg⟩, fun e => h1 ⟨e, by simp; have := hi.room; omega⟩, by simp, hq⟩)
theorem ldfo_sem {d : Nat} {l c : PV} {rs : List (Option PV)} (h : semP (.ldfo d) [l, c] = some rs) : ∃ off v c', l = .lref d off ∧ c.cells[off]? = some v ∧ v.isSl = true ∧ upd c off v.disown = some c' ∧ rs = [some v, some c'] := by
  cases l with
  | lref s off =>
    simp only [semP] at h
    split at h
    · rename_i e
      subst e
      split at h
      · rename_i v hv
        cases v <;> first | (cases h; done) | (obtain ⟨c', hc', e⟩ := Option.map_eq_some_iff.1 h; exact ⟨off, _, c', rfl, hv, rfl, hc', e.symm⟩)
      · cases h
    · cases h
  | _ => simp [semP] at h
theorem place1_one {ps : List PV} {off j : Nat} {x p : PV} (h : (place1 ps off [x])[j]? = some p) (hl : off < ps.length) : (j = off ∧ p = x) ∨ (j ≠ off ∧ ps[j]? = some p) := by
  unfold place1 at h
  have e2 : (ps.take off).length = off := by rw [List.length_take]; omega
  rw [List.append_assoc] at h
  by_cases h1 : j < off
  · rw [List.getElem?_append_left (by omega), List.getElem?_take, if_pos h1] at h
    exact .inr ⟨by omega, h⟩
  · rw [List.getElem?_append_right (by omega), e2] at h
    by_cases h2 : j = off
    · subst h2
      simp at h
      exact .inl ⟨rfl, h.symm⟩
    · rw [List.getElem?_append_right (by simp; omega), List.getElem?_drop] at h
      refine .inr ⟨h2, ?_⟩
      rw [show off + [x].length + (j - off - [x].length) = j from by simp; omega] at h
      exact h
theorem cells_give {G' : Gh} {b off : Nat} {tag : Option Nat → Tag} {ps : List PV} {v : PV} (hns : v ≠ .self) (hc : CellsOk G w b tag ps) (hv : ps[off]? = some v) (hI : G'.I = G.I) (hext : Ext (fun tg => tg = tag (some off)) G G' w w) (htag : ∀ i j, tag i = tag j → i = j) :
    CellsOk G' w b tag (place1 ps off [v.disown]) := by
  obtain ⟨hω, hnI, cs, elem, hheap, hsz, hall⟩ := hc
  have hlt := (List.getElem?_eq_some_iff.1 hv).1
  refine ⟨(hext.fix b _ hω (fun e => by cases htag _ _ e)).1, by rw [hI]; exact hnI, cs, elem, hheap, ?_, fun j p hp => ?_⟩
  · rw [hsz]; unfold place1
    simp only [List.length_append, List.length_take, List.length_drop, List.length_cons, List.length_nil]; omega
  · rcases place1_one hp hlt with ⟨rfl, rfl⟩ | ⟨hj, hp⟩
    · exact .inl ⟨((hall _ _ hv).rep hns).1.disown.mono hext.I hext.same hext.bl, OwnOk_disown v⟩
    · exact (hall _ _ hp).ext hext (fun e => hj (by have := htag _ _ e; simpa using this))
theorem sim_ldfo (hi : Inv cx G a w A σ) (hkd : ∀ t, cx.kd t = fi.kind t) (hnt : cx.nt = fi.nt) {o : Oper} {t : TypeId} {s d u : Nat} (ho : o.op = .load t (.tmp s)) (hod : o.dst = some u) {n : Nat} (hn : cellsT P t = some (n, false))
    (hu : isPlain fi u = true) (hrun : runA pur call { dst := some u, k := .p (.ldfo d), args := [.slot s, .slot d], ex := [d] } A σ = some (A', σ')) : Gives P cx o a w A' σ' := by
  obtain ⟨vs, rs, he, hs, rfl, hA⟩ := runX rfl hrun
  obtain ⟨l, qs, rfl, _, hq⟩ := evalArgs_cons he
  obtain ⟨c, qs, rfl, _, hq'⟩ := evalArgs_cons hq
  cases hq'
  obtain ⟨hgs, _⟩ := slot_get he
  obtain ⟨hg, _⟩ := slot_get hq
  obtain ⟨off, v, c', rfl, hv, hsl, hup, rfl⟩ := ldfo_sem hs
  have huv := plain1 hkd hnt hu
  obtain ⟨hk, b, hb, hss⟩ := lref_inv hi hgs
  obtain ⟨b', hb', hcell⟩ := (SlotOk_box hk).1 (hi.slot d c hg)
  rw [hb] at hb'; cases hb'
  have hsub : sub c off n false = some v := by
    simp only [sub, hv]
    rw [if_neg]
    intro e; cases v <;> simp [PV.isAgg, PV.isSelf, PV.isSl] at e hsl
  obtain ⟨x, hr1, hr2⟩ := run_boxload (P := P) hn hcell hsub
  have hcell' := hcell
  obtain ⟨hω, hI, cs, elem, hheap, hsz, hall⟩ := hcell
  have hlt : off < cs.size := by have := (List.getElem?_eq_some_iff.1 hv).1; omega
  have hx : x = cs.getD off undef := by
    have : (Instr.loadAt t (.pointer (some ⟨b, off, none⟩))).run P w = .ok (cs.getD off undef) w := by
      have hcc : w.cell? ⟨b, off, none⟩ = some (cs.getD off undef) := by simp [World.cell?, hheap, Array.getD, hlt]
      simp [Instr.loadAt, Instr.sureAddr, loadVar, run_isAgg hn, hcc]
    rw [this] at hr1; cases hr1; rfl
  subst hx
  obtain ⟨G', e1, e2, hext, hbase, how⟩ := own_to (t1 := .slot u none) hi.base ((hall off v hv).rep (isSl_self hsl)).2
  obtain ⟨hc', hle⟩ := upd_cells hup
  rw [isSl_cells (isSl_disown hsl)] at hc'
  have hud : u ≠ d := fun e => by rw [e, hk] at huv; simp [SK.val] at huv
  have hev : a.eval (.tmp s) = .pointer (some ⟨b, off, none⟩) := hss
  rw [hA rfl]
  refine .inl ⟨cs.getD off undef, w, by simp [execOp, ho, hev, hr1], G', ?_⟩
  rw [hod]
  refine hi.boxStep (X := fun tg => tg = .slot d (some off)) (T := fun _ => False) (d := d) (c' := c') (some u) _ (fun u' e => by cases e; exact huv.2) hk hb ?_ hext hbase e2 ?_ (fun _ h => h.elim) ?_ ?_
  · rw [hc']
    exact cells_give (isSl_self hsl) hcell' hv e1 hext (fun i j e => by cases e; rfl)
  · intro tg h; exact ⟨d, some off, h, .inl rfl⟩
  · rw [putAll_len]
  · intro r q hq
    simp only [AOp.wr, Option.toList, List.map_nil, List.append_nil, List.cons_append, List.nil_append, putAll] at hq
    rw [get_set] at hq
    split at hq
    · rename_i h; cases hq; exact .inl ⟨h.1, rfl⟩
    · rename_i h1
      rw [get_set] at hq
      split at hq
      · rename_i h
        cases hq
        refine .inr (.inr ?_)
        rw [h.1, SlotOk_val huv.2 (isSl_free hsl), at'_put _ _ _ (by rw [hi.size]; exact huv.1)]
        exact ⟨hr2.mono hext.I hext.same hext.bl, how⟩
      · rename_i h2
        refine .inr (.inl ⟨fun e => h1 ⟨e, by simp; exact get_lt hg⟩, id, fun e => h2 ⟨(Option.some.inj e).symm, by have := hi.room; omega⟩, hq⟩)
end
end Go.Abs

namespace Go.Abs
open Go.RowKit
def Gh.shut (G : Gh) (b : Nat) (J : Option Nat → Prop) : Gh := ⟨fun b' x => G.I b' x ∨ (b' = b ∧ J x), fun b' => if b' = b then none else G.ω b', G.bl⟩
section
variable {P : Program} {pur : FuncId → Bool} {call : Caller} {fi : FI} {cx : Cx} {G : Gh} {a : Act} {w : World} {A A' : Frm} {σ σ' : Sto}
theorem base_shut (hb : Base cx G w) {b : Nat} {t0 : Tag} (hω : G.ω b = some t0) (J : Option Nat → Prop) : Base cx (G.shut b J) w := by
  obtain ⟨hlt, hK⟩ := hb.own b t0 hω
  refine ⟨hb.keep, hb.same, fun b' x h => .inl (hb.sub b' x h), fun b' x h => ?_, fun b' x h => ?_, fun b' tg h => ?_, hb.Klt, hb.grow, hb.bl, hb.os, hb.tape, hb.output⟩
  · rcases h with h | ⟨rfl, _⟩
    · exact hb.new b' x h
    · exact .inr hK
  · rcases h with h | ⟨rfl, _⟩
    · exact hb.lt b' x h
    · exact hlt
  · simp only [Gh.shut] at h
    split at h
    · cases h
    · exact hb.own b' tg h
theorem ext_shut {X : Tag → Prop} {b : Nat} {t0 : Tag} (hω : G.ω b = some t0) (hX : X t0) (J : Option Nat → Prop) : Ext X G (G.shut b J) w w := by
  refine ⟨fun _ _ h => .inl h, Same.refl _ _, Bl.le_refl _, fun _ _ _ _ => rfl, fun b' tg h' hn => ?_⟩
  have hne : b' ≠ b := by
    intro e; subst e
    rw [hω] at h'; cases h'
    exact hn hX
  refine ⟨by simp [Gh.shut, hne, h'], rfl, fun x hx => ?_⟩
  rcases hx with hx | ⟨rfl, _⟩
  · exact hx
  · exact absurd rfl hne
theorem SlotOk_hole {t n : Nat} (hk : (cx.kd t).val = true) : SlotOk cx G a w t (.hole n) ↔ ∃ b, at' a t = .pointer (some ⟨b, 0, none⟩) ∧ HoleOk G w b (.slot t none) n := by
  unfold SlotOk
  cases h : cx.kd t <;> rw [h] at hk <;> first | (simp [SK.val] at hk; done) | exact Iff.rfl
theorem sim_zi (hi : Inv cx G a w A σ) {o : Oper} {t : TypeId} (ho : o.op = .alloc t) {d : Nat} (hod : o.dst = some d)
    (hd : d < cx.nt) (hk : (cx.kd d).val = true) {z : PV} (hz : zeroP P t = some z) {n : Nat} (hzn : z.cells.length = n)
    (hrun : runA pur call { dst := some d, k := .p (.zi n), args := [] } A σ = some (A', σ')) : Gives P cx o a w A' σ' := by
  obtain ⟨vs, rs, he, hs, rfl, hA⟩ := runX rfl hrun
  cases he
  simp only [semP] at hs
  cases hs
  rw [hA rfl]
  unfold zeroP at hz
  split at hz
  · rename_i it hit
    obtain ⟨zv, hzv, hzp⟩ := Option.bind_eq_some_iff.1 hz
    have hzr : Rep G.I w zv z := rep_ofVal hzp
    refine .inl ⟨.pointer (some ⟨w.heap.size, 0, none⟩), w.alloc (.cells zv.cells t), ?_, G.newB w.heap.size (fun _ => False) (some (.slot d none)), ?_⟩
    · have hzrun : (zeroValue t).run P w = .ok zv w := by simp [zeroValue, typeInfo, hit, hzv]
      simp only [execOp, ho, Instr.alloc, Sem.run_bind, hzrun, Result.andThen_ok, newVar, newRow]; rfl
    · rw [hod]
      refine hi.step (fun tg => tg = .slot d none) (some d) _ (ext_newB _ hi.base _ _ _) (base_newB hi.base _ _ _) (by rw [putAll_len]) ?_ (fun _ cs hc => .inl ⟨hc, fun _ h => by cases h⟩) hi.len hi.abl
      intro s q hq
      simp only [AOp.wr, Option.toList, List.map_nil, List.append_nil, putAll] at hq
      rw [get_set] at hq
      split at hq
      · rename_i h
        cases hq
        refine .inr ?_
        rw [h.1, SlotOk_hole hk]
        refine ⟨w.heap.size, at'_put _ _ _ (by rw [hi.size]; exact hd), if_pos rfl, ?_, zv.cells, t, heap_alloc_new' _ _, ?_⟩
        · rintro x (h | ⟨_, h⟩)
          · have := hi.base.lt _ _ h; omega
          · exact h
        · rw [(rep_cells hzr).1, hzn]
      · rename_i h
        have hsd : s ≠ d := fun e => h ⟨e, by have := hi.room; omega⟩
        refine .inl ⟨hq, fun e => hsd (Option.some.inj e).symm, fun j h => ?_, fun d' off e hbx hdd => ?_, fun m hm => ?_⟩
        · cases h; exact hsd rfl
        · have := Option.some.inj hdd
          subst this
          rw [hbx] at hk; simp [SK.val] at hk
        · obtain ⟨keys, hkm⟩ := cx.ents s m hm
          have : m ≠ d := fun e => by rw [e] at hkm; rw [hkm] at hk; simp [SK.val] at hk
          exact ⟨fun e => this (Option.some.inj e).symm, fun e => by cases e; exact this rfl⟩
  · cases hz
theorem sim_sti (hi : Inv cx G a w A σ) (hkd : ∀ t, cx.kd t = fi.kind t) {o : Oper} {t : TypeId} {s : Nat} {x : Operand} (ho : o.op = .store t (.tmp s) x) (hod : o.dst = none) (hk : (cx.kd s).val = true) {n : Nat} {ag : Bool} (hn : cellsT P t = some (n, ag))
    {as : List AArg} (hc : compArgs fi [x] = some as) (hrun : runA pur call { dst := none, k := .p (.sti n), args := .slot s :: as, ex := [s] } A σ = some (A', σ')) : Gives P cx o a w A' σ' := by
  obtain ⟨vs, rs, he, hs, rfl, hA⟩ := runX rfl hrun
  obtain ⟨y, zs, rfl, hy, hz⟩ := compArgs_cons hc
  cases hz
  obtain ⟨c, qs, rfl, _, hq⟩ := evalArgs_cons he
  obtain ⟨p, qs, rfl, hp, hq⟩ := evalArgs_cons hq
  cases hq
  obtain ⟨hg, _⟩ := slot_get he
  cases c with
  | hole m =>
    simp only [semP] at hs
    split at hs
    · rename_i hf
      obtain ⟨rfl, hf1, hf2, hf3⟩ := hf
      cases hs
      obtain ⟨b, hb, hω, hI, cs, elem, hheap, hsz⟩ := (SlotOk_hole hk).1 (hi.slot s _ hg)
      have hrep := ((arg_rep hi hkd hy hp (free_of_flat hf2)).flat hf2).disown
      have hvs := (rep_cells hrep).1
      rw [cells_disown, hf1] at hvs
      have hcells : (cs.toList.take 0 ++ (a.eval x).cells.toList ++ cs.toList.drop (0 + (a.eval x).cells.toList.length)).toArray = (a.eval x).cells := by
        rw [List.take_zero, List.drop_eq_nil_of_le (by simp; omega)]; simp
      have hrun' := run_cellstore (off := 0) hn hheap hvs (ones_rep hrep (by rw [ones_disown]; exact hf3)) (by omega)
      rw [hcells] at hrun'
      have hev : a.eval (.tmp s) = .pointer (some ⟨b, 0, none⟩) := hb
      let J : Option Nat → Prop := fun x => ∃ o, x = some o
      have hext1 := ext_setRow (G := G) (w := w) (X := fun tg => tg = .slot s none) hω hI rfl (a.eval x).cells
      have hext2 := ext_shut (G := G) (w := w.setRow b (a.eval x).cells) (X := fun tg => tg = .slot s none) hω rfl J
      have hext := hext1.trans hext2
      rw [hA rfl]
      refine .inr ⟨w.setRow b (a.eval x).cells, by simp [execOp, ho, hev, hrun'], G.shut b J, ?_⟩
      rw [hod]
      refine hi.step _ none undef hext (base_shut (base_setRow hi.base hω hI _) hω J) (by rw [putAll_len]) ?_ (fun _ cs hc => .inl ⟨hc, fun _ h => by cases h⟩) hi.len hi.abl
      intro r q hq
      simp only [AOp.wr, Option.toList, List.map_nil, List.append_nil, List.nil_append, putAll] at hq
      rw [get_set] at hq
      split at hq
      · rename_i h
        cases hq
        refine .inr ?_
        rw [h.1, SlotOk_val hk rfl]
        refine ⟨?_, trivial⟩
        show RepT _ _ _ (at' a s) _
        rw [hb]
        refine .one (.inl (.vptr (fun j => (a.eval x).cells.getD j undef) (fun j q hq => .inr ⟨rfl, ⟨_, rfl⟩⟩) (fun j q hq => ?_) (fun j q hq => ((rep_cells hrep).2 j q hq).mono hext.I hext.same)))
        have hlt : j < (a.eval x).cells.size := by have := (List.getElem?_eq_some_iff.1 hq).1; rw [cells_disown] at this; omega
        simp [World.cell?, setRow_heap _ _ _ _ _ _ hheap, Array.getD, hlt]
      · rename_i h
        have hrs : r ≠ s := fun e => h ⟨e, get_lt hg⟩
        refine .inl ⟨hq, by simp, fun j h => by cases h; exact hrs rfl, fun _ _ _ _ => by simp, fun m' hm => ⟨by simp, fun e => ?_⟩⟩
        cases e
        obtain ⟨keys, hkm⟩ := cx.ents r s hm
        rw [hkm] at hk; simp [SK.val] at hk
    · cases hs
  | _ => simp [semP] at hs
end
end Go.Abs
