/- A part of the proof: A25 A26 A34. -/
import Derived.Test.YtakhbjefcjmelaaGreatDoorKf

set_option linter.unusedVariables false
set_option linter.unusedSimpArgs false
namespace Go.Abs
open Go.RowKit
section
variable {P : Program} {pur : FuncId → Bool} {call : Caller} {fi : FI} {cx : Cx} {G : Gh} {a : Act} {w : World} {A A' : Frm} {σ σ' : Sto}
structure OneBlock (b : Nat) (w w' : World) : Prop where
  other : ∀ k, k ≠ b → w'.heap[k]? = w.heap[k]?
  size : w'.heap.size = w.heap.size
  os : w'.os = w.os
  tape : w'.tape = w.tape
  output : w'.output = w.output
theorem ext_block {X : Tag → Prop} {b : Nat} {t0 : Tag} {w' : World} (h : OneBlock b w w') (hω : G.ω b = some t0) (hI : ∀ x, ¬ G.I b x) (hX : X t0) : Ext X G G w w' := by
  have hne : ∀ b' x, G.I b' x → b' ≠ b := fun b' x h e => hI x (e ▸ h)
  refine ⟨fun _ _ h => h, ⟨fun b' o h' => cell_of_heap (h.other _ (hne _ _ h')), fun b' h' => h.other _ (hne _ _ h')⟩, Bl.le_refl _, fun _ _ _ _ => rfl, fun b' tg h' hn => ⟨h', h.other _ ?_, fun _ h => h⟩⟩
  intro e; subst e
  rw [hω] at h'; cases h'
  exact hn hX
theorem base_block (hb : Base cx G w) {b : Nat} {t0 : Tag} {w' : World} (h : OneBlock b w w') (hω : G.ω b = some t0) (hI : ∀ x, ¬ G.I b x) : Base cx G w' := by
  have hne : ∀ b' x, G.I b' x → b' ≠ b := fun b' x h e => hI x (e ▸ h)
  have hK : ∀ b', cx.K b' → b' ≠ b := fun b' h e => (hb.own b t0 hω).2 (e ▸ h)
  refine ⟨fun b' h' => ?_, ?_, hb.sub, hb.new, fun b' x h' => by rw [h.size]; exact hb.lt b' x h', fun b' tg h' => by rw [h.size]; exact hb.own b' tg h', hb.Klt, by rw [h.size]; exact hb.grow, hb.bl, by rw [h.os]; exact hb.os, by rw [h.tape]; exact hb.tape, by rw [h.output]; exact hb.output⟩
  · rw [h.other _ (hK b' h')]; exact hb.keep b' h'
  · exact hb.same.trans (I' := G.I) ⟨fun b' o h' => cell_of_heap (h.other _ (hne _ _ h')), fun b' h' => h.other _ (hne _ _ h')⟩ hb.sub
theorem SlotOk_mapb {t : Nat} {v : PV} {keys : List Ky} (hk : cx.kd t = .mapb keys) : SlotOk cx G a w t v ↔ (v = .mapb ∧ ∃ r, at' a t = .map (some r) ∧ BuildOk G w r (.slot t none) keys) := by
  unfold SlotOk; rw [hk]
theorem SlotOk_ent {t m : Nat} {key : Ky} {v : PV} (hk : cx.kd t = .ent m key) : SlotOk cx G a w t v ↔ ∃ k x ky r, v = .tuple [k, x] ∧ kyOf k = some ky ∧ at' a m = .map (some r) ∧ EntryOk G w r (.slot m none) ky x ∧ ky = key := by
  unfold SlotOk; rw [hk]
theorem mem_entsOf {t m : Nat} {key : Ky} (h : fi.kind t = .ent m key) : t ∈ fi.entsOf m := by
  unfold FI.entsOf
  rw [List.mem_filter]
  refine ⟨?_, by rw [h]; simp⟩
  rw [List.mem_range]
  unfold FI.kind at h
  by_cases hl : t < fi.kd.length
  · exact hl
  · rw [List.getD_eq_getElem?_getD, List.getElem?_eq_none (by omega)] at h; cases h
theorem of_entsOf {t m : Nat} (h : t ∈ fi.entsOf m) : ∃ key, fi.kind t = .ent m key := by
  unfold FI.entsOf at h
  rw [List.mem_filter] at h
  have h2 := h.2
  split at h2
  · rename_i m' key hk
    have : m' = m := by simpa using h2
    subst this
    exact ⟨key, hk⟩
  · cases h2
theorem sim_mkm (hi : Inv cx G a w A σ) (hkd : ∀ t, cx.kd t = fi.kind t) {o : Oper} {t : TypeId} (ho : o.op = .makeMap t none) {s : Nat} (hod : o.dst = some s)
    (hs : s < cx.nt) {keys : List Ky} (hk : cx.kd s = .mapb keys)
    (hrun : runA pur call { dst := some s, k := .p .mkm, args := [], clr := fi.entsOf s } A σ = some (A', σ')) : Gives P cx o a w A' σ' := by
  obtain ⟨vs, rs, he, hm, rfl, hA⟩ := runC hrun
  cases he
  simp only [semP] at hm
  cases hm
  rw [hA _ rfl]
  have hext := ext_newB (G := G) (fun tg => tg = .slot s none) hi.base (.map #[] 0) (fun _ => False) (some (.slot s none))
  refine .inl ⟨.map (some w.heap.size), w.alloc (.map #[] 0), by simp [execOp, ho, Instr.makeMap], G.newB w.heap.size (fun _ => False) (some (.slot s none)), ?_⟩
  rw [hod]
  refine hi.step _ (some s) _ hext (base_newB hi.base _ _ _) (by rw [putAll_len]; simp) ?_ (fun _ cs hc => .inl ⟨hc, fun _ h => by cases h⟩) hi.len hi.abl
  intro r q hq
  obtain ⟨hns, hq⟩ := putAll_none _ _ _ _ hq
  rw [get_set] at hq
  split at hq
  · rename_i h
    cases hq
    refine .inr ?_
    rw [h.1, SlotOk_mapb hk]
    refine ⟨rfl, w.heap.size, at'_put _ _ _ (by rw [hi.size]; exact hs), if_pos rfl, ?_, #[], 0, heap_alloc_new' _ _, fun i e h => by simp at h, fun i j e f h => by simp at h⟩
    rintro x (h | ⟨_, h⟩)
    · have := hi.base.lt _ _ h; omega
    · exact h
  · rename_i h
    have hrs : r ≠ s := fun e => h ⟨e, by have := hi.room; omega⟩
    refine .inl ⟨hq, fun e => hrs (Option.some.inj e).symm, fun j h => by cases h; exact hrs rfl, fun d' off e hbx hdd => ?_, fun m hm => ?_⟩
    · cases hdd
      rw [hbx] at hk; cases hk
    · obtain ⟨key, hke⟩ := hm
      have : m ≠ s := fun e => by
        subst e
        rw [hkd] at hke
        exact hns (mem_entsOf hke)
      exact ⟨fun e => this (Option.some.inj e).symm, fun e => by cases e; exact this rfl⟩
theorem sameBits_ky (k : Ky) : Instr.sameBits 10000 k.val k.val = true := by
  cases k with
  | i k n => simp [Ky.val, Instr.sameBits]
  | s l =>
    simp only [Ky.val, Instr.sameBits]
    exact (Go.MapKept.bytes_beq _ _).2 rfl
theorem run_setEntry {t kt et : TypeId} (ht : P.underlying t = some (.map kt et)) {d : TypeDesc} (hkt : P.underlying kt = some d) (hdk : (∃ k, d = .int k) ∨ d = .string) {k : Ky} (hint : k.isInt = d.isInt)
    {r clock : Nat} {es : Array MapEntry} (hheap : w.heap[r]? = some (.map es clock)) (hsk : ∀ (i : Nat) (e : MapEntry), es[i]? = some e → ∃ k', e.key = k'.val ∧ sameKind k k' = true)
    (hone : ∀ (i j : Nat) (e f : MapEntry), es[i]? = some e → es[j]? = some f → e.key = f.key → i = j) (v : Value) :
    ∃ (w' : World) (es' : Array MapEntry) (clock' : Nat), (Instr.mapUpdate t (.map (some r)) k.val v).run P w = .ok () w' ∧ OneBlock r w w' ∧ w'.heap[r]? = some (.map es' clock') ∧
      (∃ (i : Nat) (e : MapEntry), es'[i]? = some e ∧ e.key = k.val ∧ e.val = v) ∧ (∀ (i : Nat) (e : MapEntry), es[i]? = some e → e.key ≠ k.val → es'[i]? = some e) ∧
      (∀ (i : Nat) (e : MapEntry), es'[i]? = some e → e.key = k.val ∨ es[i]? = some e) ∧
      (∀ (i j : Nat) (e f : MapEntry), es'[i]? = some e → es'[j]? = some f → e.key = f.key → i = j) := by
  have hdd : (∃ i, d = .int i) ∧ (∃ i n, k = .i i n) ∨ d = .string ∧ ∃ l, k = .s l := by
    rcases hdk with ⟨i, rfl⟩ | rfl
    · cases k with
      | i j n => exact .inl ⟨⟨i, rfl⟩, j, n, rfl⟩
      | s l => simp [TypeDesc.isInt, Ky.isInt] at hint
    · cases k with
      | i j n => simp [TypeDesc.isInt, Ky.isInt] at hint
      | s l => exact .inr ⟨rfl, l, rfl⟩
  have hck := run_checkKey (P := P) (w := w) (empty := false) hkt hdk k.val
  have hget : (getObj r).run P w = .ok (.map es clock) w := by simp [getObj, Sem.run, hheap]
  have hrl : r < w.heap.size := by
    rcases Nat.lt_or_ge r w.heap.size with h | h
    · exact h
    · rw [Array.getElem?_eq_none h] at hheap; cases hheap
  have hset : ∀ o : Obj, OneBlock r w { w with heap := w.heap.setIfInBounds r o } := fun o =>
    ⟨fun k hk => by show (w.heap.setIfInBounds r o)[k]? = _; rw [Array.getElem?_setIfInBounds_ne (fun e => hk e.symm)], by simp, rfl, rfl, rfl⟩
  have hseth : ∀ o : Obj, ({ w with heap := w.heap.setIfInBounds r o } : World).heap[r]? = some o := fun o => by
    show (w.heap.setIfInBounds r o)[r]? = _; simp [hrl]
  rcases findNow_some hdd es.toList 0 (fun e he => by
      obtain ⟨i, hie⟩ := List.mem_iff_getElem?.1 he
      rw [Array.getElem?_toList] at hie
      exact hsk i e hie) with ⟨j, e, hej, hke, hfn⟩ | ⟨hno, hfn⟩
  · rw [Array.getElem?_toList] at hej
    have hjl : j < es.size := (Array.getElem?_eq_some_iff.1 hej).1
    let es' := es.modify j fun e => { e with key := k.val, val := v }
    have hget' : ∀ i, es'[i]? = if j = i then (es[i]?).map (fun e => { e with key := k.val, val := v }) else es[i]? := fun i => by
      show (es.modify j _)[i]? = _
      rw [Array.getElem?_modify]
    have hj' : es'[j]? = some { e with key := k.val, val := v } := by rw [hget', if_pos rfl, hej]; rfl
    refine ⟨{ w with heap := w.heap.setIfInBounds r (.map es' clock) }, es', clock, ?_, hset _, hseth _, ⟨j, _, hj', rfl, rfl⟩, fun i f hf hne => ?_, fun i f hf => ?_, fun i i' f f' hf hf' heq => ?_⟩
    · have hst : (setObj r (.map es' clock)).run P w = .ok () { w with heap := w.heap.setIfInBounds r (.map es' clock) } := MapKept.run_setObj_map _ hheap
      have hkey : (Instr.keyThatStays (((es[j]?).map (·.key)).getD k.val) k.val).run P w = .ok k.val w := by
        rw [hej]
        simp [Instr.keyThatStays, hke, sameBits_ky]
      simp only [Instr.mapUpdate, Sem.run_bind, run_underlying ht, Result.andThen_ok, hget, hck, MapKept.run_findKey hkt hfn, Nat.zero_add, hkey]
      exact hst
    · have hij : j ≠ i := fun e' => by subst e'; rw [hej] at hf; cases hf; exact hne hke
      rw [hget', if_neg hij]; exact hf
    · rw [hget'] at hf
      split at hf
      · obtain ⟨e', _, rfl⟩ := Option.map_eq_some_iff.1 hf
        exact .inl rfl
      · exact .inr hf
    · have key : ∀ (i : Nat) (f : MapEntry), es'[i]? = some f → ∃ g, es[i]? = some g ∧ g.key = f.key := fun i f hf => by
        rw [hget'] at hf
        split at hf
        · rename_i hji
          subst hji
          obtain ⟨e', he', rfl⟩ := Option.map_eq_some_iff.1 hf
          rw [hej] at he'; cases he'
          exact ⟨e, hej, hke⟩
        · exact ⟨f, hf, rfl⟩
      obtain ⟨g, hg, hgk⟩ := key i f hf
      obtain ⟨g', hg', hgk'⟩ := key i' f' hf'
      exact hone i i' g g' hg hg' (by rw [hgk, hgk', heq])
  · let es' := es.push { key := k.val, val := v, born := clock }
    have hget' : ∀ i, es'[i]? = if i = es.size then some { key := k.val, val := v, born := clock } else es[i]? := fun i => by
      show (es.push _)[i]? = _
      rw [Array.getElem?_push]
    have hno' : ∀ (i : Nat) (f : MapEntry), es[i]? = some f → f.key ≠ k.val := fun i f hf => by
      rw [← Array.getElem?_toList] at hf
      exact hno f (List.mem_of_getElem? hf)
    have hlt' : ∀ (i : Nat) (f : MapEntry), es[i]? = some f → i ≠ es.size := fun i f hf e => by
      have := (Array.getElem?_eq_some_iff.1 hf).1; omega
    refine ⟨{ w with heap := w.heap.setIfInBounds r (.map es' (clock + 1)) }, es', clock + 1, ?_, hset _, hseth _, ⟨es.size, _, by rw [hget', if_pos rfl], rfl, rfl⟩, fun i f hf hne => ?_, fun i f hf => ?_, fun i i' f f' hf hf' heq => ?_⟩
    · have hst : (setObj r (.map es' (clock + 1))).run P w = .ok () { w with heap := w.heap.setIfInBounds r (.map es' (clock + 1)) } := MapKept.run_setObj_map _ hheap
      simp only [Instr.mapUpdate, Sem.run_bind, run_underlying ht, Result.andThen_ok, hget, hck, MapKept.run_findKey hkt hfn]
      exact hst
    · rw [hget', if_neg (hlt' i f hf)]; exact hf
    · rw [hget'] at hf
      split at hf
      · cases hf; exact .inl rfl
      · exact .inr hf
    · rw [hget'] at hf hf'
      split at hf
      · split at hf'
        · rename_i h1 h2; rw [h1, h2]
        · cases hf; exact absurd heq.symm (hno' i' f' hf')
      · split at hf'
        · cases hf'; exact absurd heq (hno' i f hf)
        · exact hone i i' f f' hf hf' heq
theorem sim_ins (hi : Inv cx G a w A σ) (hkd : ∀ t, cx.kd t = fi.kind t) {o : Oper} {t kt et : TypeId} {m s : Nat} {kx x : Operand} (ho : o.op = .insert t (.tmp m) kx x) (hod : o.dst = none)
    (ht : P.underlying t = some (.map kt et)) {d : TypeDesc} (hkt : P.underlying kt = some d) (hdk : (∃ k, d = .int k) ∨ d = .string) {key : Ky} (hint : key.isInt = d.isInt) {keys : List Ky} (hkm : cx.kd m = .mapb keys) (hks : cx.kd s = .ent m key)
    {as : List AArg} (hc : compArgs fi [kx, x] = some as) (hrun : runA pur call { dst := none, k := .p (.ins key keys), args := .slot m :: as, ex := [s] } A σ = some (A', σ')) : Gives P cx o a w A' σ' := by
  obtain ⟨vs, rs, he, hs, rfl, hA⟩ := runX rfl hrun
  obtain ⟨y1, zs, rfl, hy1, hz⟩ := compArgs_cons hc
  obtain ⟨y2, zs, rfl, hy2, hz⟩ := compArgs_cons hz
  cases hz
  obtain ⟨c, qs, rfl, _, hq⟩ := evalArgs_cons he
  obtain ⟨k, qs, rfl, hp1, hq⟩ := evalArgs_cons hq
  obtain ⟨p, qs, rfl, hp2, hq⟩ := evalArgs_cons hq
  cases hq
  obtain ⟨hg, _⟩ := slot_get he
  obtain ⟨rfl, r, hr, hω, hI, es, clock, hheap, hes, hone⟩ := (SlotOk_mapb hkm).1 (hi.slot m c hg)
  simp only [semP] at hs
  split at hs
  · rename_i k' hk'
    split at hs
    · rename_i hf
      obtain ⟨rfl, hf1, hf2, hf3⟩ := hf
      cases hs
      have hkv := kyOf_val hk' (arg_rep hi hkd hy1 hp1 (free_of_ky hk'))
      have hrep := ((arg_rep hi hkd hy2 hp2 (free_of_flat hf3)).flat hf3).disown
      obtain ⟨w', es', clock', hrun', hob, hheap', ⟨i0, e0, hi0, hk0, hv0⟩, hold, hnew, hone'⟩ := run_setEntry (P := P) (w := w) ht hkt hdk hint hheap (fun i e h => by
        obtain ⟨k2, hk2, e2⟩ := hes i e h
        exact ⟨k2, e2, List.all_eq_true.1 hf2 k2 hk2⟩) hone (a.eval x)
      have hext := ext_block (X := fun tg => tg = .slot m none) hob hω hI rfl
      have hev : a.eval (.tmp m) = .map (some r) := hr
      rw [hA rfl]
      refine .inr ⟨w', by simp [execOp, ho, hev, hkv, hrun'], G, ?_⟩
      rw [hod]
      refine hi.step _ none undef hext (base_block hi.base hob hω hI) (by rw [putAll_len]) ?_ (fun _ cs hc => .inl ⟨hc, fun _ h => by cases h⟩) hi.len hi.abl
      intro u q hq
      simp only [AOp.wr, Option.toList, List.map_nil, List.append_nil, List.nil_append, putAll] at hq
      rw [get_set] at hq
      split at hq
      · rename_i h
        cases hq
        refine .inr ?_
        rw [h.1, SlotOk_ent hks]
        exact ⟨k, p.disown, k', r, rfl, hk', hr, ⟨hω, es', clock', i0, e0, hheap', hi0, hk0, by rw [hv0]; exact hrep.mono hext.I hext.same⟩, rfl⟩
      · rename_i h
        by_cases hum : u = m
        · subst hum
          refine .inr ?_
          rw [hg] at hq; cases hq
          rw [SlotOk_mapb hkm]
          refine ⟨rfl, r, hr, hω, hI, es', clock', hheap', fun i e he => ?_, hone'⟩
          rcases hnew i e he with h' | h'
          · exact ⟨k', by simpa using hf1, h'⟩
          · exact hes i e h'
        · by_cases hue : ∃ key2, cx.kd u = .ent m key2
          · obtain ⟨key2, hue⟩ := hue
            refine .inr ?_
            obtain ⟨k2, x2, ky2, r2, rfl, h1, h2, ⟨h3, es2, clock2, i2, e2, h4, h5, h6, h7⟩, rfl⟩ := (SlotOk_ent hue).1 (hi.slot u q hq)
            rw [hr] at h2; cases h2
            rw [hheap] at h4; cases h4
            rw [SlotOk_ent hue]
            have hne : ky2 ≠ k' := fun e => by
              subst e
              exact h ⟨cx.uniq u s m ky2 hue hks, by
                have := get_lt hq
                rw [← cx.uniq u s m ky2 hue hks]; exact this⟩
            refine ⟨k2, x2, ky2, r, rfl, h1, hr, ⟨hω, es', clock', i2, e2, hheap', hold i2 e2 h5 (by rw [h6]; exact fun e => hne (val_inj e)), h6, h7.mono hext.I hext.same⟩, rfl⟩
          · refine .inl ⟨hq, by simp, fun j h => by cases h; exact hum rfl, fun _ _ _ _ => by simp, fun m' hm => ⟨by simp, fun e => ?_⟩⟩
            cases e
            exact hue hm
    · cases hs
  · cases hs
theorem entries_spec : ∀ (ks : List Ky) (ps vs : List PV), entries ks ps = some vs → ps.length = ks.length ∧ vs.length = ks.length ∧ ∀ (j : Nat) (k : Ky), ks[j]? = some k → ∃ a v, ps[j]? = some (.tuple [a, v]) ∧ kyOf a = some k ∧ vs[j]? = some v
  | [], [], vs, h => by simp [entries] at h; subst h; exact ⟨rfl, rfl, fun j k h => by simp at h⟩
  | [], p :: ps, vs, h => by simp [entries] at h
  | k :: ks, [], vs, h => by simp [entries] at h
  | k :: ks, p :: ps, vs, h => by
    cases p with
    | tuple xs =>
      rcases xs with _ | ⟨a, _ | ⟨v, _ | ⟨b, xs⟩⟩⟩
      · simp [entries] at h
      · simp [entries] at h
      · simp only [entries] at h
        split at h
        · rename_i k' vs' hk hv
          split at h
          · rename_i e
            subst e
            cases h
            obtain ⟨h1, h2, h3⟩ := entries_spec ks ps vs' hv
            refine ⟨by simp [h1], by simp [h2], fun j k hj => ?_⟩
            cases j with
            | zero => simp at hj; subst hj; exact ⟨a, v, rfl, hk, rfl⟩
            | succ j => simpa using h3 j k (by simpa using hj)
          · cases h
        · cases h
      · simp [entries] at h
    | _ => simp [entries] at h
theorem evalSlots : ∀ (ts : List Nat) (ps : List PV), evalArgs A (ts.map .slot) = some ps → ∀ (j : Nat) (p : PV), ps[j]? = some p → ∃ t, ts[j]? = some t ∧ A.get t = some p
  | [], ps, h, j, p, hp => by cases h; simp at hp
  | t :: ts, ps, h, j, p, hp => by
    obtain ⟨q, qs, rfl, h1, h2⟩ := evalArgs_cons h
    cases j with
    | zero =>
      simp at hp; subst hp
      exact ⟨t, rfl, (slot_get h1).1⟩
    | succ j => simpa using evalSlots ts qs h2 j p (by simpa using hp)
theorem sim_mvb (hi : Inv cx G a w A σ) (hkd : ∀ t, cx.kd t = fi.kind t) (hnt : cx.nt = fi.nt) {o : Oper} {s u : Nat} (ho : o.op = .move (.tmp s)) (hod : o.dst = some u) {keys : List Ky} (hk : cx.kd s = .mapb keys) (hu : isPlain fi u = true)
    (hrun : runA pur call { dst := some u, k := .p (.mvb keys), args := .slot s :: (fi.entsOf s).map .slot, ex := [s], clr := fi.entsOf s } A σ = some (A', σ')) : Gives P cx o a w A' σ' := by
  obtain ⟨vs, rs, he, hs, rfl, hA⟩ := runX rfl hrun
  obtain ⟨c, ps, rfl, _, hq⟩ := evalArgs_cons he
  obtain ⟨hg, _⟩ := slot_get he
  have huv := plain1 hkd hnt hu
  obtain ⟨rfl, r, hr, hω, hI, es, clock, hheap, hes, hone⟩ := (SlotOk_mapb hk).1 (hi.slot s c hg)
  simp only [semP] at hs
  obtain ⟨ws, hws, e⟩ := Option.map_eq_some_iff.1 hs
  cases e
  obtain ⟨hl1, hl2, hent⟩ := entries_spec keys ps ws hws
  have hus : u ≠ s := fun e => by rw [e, hk] at huv; simp [SK.val] at huv
  have hex : ∀ j : Nat, ∃ i : Nat, ∀ k : Ky, keys[j]? = some k → ∃ (e : MapEntry) (v : PV), es[i]? = some e ∧ e.key = k.val ∧ ws[j]? = some v ∧ Rep G.I w e.val v := by
    intro j
    cases hj : keys[j]? with
    | none => exact ⟨0, fun k h => by cases h⟩
    | some k =>
      obtain ⟨a', v, h1, h2, h3⟩ := hent j k hj
      obtain ⟨t, ht, hgt⟩ := evalSlots _ _ hq j _ h1
      obtain ⟨key, hkey⟩ := of_entsOf (List.mem_of_getElem? ht)
      obtain ⟨k2, x2, ky2, r2, e1, h4, h5, ⟨h6, es2, clock2, i2, e2, h7, h8, h9, h10⟩, _⟩ := (SlotOk_ent (by rw [hkd]; exact hkey)).1 (hi.slot t _ hgt)
      cases e1
      rw [hr] at h5; cases h5
      rw [hheap] at h7; cases h7
      rw [h2] at h4; cases h4
      exact ⟨i2, fun k' hk' => by cases hk'; exact ⟨e2, v, h8, h9, h3, h10⟩⟩
  let ix : Nat → Nat := fun j => (hex j).choose
  have hix : ∀ (j : Nat) (k : Ky), keys[j]? = some k → ∃ (e : MapEntry) (v : PV), es[ix j]? = some e ∧ e.key = k.val ∧ ws[j]? = some v ∧ Rep G.I w e.val v := fun j => (hex j).choose_spec
  let J : Option Nat → Prop := fun x => x = none
  have hext := ext_shut (G := G) (w := w) (X := fun tg => tg = .slot s none) hω rfl J
  have hev : a.eval (.tmp s) = .map (some r) := hr
  rw [hA rfl]
  refine .inl ⟨.map (some r), w, by simp [execOp, ho, hev], G.shut r J, ?_⟩
  rw [hod]
  refine hi.step _ (some u) _ hext (base_shut hi.base hω J) (by rw [putAll_len]) ?_ (fun _ cs hc => .inl ⟨hc, fun _ h => by cases h⟩) hi.len hi.abl
  intro t q hq
  simp only [AOp.wr, Option.toList, List.cons_append, List.nil_append, putAll] at hq
  obtain ⟨hnt', hq⟩ := putAll_none _ _ _ _ hq
  rw [get_set] at hq
  split at hq
  · cases hq
  · rename_i h1
    have hts : t ≠ s := fun e => h1 ⟨e, by simp; exact get_lt hg⟩
    rw [get_set] at hq
    split at hq
    · rename_i h
      cases hq
      refine .inr ?_
      rw [h.1, SlotOk_val huv.2 rfl, at'_put _ _ _ (by rw [hi.size]; exact huv.1)]
      refine ⟨.one (.inl (.mapv ix (.inr ⟨rfl, rfl⟩) hheap hl2 hes hone (fun j k hj => ?_) (fun j e p he hp => ?_))), trivial⟩
      · obtain ⟨e, v, h1, h2, _⟩ := hix j k hj
        rw [h1]; simp [h2]
      · have hj : j < keys.length := by have := (List.getElem?_eq_some_iff.1 hp).1; omega
        obtain ⟨e', v, h1, h2, h3, h4⟩ := hix j _ (List.getElem?_eq_getElem hj)
        rw [he] at h1; cases h1
        rw [hp] at h3; cases h3
        exact h4.mono hext.I hext.same
    · rename_i h2
      have htu : t ≠ u := fun e => h2 ⟨e, by have := hi.room; omega⟩
      refine .inl ⟨hq, fun e => htu (Option.some.inj e).symm, fun j h => by cases h; exact hts rfl, fun d' off e hbx hdd => ?_, fun m hm => ?_⟩
      · cases hdd
        rw [hbx] at huv; simp [SK.val] at huv
      · obtain ⟨key, hke⟩ := hm
        have hms : m ≠ s := fun e => by
          subst e
          rw [hkd] at hke
          exact hnt' (mem_entsOf hke)
        refine ⟨fun e => ?_, fun e => by cases e; exact hms rfl⟩
        cases e
        obtain ⟨keys', hk'⟩ := cx.ents t u ⟨key, hke⟩
        rw [hk'] at huv; simp [SK.val] at huv
end
end Go.Abs

namespace Go.Abs
open Go.RowKit
section
variable {P : Program} {pur : FuncId → Bool} {call : Caller} {fi : FI} {cx : Cx} {G : Gh} {a : Act} {w : World} {A A' : Frm} {σ σ' : Sto}
theorem runK {ao : AOp} (h : runA pur call ao A σ = some (A', σ')) :
    ∃ vs rs, evalArgs A ao.args = some vs ∧ sem pur call ao.k vs σ = some (rs, σ') ∧ (rs.length = ao.dst.toList.length + ao.ex.length → A' = putAll A ao.wr (rs ++ ao.clr.map fun _ => none)) ∧
      (rs.length ≠ ao.dst.toList.length + ao.ex.length → A' = A ∧ ao.dst = none) := by
  unfold runA at h
  split at h
  · rename_i vs hvs
    split at h
    · rename_i rs σ₁ hs
      refine ⟨vs, rs, hvs, ?_, fun hl => ?_, fun hl => ?_⟩
      · split at h
        · cases h; exact hs
        · split at h <;> cases h; exact hs
      · rw [if_pos hl] at h
        cases h; rfl
      · rw [if_neg hl] at h
        split at h
        · rename_i hc; cases h; exact ⟨rfl, by simpa using hc.1⟩
        · cases h
    · cases h
  · cases h
theorem slot_ref (hi : Inv cx G a w A σ) {s : Nat} {p : PV} (hnb : cx.kd s ≠ .box) (hg : A.get s = some p) (hr : p.isRef = true) : RepT G.I G.bl w (at' a s) p := by
  have h := hi.slot s _ hg
  have hf : p.free = true := by cases p <;> first | rfl | cases hr
  cases hk : cx.kd s with
  | box => exact absurd hk hnb
  | mapb keys => have := ((SlotOk_mapb hk).1 h).1; subst this; cases hr
  | ent m key => obtain ⟨_, _, _, _, h, _⟩ := (SlotOk_ent hk).1 h; subst h; cases hr
  | plain | imm | obj => exact ((SlotOk_val (by rw [hk]; rfl) hf).1 h).1
theorem ref_slot (hi : Inv cx G a w A σ) {s id off : Nat} (hnb : cx.kd s ≠ .box) (hg : A.get s = some (.ref id off)) : ∃ b, G.bl.l[id]? = some b ∧ at' a s = .pointer (some ⟨b, off, none⟩) :=
  (slot_ref hi hnb hg rfl).ref_inv
theorem obj_cells (hi : Inv cx G a w A σ) {id b : Nat} (hb : G.bl.l[id]? = some b) {cs : List PV} (hσ : σ[id]? = some cs) (hns : ∀ p, p.isSelf = true → cs ≠ [p]) : CellsOk G w b (.obj id) cs := by
  obtain ⟨b', h1, h2⟩ := hi.obj id cs hσ
  rw [hb] at h1; cases h1
  rcases h2 with h2 | ⟨t, e, l, rfl, _⟩ | rfl | ⟨gen, size, es, rfl, _⟩
  · exact h2
  · exact absurd rfl (hns (.bld t e l) rfl)
  · exact absurd rfl (hns .dead rfl)
  · exact absurd rfl (hns (.arrv gen size es) rfl)
theorem arrOf_some {cs es : List PV} {gen size : Nat} (h : arrOf cs gen size = some es) : cs = [.arrv gen size es] := by
  unfold arrOf at h
  split at h
  · split at h
    · rename_i hc; cases h; obtain ⟨rfl, rfl⟩ := hc; rfl
    · cases h
  · cases h
theorem arr_obj (hi : Inv cx G a w A σ) {id gen size : Nat} {es : List PV} (hσ : σ[id]? = some [.arrv gen size es]) : ArrOk G w id gen size es := by
  obtain ⟨b, h1, h2⟩ := hi.obj id _ hσ
  rcases h2 with h2 | ⟨t, e, l, h, _⟩ | h | ⟨gen', size', es', h, h2⟩
  · obtain ⟨_, _, cs, _, _, _, h⟩ := h2
    rcases h 0 _ rfl with ⟨h, _⟩ | ⟨h, _⟩
    · exact absurd h.free (by simp [PV.free])
    · cases h
  · cases h
  · cases h
  · cases h; exact h2
theorem noself_any {cs : List PV} (h : cs.any PV.isSelf = false) : ∀ p, p.isSelf = true → cs ≠ [p] := by
  rintro p hp rfl
  simp [hp] at h
theorem noself_sub {cs : List PV} {off n : Nat} {ag : Bool} {v : PV} (h : sub (.agg cs) off n ag = some v) (hn0 : n ≠ 0) : ∀ p, p.isSelf = true → cs ≠ [p] := by
  rintro p hp rfl
  cases ag with
  | true =>
    simp only [sub] at h
    split at h
    · rename_i hc
      have h0 : off = 0 := by have := hc.1; simp at this; omega
      have h1 : n = 1 := by have := hc.1; simp at this; omega
      subst h0 h1
      have := hc.2
      have : p.flat = true := by simpa using this
      cases p <;> simp [PV.isSelf, PV.flat] at hp this
    · cases h
  | false =>
    simp only [sub, PV.cells] at h
    cases off with
    | zero => simp [hp] at h
    | succ off => simp at h
theorem noself_sl {cs : List PV} {off : Nat} {v : PV} (h : cs[off]? = some v) (hs : v.isSl = true) : ∀ p, p.isSelf = true → cs ≠ [p] := by
  rintro p hp rfl
  cases off with
  | zero => simp at h; subst h; cases p <;> simp [PV.isSl, PV.isSelf] at hs hp
  | succ off => simp at h
theorem subO_eq (cs : List PV) (off n : Nat) (ag : Bool) : subO cs off n ag = sub (.agg cs) off n ag := by cases ag <;> rfl
theorem sim_ld (hi : Inv cx G a w A σ) (hkd : ∀ t, cx.kd t = fi.kind t) (hnt : cx.nt = fi.nt) {o : Oper} {t : TypeId} {x : Operand} (ho : o.op = .load t x) {n : Nat} {ag : Bool} (hn : cellsT P t = some (n, ag)) (hn0 : n ≠ 0)
    {as : List AArg} (hc : compArgs fi [x] = some as) (hd : plainDst fi o.dst = true) (hrun : runA pur call { dst := o.dst, k := .r (.ld n ag), args := as } A σ = some (A', σ')) : Gives P cx o a w A' σ' := by
  obtain ⟨vs, rs, he, hs, hA1, hA2⟩ := runK hrun
  simp only [sem] at hs
  obtain ⟨rs', hs2, e⟩ := Option.map_eq_some_iff.1 hs
  cases e
  clear hs
  obtain ⟨y, zs, rfl, hy, hz⟩ := compArgs_cons hc
  cases hz
  obtain ⟨p, qs, rfl, hp, hq⟩ := evalArgs_cons he
  cases hq
  cases p with
  | vptr v =>
    refine sim_ldp hi hkd hnt ho hn hc hd (pur := pur) (call := call) ?_
    unfold runA at hrun ⊢
    dsimp only at hrun he ⊢
    rw [he] at hrun ⊢
    dsimp only [sem, semP, semR] at hrun ⊢
    exact hrun
  | ref id off =>
    obtain ⟨b, hb, hv⟩ := (arg_rep hi hkd hy hp rfl).ref_inv
    simp only [semR] at hs2
    split at hs2
    · rename_i cs hσ
      obtain ⟨v, hv', e⟩ := Option.map_eq_some_iff.1 hs2
      cases e
      rw [subO_eq] at hv'
      obtain ⟨u, h1, h2⟩ := run_boxload (P := P) (c := .agg cs) hn (obj_cells hi hb hσ (noself_sub hv' hn0)) hv'
      have hA : A' = setO A o.dst v.disown := by
        cases hdd : o.dst with
        | none =>
          rw [hdd] at hA2
          exact (hA2 (by simp)).1
        | some d =>
          rw [hdd] at hA1
          rw [hA1 rfl]; rfl
      rw [hA]
      exact .inl ⟨u, w, by simp [execOp, ho, hv, h1], G, hi.put1 (Ext.refl _ _ _) hi.base rfl o.dst (plain_ok hkd hnt hd) (by rw [free_disown]; exact h2.free) h2.disown (fun _ _ => OwnOk_disown _)⟩
    · cases hs2
  | aptr id gen size i off =>
    obtain ⟨b, base, m, hb, hv⟩ := (arg_rep hi hkd hy hp rfl).aptr_inv
    simp only [semR] at hs2
    split at hs2
    · rename_i cs hσ
      split at hs2
      · rename_i es hes
        split at hs2
        · rename_i e he'
          obtain ⟨v, hv', e'⟩ := Option.map_eq_some_iff.1 hs2
          cases e'
          have := arrOf_some hes
          subst this
          obtain ⟨b', base', m', cs, elem, h1, _, _, _, h5, h6, h7, h8, h9⟩ := arr_obj hi hσ
          rw [hb] at h1; cases h1
          obtain ⟨hl, hall⟩ := h9 i e he'
          have hlt := (List.getElem?_eq_some_iff.1 he').1
          have hmul : (i + 1) * size ≤ es.length * size := Nat.mul_le_mul_right _ hlt
          rw [Nat.succ_mul] at hmul
          obtain ⟨u, h1, h2⟩ := run_rowload (P := P) (I := G.I) (bl := G.bl) (base := base + i * size) hn h5 (by omega) (fun j p hp _ => hall j p hp) hv'
          have hA : A' = setO A o.dst v.disown := by
            cases hdd : o.dst with
            | none =>
              rw [hdd] at hA2
              exact (hA2 (by simp)).1
            | some d =>
              rw [hdd] at hA1
              rw [hA1 rfl]; rfl
          rw [hA]
          exact .inl ⟨u, w, by simp [execOp, ho, hv, h1], G, hi.put1 (Ext.refl _ _ _) hi.base rfl o.dst (plain_ok hkd hnt hd) (by rw [free_disown]; exact h2.free) h2.disown (fun _ _ => OwnOk_disown _)⟩
        · cases hs2
      · cases hs2
    · cases hs2
  | _ => simp [semR] at hs2
theorem Inv.newObj (hi : Inv cx G a w A σ) {d : Nat} (hd : d < cx.nt) (hk : (cx.kd d).val = true) {cs : Array Value} {t : TypeId} {ps : List PV} (hrep : RepTL G.I G.bl w cs.toList ps)
    (hown : ∀ (j : Nat) (q : PV), ps[j]? = some q → ∀ (G : Gh) (w : World) (tag : Tag) (c : Value), OwnOk G w tag c q) :
    Sim cx (a.put (some d) (.pointer (some ⟨w.heap.size, 0, none⟩))) (w.alloc (.cells cs t)) (A.set d (some (.ref σ.length 0))) (σ ++ [ps]) := by
  let G1 := G.newB w.heap.size (fun _ => False) (some (.obj σ.length none))
  let G' : Gh := { G1 with bl := ⟨G.bl.l ++ [w.heap.size], G.bl.ab⟩ }
  have hext1 := ext_newB (fun _ => False) hi.base (.cells cs t) (fun _ => False) (some (.obj σ.length none))
  have hext : Ext (fun _ => False) G G' w (w.alloc (.cells cs t)) := ⟨hext1.I, hext1.same, ⟨List.prefix_append _ _, fun _ _ _ h => h⟩, fun _ _ _ _ => rfl, hext1.fix⟩
  have hb1 := base_newB hi.base (.cells cs t) (fun _ => False) (some (.obj σ.length none))
  have hbase : Base cx G' (w.alloc (.cells cs t)) := ⟨hb1.keep, hb1.same, hb1.sub, hb1.new, hb1.lt, hb1.own, hb1.Klt, hb1.grow, hi.base.bl.trans ⟨List.prefix_append _ _, fun _ _ _ h => h⟩, hb1.os, hb1.tape, hb1.output⟩
  have hbl : G'.bl.l[σ.length]? = some w.heap.size := by
    show (G.bl.l ++ [w.heap.size])[σ.length]? = _
    rw [← hi.len]; simp
  refine ⟨G', hi.step _ (some d) _ hext hbase (by simp) ?_ ?_ ?_ (fun id g x h => by have := hi.abl id g x h; simp; omega)⟩
  · intro s q hq
    rw [get_set] at hq
    split at hq
    · rename_i hc
      cases hq
      refine .inr ?_
      rw [hc.1, SlotOk_val hk rfl, at'_put _ _ _ (by rw [hi.size]; exact hd)]
      exact ⟨.one (.inr (.ref hbl)), trivial⟩
    · rename_i hc
      have hsd : s ≠ d := fun e => hc ⟨e, by have := hi.room; omega⟩
      refine .inl ⟨hq, fun e => hsd (Option.some.inj e).symm, fun j h => h, fun d' off e hbx hdd => ?_, fun m hm => ⟨fun e => ?_, fun h => h⟩⟩
      · cases hdd
        rw [hbx] at hk; simp [SK.val] at hk
      · cases e
        obtain ⟨keys, hkm⟩ := cx.ents s d hm
        rw [hkm] at hk; simp [SK.val] at hk
  · intro id cs' hc
    by_cases hid : id < σ.length
    · rw [List.getElem?_append_left hid] at hc
      exact .inl ⟨hc, fun _ h => h⟩
    · have : id = σ.length := by
        have := (List.getElem?_eq_some_iff.1 hc).1
        simp at this; omega
      subst this
      simp at hc
      subst hc
      refine .inr ⟨w.heap.size, hbl, .inl ⟨if_pos rfl, ?_, cs, t, heap_alloc_new' _ _, by simpa using hrep.1, fun j r hr => .inl ⟨?_, hown j r hr ..⟩⟩⟩
      · rintro x (h | ⟨_, h⟩)
        · have := hi.base.lt _ _ h; omega
        · exact h
      · obtain ⟨c, hc1, hc2⟩ := hrep.2 j r hr
        rw [Array.getElem?_toList] at hc1
        rw [Array.getD_eq_getD_getElem?, hc1]
        exact hc2.mono hext.I hext.same hext.bl
  · show (G.bl.l ++ [w.heap.size]).length = _
    simp [hi.len]
theorem sim_bxO (hi : Inv cx G a w A σ) (hkd : ∀ t, cx.kd t = fi.kind t) {o : Oper} {t : TypeId} {x : Operand} (ho : o.op = .box t x) {d : Nat} (hod : o.dst = some d)
    (hd : d < cx.nt) (hk : (cx.kd d).val = true)
    {as : List AArg} (hc : compArgs fi [x] = some as) (hrun : runA pur call { dst := some d, k := .w .bxO, args := as } A σ = some (A', σ')) : Gives P cx o a w A' σ' := by
  obtain ⟨vs, rs, he, hs, hA, _⟩ := runK hrun
  obtain ⟨y, zs, rfl, hy, hz⟩ := compArgs_cons hc
  cases hz
  obtain ⟨p, qs, rfl, hp, hq⟩ := evalArgs_cons he
  cases hq
  simp only [sem, semW] at hs
  split at hs
  · rename_i hf
    cases hs
    rw [hA rfl]
    have hrep := (arg_rep hi hkd hy hp (okc_free hf)).disown
    refine .inl ⟨.pointer (some ⟨w.heap.size, 0, none⟩), w.alloc (.cells (a.eval x).cells t), ?_, ?_⟩
    · simp only [execOp, ho, Instr.box, newVar, newRow]; rfl
    · rw [hod]
      exact hi.newObj hd hk (RepTL.of_okc hrep (by rw [okc_disown]; exact hf)) (fun j q hq => own_disown_cells hq)
  · cases hs
theorem sim_alO (hi : Inv cx G a w A σ) {o : Oper} {t : TypeId} (ho : o.op = .alloc t) {d : Nat} (hod : o.dst = some d)
    (hd : d < cx.nt) (hk : (cx.kd d).val = true) {z : PV} (hz : zeroP P t = some z)
    (hrun : runA pur call { dst := some d, k := .w (.alO z.cells), args := [] } A σ = some (A', σ')) : Gives P cx o a w A' σ' := by
  obtain ⟨vs, rs, he, hs, hA, _⟩ := runK hrun
  cases he
  simp only [sem, semW] at hs
  cases hs
  rw [hA rfl]
  unfold zeroP at hz
  split at hz
  · rename_i it hit
    obtain ⟨zv, hzv, hzp⟩ := Option.bind_eq_some_iff.1 hz
    have hzr : Rep G.I w zv z := rep_ofVal hzp
    refine .inl ⟨.pointer (some ⟨w.heap.size, 0, none⟩), w.alloc (.cells zv.cells t), ?_, ?_⟩
    · have hzrun : (zeroValue t).run P w = .ok zv w := by simp [zeroValue, typeInfo, hit, hzv]
      simp only [execOp, ho, Instr.alloc, Sem.run_bind, hzrun, Result.andThen_ok, newVar, newRow]; rfl
    · rw [hod]
      exact hi.newObj hd hk (.of_L (RepL.of_rep hzr)) (own_ofVal hzp)
  · cases hz
theorem sim_alB (hi : Inv cx G a w A σ) {o : Oper} {t e : TypeId} (ho : o.op = .alloc t) {d : Nat} (hod : o.dst = some d)
    (hd : d < cx.nt) (hk : (cx.kd d).val = true) (hz : zeroP P t = some (.agg [.nilp, .nils]))
    (hrun : runA pur call { dst := some d, k := .w (.alB t e), args := [] } A σ = some (A', σ')) : Gives P cx o a w A' σ' := by
  obtain ⟨vs, rs, he, hs, hA, _⟩ := runK hrun
  cases he
  simp only [sem, semW] at hs
  cases hs
  rw [hA rfl]
  unfold zeroP at hz
  split at hz
  · rename_i it hit
    obtain ⟨zv, hzv, hzp⟩ := Option.bind_eq_some_iff.1 hz
    have hzr : Rep G.I w zv (.agg [.nilp, .nils]) := rep_ofVal hzp
    have hzc : zv.cells = #[.pointer none, .slice none 0 0] := by
      cases hzr with
      | agg hl hr =>
        rename_i cs
        have h0 := hr 0 _ rfl
        have h1 := hr 1 _ rfl
        match cs, hl, h0, h1 with
        | ⟨[x, y]⟩, _, h0, h1 =>
          simp [Array.getD] at h0 h1
          cases h0; cases h1; rfl
    let G1 := G.newB w.heap.size (fun _ => False) (some (.obj σ.length none))
    let G' : Gh := { G1 with bl := ⟨G.bl.l ++ [w.heap.size], G.bl.ab⟩ }
    have hext1 := ext_newB (fun _ => False) hi.base (.cells zv.cells t) (fun _ => False) (some (.obj σ.length none))
    have hext : Ext (fun _ => False) G G' w (w.alloc (.cells zv.cells t)) := ⟨hext1.I, hext1.same, ⟨List.prefix_append _ _, fun _ _ _ h => h⟩, fun _ _ _ _ => rfl, hext1.fix⟩
    have hb1 := base_newB hi.base (.cells zv.cells t) (fun _ => False) (some (.obj σ.length none))
    have hbase : Base cx G' (w.alloc (.cells zv.cells t)) := ⟨hb1.keep, hb1.same, hb1.sub, hb1.new, hb1.lt, hb1.own, hb1.Klt, hb1.grow, hi.base.bl.trans ⟨List.prefix_append _ _, fun _ _ _ h => h⟩, hb1.os, hb1.tape, hb1.output⟩
    have hbl : G'.bl.l[σ.length]? = some w.heap.size := by
      show (G.bl.l ++ [w.heap.size])[σ.length]? = _
      rw [← hi.len]; simp
    refine .inl ⟨.pointer (some ⟨w.heap.size, 0, none⟩), w.alloc (.cells zv.cells t), ?_, G', ?_⟩
    · have hzrun : (zeroValue t).run P w = .ok zv w := by simp [zeroValue, typeInfo, hit, hzv]
      simp only [execOp, ho, Instr.alloc, Sem.run_bind, hzrun, Result.andThen_ok, newVar, newRow]; rfl
    · rw [hod]
      refine hi.step _ (some d) _ hext hbase (by simp [AOp.wr, putAll]) ?_ ?_ ?_ (fun id g x h => by have := hi.abl id g x h; simp; omega)
      · intro s q hq
        simp only [AOp.wr, Option.toList, List.map_nil, List.append_nil, putAll] at hq
        rw [get_set] at hq
        split at hq
        · rename_i hc
          cases hq
          refine .inr ?_
          rw [hc.1, SlotOk_val hk rfl, at'_put _ _ _ (by rw [hi.size]; exact hd)]
          exact ⟨.one (.inr (.ref hbl)), trivial⟩
        · rename_i hc
          have hsd : s ≠ d := fun e => hc ⟨e, by have := hi.room; omega⟩
          refine .inl ⟨hq, fun e => hsd (Option.some.inj e).symm, fun j h => h, fun d' off e hbx hdd => ?_, fun m hm => ⟨fun e => ?_, fun h => h⟩⟩
          · cases hdd
            rw [hbx] at hk; simp [SK.val] at hk
          · cases e
            obtain ⟨keys, hkm⟩ := cx.ents s d hm
            rw [hkm] at hk; simp [SK.val] at hk
      · intro id cs' hc
        by_cases hid : id < σ.length
        · rw [List.getElem?_append_left hid] at hc
          exact .inl ⟨hc, fun _ h => h⟩
        · have : id = σ.length := by
            have := (List.getElem?_eq_some_iff.1 hc).1
            simp at this; omega
          subst this
          simp at hc
          subst hc
          refine .inr ⟨w.heap.size, hbl, .inr (.inl ⟨t, e, [], rfl, if_pos rfl, ?_, .pointer none, .slice none 0 0, .inl rfl, ?_, ⟨rfl, .inl ⟨rfl, rfl⟩⟩, fun g hg => by cases hg⟩)⟩
          · rintro x (h | ⟨_, h⟩)
            · have := hi.base.lt _ _ h; omega
            · exact h
          · rw [heap_alloc_new', hzc]
      · show (G.bl.l ++ [w.heap.size]).length = _
        simp [hi.len]
  · cases hz
theorem Inv.objStep' {G' : Gh} {w' : World} {X : Tag → Prop} {T : Nat → Prop} {id : Nat} {cs' : List PV} (hi : Inv cx G a w A σ) (dst : Option Nat) (v : Value) (hdst : ∀ u, dst = some u → (cx.kd u).val = true)
    (hid : id < σ.length) (hobj : ObjOk G' w' id cs') (he : Ext X G G' w w') (hbase : Base cx G' w') (hbl : G'.bl.l = G.bl.l) (hab : ∀ k g x, G'.bl.ab k g = some x → k < σ.length)
    (hX : ∀ tg, X tg → (∃ j, tg = .obj id j) ∨ ∃ t, tg = .slot t none ∧ T t) (hT : ∀ t, T t → (cx.kd t).val = true) (hl : A'.length = A.length)
    (hA : ∀ t p, A'.get t = some p → (¬ T t ∧ dst ≠ some t ∧ A.get t = some p) ∨ SlotOk cx G' (a.put dst v) w' t p) : Inv cx G' (a.put dst v) w' A' (σ.set id cs') := by
  have hval : ∀ m, (cx.kd m).val = false → dst ≠ some m ∧ ¬ T m := fun m hm => by
    refine ⟨fun e => ?_, fun e => ?_⟩
    · rw [hdst m e] at hm; cases hm
    · rw [hT m e] at hm; cases hm
  refine hi.step X dst v he hbase hl ?_ ?_ (by rw [hbl, List.length_set]; exact hi.len) (fun k g x h => by rw [List.length_set]; exact hab k g x h)
  · intro t p hp
    rcases hA t p hp with ⟨h2, h3, h4⟩ | h
    · refine .inl ⟨h4, h3, fun j hx => ?_, fun d' off e hbx => (hval d' (by rw [hbx]; rfl)).1, fun m hm => ?_⟩
      · rcases hX _ hx with ⟨j', e⟩ | ⟨t', e, h⟩ <;> cases e
        exact h2 h
      · obtain ⟨keys, hkm⟩ := cx.ents t m hm
        have := hval m (by rw [hkm]; rfl)
        refine ⟨this.1, fun hx => ?_⟩
        rcases hX _ hx with ⟨j', e⟩ | ⟨t', e, h⟩ <;> cases e
        exact this.2 h
    · exact .inr h
  · intro k cs hc
    rw [List.getElem?_set] at hc
    split at hc
    · rename_i e
      subst e
      cases hc
      exact .inr hobj
    · rename_i hne
      refine .inl ⟨hc, fun j hx => ?_⟩
      rcases hX _ hx with ⟨j', e⟩ | ⟨t', e, h⟩ <;> cases e
      exact hne rfl
theorem Inv.objStep {G' : Gh} {w' : World} {X : Tag → Prop} {T : Nat → Prop} {id : Nat} {cs' : List PV} (hi : Inv cx G a w A σ) (dst : Option Nat) (v : Value) (hdst : ∀ u, dst = some u → (cx.kd u).val = true)
    (hid : id < σ.length) (hobj : ObjOk G' w' id cs') (he : Ext X G G' w w') (hbase : Base cx G' w') (hbl : G'.bl = G.bl)
    (hX : ∀ tg, X tg → (∃ j, tg = .obj id j) ∨ ∃ t, tg = .slot t none ∧ T t) (hT : ∀ t, T t → (cx.kd t).val = true) (hl : A'.length = A.length)
    (hA : ∀ t p, A'.get t = some p → (¬ T t ∧ dst ≠ some t ∧ A.get t = some p) ∨ SlotOk cx G' (a.put dst v) w' t p) : Inv cx G' (a.put dst v) w' A' (σ.set id cs') :=
  hi.objStep' dst v hdst hid hobj he hbase (by rw [hbl]) (by rw [hbl]; exact hi.abl) hX hT hl hA
theorem getD_place {cs : Array Value} {ds : List Value} {k : Nat} (hk : k + ds.length ≤ cs.size) (j : Nat) :
    ((cs.toList.take k ++ ds ++ cs.toList.drop (k + ds.length)).toArray).getD j undef = if k ≤ j ∧ j < k + ds.length then ds.getD (j - k) undef else cs.getD j undef := by
  have hcl : cs.toList.length = cs.size := by simp
  have e1 : (cs.toList.take k).length = k := by rw [List.length_take, hcl]; omega
  rw [Array.getD_eq_getD_getElem?, List.getElem?_toArray, List.append_assoc]
  by_cases h1 : j < k
  · rw [List.getElem?_append_left (by omega), List.getElem?_take, if_pos h1, if_neg (by omega), Array.getElem?_toList, Array.getD_eq_getD_getElem?]
  · rw [List.getElem?_append_right (by omega), e1]
    by_cases h2 : j < k + ds.length
    · rw [List.getElem?_append_left (by omega), if_pos ⟨by omega, h2⟩, List.getD_eq_getElem?_getD]
    · rw [List.getElem?_append_right (by omega), List.getElem?_drop, if_neg (by omega), show k + ds.length + (j - k - ds.length) = j from by omega, Array.getElem?_toList, Array.getD_eq_getD_getElem?]
theorem getElem_place {ps qs : List PV} {k : Nat} (hk : k + qs.length ≤ ps.length) (j : Nat) : (place1 ps k qs)[j]? = if k ≤ j ∧ j < k + qs.length then qs[j - k]? else ps[j]? := by
  have e1 : (ps.take k).length = k := by rw [List.length_take]; omega
  unfold place1
  rw [List.append_assoc]
  by_cases h1 : j < k
  · rw [List.getElem?_append_left (by omega), List.getElem?_take, if_pos h1, if_neg (by omega)]
  · rw [List.getElem?_append_right (by omega), e1]
    by_cases h2 : j < k + qs.length
    · rw [List.getElem?_append_left (by omega), if_pos ⟨by omega, h2⟩]
    · rw [List.getElem?_append_right (by omega), List.getElem?_drop, if_neg (by omega), show k + qs.length + (j - k - qs.length) = j from by omega]
theorem sim_st (hi : Inv cx G a w A σ) (hkd : ∀ t, cx.kd t = fi.kind t) {o : Oper} {t : TypeId} {s : Nat} {x : Operand} (ho : o.op = .store t (.tmp s) x) (hod : o.dst = none) (hnb : cx.kd s ≠ .box) {n : Nat} {ag : Bool} (hn : cellsT P t = some (n, ag))
    {as : List AArg} (hc : compArgs fi [x] = some as) (hrun : runA pur call { dst := none, k := .w (.st n), args := .slot s :: as } A σ = some (A', σ')) : Gives P cx o a w A' σ' := by
  obtain ⟨vs, rs, he, hs, hA, _⟩ := runK hrun
  obtain ⟨y, zs, rfl, hy, hz⟩ := compArgs_cons hc
  cases hz
  obtain ⟨c, qs, rfl, _, hq⟩ := evalArgs_cons he
  obtain ⟨p, qs, rfl, hp, hq⟩ := evalArgs_cons hq
  cases hq
  obtain ⟨hg, _⟩ := slot_get he
  cases c with
  | ref id off =>
    simp only [sem, semW] at hs
    split at hs
    · rename_i ps hσ
      split at hs
      · rename_i hf
        obtain ⟨hf1, hf0, hf2, hf3, hf4⟩ := hf
        cases hs
        obtain ⟨b, hb, hv⟩ := ref_slot hi hnb hg
        obtain ⟨hω, hI, cs, elem, hheap, hsz, hall⟩ := obj_cells hi hb hσ (noself_any hf4)
        have hrep := (arg_rep hi hkd hy hp (okc_free hf2)).disown
        have hok : p.disown.okc = true := by rw [okc_disown]; exact hf2
        have hcl := RepTL.of_okc hrep hok
        have hvs : (a.eval x).cells.size = n := by have := hcl.1; rw [cells_disown, hf1] at this; simpa using this
        let arr : Array Value := (cs.toList.take off ++ (a.eval x).cells.toList ++ cs.toList.drop (off + (a.eval x).cells.toList.length)).toArray
        have hext := ext_setRow (G := G) (w := w) (X := fun tg => tg = .obj id none) hω hI rfl arr
        have hrun' : (Instr.storeAt t (.pointer (some ⟨b, off, none⟩)) (a.eval x)).run P w = .ok () (w.setRow b arr) :=
          run_cellstore hn hheap hvs (ones_okc hrep hok (by rw [ones_disown]; exact hf3)) (by omega)
        have hev : a.eval (.tmp s) = .pointer (some ⟨b, off, none⟩) := hv
        rw [hA rfl]
        refine .inr ⟨w.setRow b arr, by simp [execOp, ho, hev, hrun'], G, ?_⟩
        rw [hod]
        refine hi.objStep (X := fun tg => tg = .obj id none) (T := fun _ => False) none undef (by simp) (List.getElem?_eq_some_iff.1 hσ).1 ⟨b, hb, .inl ?_⟩ hext (base_setRow hi.base hω hI _) rfl (fun tg h => .inl ⟨none, h⟩) (fun _ h => h.elim) (by rw [putAll_len]) ?_
        · refine cells_place hω hI (setRow_heap _ _ _ _ _ _ hheap) hsz (by rw [cells_disown]; omega) (by rw [cells_disown, hf1]; simpa using hvs) ?_ ?_
          · intro j q hq _
            exact (hall j q hq).ext hext (by simp)
          · intro j q hq
            obtain ⟨c, hc, hr⟩ := hcl.2 j q hq
            exact ⟨c, hc, .inl ⟨hr.mono hext.I hext.same hext.bl, own_disown_cells hq ..⟩⟩
        · intro r q hq
          exact .inl ⟨fun h => h, by simp, hq⟩
      · cases hs
    · cases hs
  | aptr id gen size i off =>
    simp only [sem, semW] at hs
    split at hs
    · rename_i ps hσ
      split at hs
      · rename_i es hes
        split at hs
        · rename_i e he'
          split at hs
          · rename_i hf
            obtain ⟨hf1, hf2, hf3⟩ := hf
            obtain ⟨e', hup, ee⟩ := Option.map_eq_some_iff.1 hs
            cases ee
            have := arrOf_some hes
            subst this
            obtain ⟨b0, base0, n0, hb, hv⟩ := (slot_ref hi hnb hg rfl).aptr_inv
            obtain ⟨b', base, m, cs, elem, h1, h2, hω, hI, hheap, h6, h7, h8, h9⟩ := arr_obj hi hσ
            rw [hb] at h1; cases h1
            obtain ⟨hl, hall⟩ := h9 i e he'
            have hlt := (List.getElem?_eq_some_iff.1 he').1
            have hmul : (i + 1) * size ≤ es.length * size := Nat.mul_le_mul_right _ hlt
            rw [Nat.succ_mul] at hmul
            obtain ⟨hce, hle⟩ := upd_cells hup
            have hrep := (arg_rep hi hkd hy hp (okc_free hf2)).disown
            have hok : p.disown.okc = true := by rw [okc_disown]; exact hf2
            have hcl := RepTL.of_okc hrep hok
            have hdl : p.disown.cells.length = n := by rw [cells_disown, hf1]
            have hvs : (a.eval x).cells.size = n := by have := hcl.1; rw [hdl] at this; simpa using this
            have hvl : (a.eval x).cells.toList.length = n := by simpa using hvs
            let k := base0 + i * size + off
            let arr : Array Value := (cs.toList.take k ++ (a.eval x).cells.toList ++ cs.toList.drop (k + (a.eval x).cells.toList.length)).toArray
            have hkn : k + n ≤ cs.size := by show base0 + i * size + off + n ≤ cs.size; omega
            have hext := ext_setRow (G := G) (w := w) (X := fun tg => tg = .obj id none) hω hI rfl arr
            have hrun' : (Instr.storeAt t (.pointer (some ⟨b0, k, none⟩)) (a.eval x)).run P w = .ok () (w.setRow b0 arr) :=
              run_cellstore hn hheap hvs (ones_okc hrep hok (by rw [ones_disown]; exact hf3)) hkn
            have hev : a.eval (.tmp s) = .pointer (some ⟨b0, k, none⟩) := hv
            rw [hA rfl]
            refine .inr ⟨w.setRow b0 arr, by simp [execOp, ho, hev, hrun'], G, ?_⟩
            rw [hod]
            obtain ⟨bo, hbo, _⟩ := hi.obj id _ hσ
            refine hi.objStep (X := fun tg => tg = .obj id none) (T := fun _ => False) none undef (by simp) (List.getElem?_eq_some_iff.1 hσ).1
              ⟨bo, hbo, .inr (.inr (.inr ⟨gen, size, es.set i e', rfl, b0, base0, n0, arr, elem, hb, h2, hω, hI, setRow_heap _ _ _ _ _ _ hheap, ?_, h7, by rw [List.length_set]; exact h8, ?_⟩))⟩ hext (base_setRow hi.base hω hI _) rfl (fun tg h => .inl ⟨none, h⟩) (fun _ h => h.elim) (by rw [putAll_len]) ?_
            · show arr.size = n0
              simp only [arr, List.size_toArray, List.length_append, List.length_take, List.length_drop, hvl, Array.length_toList]
              omega
            · intro i' e'' hi'
              rw [List.getElem?_set] at hi'
              split at hi'
              · rename_i hii
                subst hii
                cases hi'
                rw [hce]
                refine ⟨by unfold place1; simp only [List.length_append, List.length_take, List.length_drop]; omega, fun j q hq => ?_⟩
                rw [getElem_place hle] at hq
                show RepT G.I G.bl _ (arr.getD (base0 + i * size + j) undef) q
                rw [show arr.getD (base0 + i * size + j) undef = _ from getD_place (by rw [hvl]; exact hkn) _]
                split at hq
                · rename_i hc
                  obtain ⟨c, hc1, hc2⟩ := hcl.2 _ _ hq
                  rw [if_pos (by show base0 + i * size + off ≤ _ ∧ _ < base0 + i * size + off + _; rw [hvl, ← hdl]; omega)]
                  rw [show base0 + i * size + j - k = j - off by show base0 + i * size + j - (base0 + i * size + off) = _; omega, List.getD_eq_getElem?_getD, hc1]
                  exact hc2.mono hext.I hext.same hext.bl
                · rename_i hc
                  rw [if_neg (by show ¬ (base0 + i * size + off ≤ _ ∧ _ < base0 + i * size + off + _); rw [hvl, ← hdl]; omega)]
                  exact (hall j q hq).mono hext.I hext.same hext.bl
              · rename_i hii
                obtain ⟨q1, q2⟩ := h9 i' e'' hi'
                refine ⟨q1, fun j q hq => ?_⟩
                have hj : j < size := by rw [← q1]; exact (List.getElem?_eq_some_iff.1 hq).1
                show RepT G.I G.bl _ (arr.getD (base0 + i' * size + j) undef) q
                rw [show arr.getD (base0 + i' * size + j) undef = _ from getD_place (by rw [hvl]; exact hkn) _]
                rw [if_neg]
                · exact (q2 j q hq).mono hext.I hext.same hext.bl
                · show ¬ (base0 + i * size + off ≤ _ ∧ _ < base0 + i * size + off + _)
                  rw [hvl]
                  rcases Nat.lt_or_gt_of_ne hii with hlt' | hgt'
                  · have : (i + 1) * size ≤ i' * size := Nat.mul_le_mul_right _ hlt'
                    rw [Nat.succ_mul] at this; omega
                  · have : (i' + 1) * size ≤ i * size := Nat.mul_le_mul_right _ hgt'
                    rw [Nat.succ_mul] at this; omega
            · intro r q hq
              exact .inl ⟨fun h => h, by simp, hq⟩
          · cases hs
        · cases hs
      · cases hs
    · cases hs
  | _ => simp [sem, semW] at hs
theorem ldo_sem {c : PV} {r : List (Option PV) × Sto} (h : semW pur call .ldo [c] σ = some r) : ∃ id off cs v, c = .ref id off ∧ σ[id]? = some cs ∧ cs[off]? = some v ∧ v.isSl = true ∧ r = ([some v], σ.set id (place1 cs off [v.disown])) := by
  cases c with
  | ref id off =>
    simp only [semW] at h
    split at h
    · rename_i cs hσ
      split at h
      · rename_i v hv
        cases v <;> first | (cases h; done) | (cases h; exact ⟨id, off, cs, _, rfl, hσ, hv, rfl, rfl⟩)
      · cases h
    · cases h
  | _ => simp [semW] at h
theorem sim_ldo (hi : Inv cx G a w A σ) (hkd : ∀ t, cx.kd t = fi.kind t) (hnt : cx.nt = fi.nt) {o : Oper} {t : TypeId} {x : Operand} {u : Nat} (ho : o.op = .load t x) (hod : o.dst = some u) {n : Nat} (hn : cellsT P t = some (n, false))
    (hu : isPlain fi u = true) {as : List AArg} (hc : compArgs fi [x] = some as) (hrun : runA pur call { dst := some u, k := .w .ldo, args := as } A σ = some (A', σ')) : Gives P cx o a w A' σ' := by
  obtain ⟨vs, rs, he, hs, hA, _⟩ := runK hrun
  obtain ⟨y, zs, rfl, hy, hz⟩ := compArgs_cons hc
  cases hz
  obtain ⟨c, qs, rfl, hp, hq⟩ := evalArgs_cons he
  cases hq
  simp only [sem] at hs
  obtain ⟨id, off, ps, v, rfl, hσ, hv, hsl, e⟩ := ldo_sem hs
  cases e
  have huv := plain1 hkd hnt hu
  obtain ⟨b, hb, hev⟩ := (arg_rep hi hkd hy hp rfl).ref_inv
  have hcell := obj_cells hi hb hσ (noself_sl hv hsl)
  have hsub : sub (.agg ps) off n false = some v := by
    simp only [sub, PV.cells, hv]
    rw [if_neg]
    intro e; cases v <;> simp [PV.isAgg, PV.isSelf, PV.isSl] at e hsl
  obtain ⟨x', hr1, hr2⟩ := run_boxload (P := P) (c := .agg ps) hn hcell hsub
  have hcell' := hcell
  obtain ⟨hω, hI, cs, elem, hheap, hsz, hall⟩ := hcell
  have hlt : off < cs.size := by have := (List.getElem?_eq_some_iff.1 hv).1; omega
  have hx : x' = cs.getD off undef := by
    have : (Instr.loadAt t (.pointer (some ⟨b, off, none⟩))).run P w = .ok (cs.getD off undef) w := by
      have hcc : w.cell? ⟨b, off, none⟩ = some (cs.getD off undef) := by simp [World.cell?, hheap, Array.getD, hlt]
      simp [Instr.loadAt, Instr.sureAddr, loadVar, run_isAgg hn, hcc]
    rw [this] at hr1; cases hr1; rfl
  subst hx
  obtain ⟨G', e1, e2, hext, hbase, how⟩ := own_to (t1 := .slot u none) hi.base ((hall off v hv).rep (isSl_self hsl)).2
  rw [hA rfl]
  refine .inl ⟨cs.getD off undef, w, by simp [execOp, ho, hev, hr1], G', ?_⟩
  rw [hod]
  refine hi.objStep (X := fun tg => tg = .obj id (some off)) (T := fun _ => False) (some u) _ (fun u' e => by cases e; exact huv.2) (List.getElem?_eq_some_iff.1 hσ).1 ⟨b, by rw [e2]; exact hb, .inl ?_⟩ hext hbase e2 (fun tg h => .inl ⟨_, h⟩) (fun _ h => h.elim) (by rw [putAll_len]) ?_
  · exact cells_give (isSl_self hsl) hcell' hv e1 hext (fun i j e => by cases e; rfl)
  · intro r q hq
    simp only [AOp.wr, Option.toList, List.map_nil, List.append_nil, putAll] at hq
    rw [get_set] at hq
    split at hq
    · rename_i h
      cases hq
      refine .inr ?_
      rw [h.1, SlotOk_val huv.2 (isSl_free hsl), at'_put _ _ _ (by rw [hi.size]; exact huv.1)]
      exact ⟨hr2.mono hext.I hext.same hext.bl, how⟩
    · rename_i h
      exact .inl ⟨fun h => h, fun e => h ⟨(Option.some.inj e).symm, by have := hi.room; omega⟩, hq⟩
theorem sto_sem {c v : PV} {r : List (Option PV) × Sto} (h : semW pur call .sto [c, v] σ = some r) : ∃ id off cs, c = .ref id off ∧ σ[id]? = some cs ∧ v.isSl = true ∧ off + 1 ≤ cs.length ∧ cs.any PV.isSelf = false ∧ r = ([some v.disown], σ.set id (place1 cs off [v])) := by
  cases c with
  | ref id off =>
    simp only [semW] at h
    split at h
    · rename_i cs hσ
      cases v <;> first | (cases h; done) | (dsimp only at h; split at h <;> first | (cases h; done) | (rename_i hc; cases h; exact ⟨id, off, cs, rfl, hσ, rfl, hc.1, hc.2, rfl⟩))
    · cases h
  | _ => simp [semW] at h
theorem sim_sto (hi : Inv cx G a w A σ) (hkd : ∀ t, cx.kd t = fi.kind t) (hnt : cx.nt = fi.nt) {o : Oper} {t : TypeId} {s u : Nat} (ho : o.op = .store t (.tmp s) (.tmp u)) (hod : o.dst = none) (hnb : cx.kd s ≠ .box) {n : Nat} {ag : Bool} (hn : cellsT P t = some (n, ag)) (hn1 : n = 1)
    (hu : isPlain fi u = true) (hrun : runA pur call { dst := none, k := .w .sto, args := [.slot s, .slot u], ex := [u] } A σ = some (A', σ')) : Gives P cx o a w A' σ' := by
  subst hn1
  obtain ⟨vs, rs, he, hs, hA, _⟩ := runK hrun
  obtain ⟨c, qs, rfl, _, hq⟩ := evalArgs_cons he
  obtain ⟨p, qs, rfl, hp, hq'⟩ := evalArgs_cons hq
  cases hq'
  obtain ⟨hgs, _⟩ := slot_get he
  simp only [sem] at hs
  obtain ⟨id, off, ps, rfl, hσ, hsl, hle, hns, e⟩ := sto_sem hs
  cases e
  have huv := plain1 hkd hnt hu
  obtain ⟨b, hb, hev'⟩ := ref_slot hi hnb hgs
  obtain ⟨hrT, how⟩ := slot_val hi huv.2 hp (isSl_free hsl)
  have hrep := isSl_rep hrT hsl
  obtain ⟨G', e1, e2, hext1, hbase1, how1⟩ := own_to (t1 := .obj id (some off)) hi.base how
  obtain ⟨hω, hI, cs, elem, hheap, hsz, hall⟩ := obj_cells hi hb hσ (noself_any hns)
  have hω' : G'.ω b = some (.obj id none) := (hext1.fix b _ hω (by simp)).1
  have hI' : ∀ x, ¬ G'.I b x := by rw [e1]; exact hI
  have hvc := isSl_val hrep hsl
  let arr : Array Value := (cs.toList.take off ++ (at' a u).cells.toList ++ cs.toList.drop (off + (at' a u).cells.toList.length)).toArray
  have hext2 := ext_setRow (G := G') (w := w) (X := fun tg => tg = .obj id none) hω' hI' rfl arr
  have hext : Ext (fun tg => tg = .slot u none ∨ tg = .obj id none) G G' w (w.setRow b arr) := (hext1.weaken (fun _ h => .inl h)).trans (hext2.weaken (fun _ h => .inr h))
  have hrun' : (Instr.storeAt t (.pointer (some ⟨b, off, none⟩)) (at' a u)).run P w = .ok () (w.setRow b arr) :=
    run_cellstore hn hheap (by rw [hvc]; rfl) (ones_rep hrep (isSl_ones hsl)) (by rw [hsz]; exact hle)
  have hev : a.eval (.tmp s) = .pointer (some ⟨b, off, none⟩) := hev'
  have hevu : a.eval (.tmp u) = at' a u := rfl
  rw [hA rfl]
  refine .inr ⟨w.setRow b arr, by simp [execOp, ho, hev, hevu, hrun'], G', ?_⟩
  rw [hod]
  refine hi.objStep (X := fun tg => tg = .slot u none ∨ tg = .obj id none) (T := fun t => t = u) none undef (by simp) (List.getElem?_eq_some_iff.1 hσ).1 ⟨b, by rw [e2]; exact hb, .inl ?_⟩ hext (base_setRow hbase1 hω' hI' _) e2 ?_ (fun t h => by rw [h]; exact huv.2) (by rw [putAll_len]) ?_
  · refine cells_place hω' hI' (setRow_heap _ _ _ _ _ _ hheap) hsz hle (by rw [hvc]; rfl) ?_ ?_
    · intro j q hq _
      exact ((hall j q hq).ext hext1 (by simp)).ext hext2 (by simp)
    · intro j q hq
      cases j with
      | zero =>
        simp at hq; subst hq
        exact ⟨at' a u, by rw [hvc]; rfl, .inl ⟨.one (.inl (hrep.mono hext.I hext.same)), how1.ext hext2 (by simp)⟩⟩
      | succ j => simp at hq
  · intro tg h
    rcases h with h | h
    · exact .inr ⟨u, h, rfl⟩
    · exact .inl ⟨none, h⟩
  · intro r q hq
    simp only [AOp.wr, Option.toList, List.map_nil, List.append_nil, List.nil_append, putAll] at hq
    rw [get_set] at hq
    split at hq
    · rename_i h
      cases hq
      refine .inr ?_
      rw [h.1, SlotOk_val huv.2 (by rw [free_disown]; exact isSl_free hsl)]
      exact ⟨.one (.inl (hrep.mono hext.I hext.same).disown), OwnOk_disown p⟩
    · rename_i h1
      exact .inl ⟨fun e => h1 ⟨e, by have := hi.room; omega⟩, by simp, hq⟩
end
end Go.Abs

namespace Go.Abs
open Go.RowKit
section
variable {P : Program} {pur : FuncId → Bool} {call : Caller} {fi : FI} {cx : Cx} {G : Gh} {a : Act} {w : World} {A A' : Frm} {σ σ' : Sto}
theorem RepT.own0 {I : Imm} {bl : Bl} {v : Value} {p : PV} (h : RepT I bl w v p) : RepT I bl w v p.own0 := by
  cases p with
  | slice own sz es => exact h.disown
  | _ => exact h
theorem disown_cells (p : PV) : p.disown.cells = p.cells.map PV.own0 := by cases p <;> rfl
def RowT (I : Imm) (bl : Bl) (w : World) (size : Nat) (cs : List Value) (es : List PV) : Prop :=
  cs.length = es.length * size ∧ (∀ (i : Nat) (e : PV), es[i]? = some e → e.cells.length = size) ∧
  ∀ (i : Nat) (e : PV) (j : Nat) (p : PV), es[i]? = some e → e.cells[j]? = some p → ∃ c, cs[i * size + j]? = some c ∧ RepT I bl w c p
theorem RowT.of_row {I : Imm} {bl : Bl} {size : Nat} {cs : List Value} {es : List PV} (h : RowOk I w size cs es) : RowT I bl w size cs es :=
  ⟨h.1, h.2.1, fun i e j p he hp => let ⟨c, h1, h2⟩ := h.2.2 i e j p he hp; ⟨c, h1, .one (.inl h2)⟩⟩
theorem RowT.mono {I I' : Imm} {bl bl' : Bl} {w w' : World} {size : Nat} {cs : List Value} {es : List PV} (h : RowT I bl w size cs es) (hI : ∀ b x, I b x → I' b x) (hs : Same I w w') (hb : bl.le bl') : RowT I' bl' w' size cs es :=
  ⟨h.1, h.2.1, fun i e j p he hp => let ⟨c, h1, h2⟩ := h.2.2 i e j p he hp; ⟨c, h1, h2.mono hI hs hb⟩⟩
theorem RowT.nil (I : Imm) (bl : Bl) (w : World) (size : Nat) : RowT I bl w size [] [] := ⟨by simp, fun i e h => by simp at h, fun i e j p h => by simp at h⟩
theorem RowT.append {I : Imm} {bl : Bl} {size : Nat} {cs ds : List Value} {es fs : List PV} (h : RowT I bl w size cs es) (k : RowT I bl w size ds fs) : RowT I bl w size (cs ++ ds) (es ++ fs) := by
  refine ⟨by simp [h.1, k.1, Nat.add_mul], fun i e he => ?_, fun i e j p he hp => ?_⟩
  · by_cases hi : i < es.length
    · rw [List.getElem?_append_left hi] at he; exact h.2.1 i e he
    · rw [List.getElem?_append_right (by omega)] at he; exact k.2.1 _ e he
  · by_cases hi : i < es.length
    · rw [List.getElem?_append_left hi] at he
      obtain ⟨c, h1, h2⟩ := h.2.2 i e j p he hp
      refine ⟨c, ?_, h2⟩
      rw [List.getElem?_append_left (List.getElem?_eq_some_iff.1 h1).1]; exact h1
    · rw [List.getElem?_append_right (by omega)] at he
      obtain ⟨c, h1, h2⟩ := k.2.2 _ e j p he hp
      refine ⟨c, ?_, h2⟩
      have hge : es.length * size ≤ i * size := Nat.mul_le_mul_right _ (by omega)
      rw [List.getElem?_append_right (by rw [h.1]; omega), h.1]
      rw [Nat.sub_mul] at h1
      rw [show i * size + j - es.length * size = i * size - es.length * size + j from by omega]
      exact h1
theorem RowT.disown {I : Imm} {bl : Bl} {size : Nat} {cs : List Value} {es : List PV} (h : RowT I bl w size cs es) : RowT I bl w size cs (es.map PV.disown) := by
  refine ⟨by rw [List.length_map]; exact h.1, fun i e he => ?_, fun i e j p he hp => ?_⟩
  · rw [List.getElem?_map] at he
    obtain ⟨e', he', rfl⟩ := Option.map_eq_some_iff.1 he
    rw [cells_disown]; exact h.2.1 i e' he'
  · rw [List.getElem?_map] at he
    obtain ⟨e', he', rfl⟩ := Option.map_eq_some_iff.1 he
    rw [disown_cells, List.getElem?_map] at hp
    obtain ⟨q, hq, rfl⟩ := Option.map_eq_some_iff.1 hp
    obtain ⟨c, h1, h2⟩ := h.2.2 i e' j q he' hq
    exact ⟨c, h1, h2.own0⟩
theorem one_repT {I : Imm} {bl : Bl} {c : Value} {p : PV} (h : RepT I bl w c p) (hp : p.one = true) : c.oneCell' = true := by
  cases h with
  | one h =>
    rcases h with h | h
    · exact one_rep h hp
    · cases h <;> rfl
  | func _ _ _ _ => rfl
  | tuple _ _ => cases hp
  | aggr _ _ => cases hp
theorem ones_row {I : Imm} {bl : Bl} {size : Nat} (hs0 : 0 < size) {cs : List Value} {es : List PV} (h : RowT I bl w size cs es) (hones : es.all PV.ones = true) : ∀ u ∈ cs, u.oneCell' = true := by
  intro u hu
  rw [List.all_eq_true] at hones
  obtain ⟨k, hk⟩ := List.mem_iff_getElem?.1 hu
  have hkl : k < es.length * size := by have := (List.getElem?_eq_some_iff.1 hk).1; rw [h.1] at this; exact this
  have hi : k / size < es.length := (Nat.div_lt_iff_lt_mul hs0).2 hkl
  have hj : k % size < size := Nat.mod_lt _ hs0
  have he := List.getElem?_eq_getElem hi
  have hcl : k % size < (es[k / size]).cells.length := by rw [h.2.1 _ _ he]; exact hj
  obtain ⟨c, h1, h2⟩ := h.2.2 _ _ _ _ he (List.getElem?_eq_getElem hcl)
  rw [show k / size * size + k % size = k from by rw [Nat.mul_comm]; exact Nat.div_add_mod k size, hk] at h1
  cases h1
  exact one_repT h2 (List.all_eq_true.1 (hones _ (List.getElem_mem hi)) _ (List.getElem_mem hcl))
theorem row_of_arr {id gen size off len b base n : Nat} {es : List PV} {cs : Array Value} {elem : TypeId} (hs0 : 0 < size) (hheap : w.heap[b]? = some (.cells cs elem (0, 0))) (hn : base + es.length * size ≤ cs.size)
    (hall : ∀ (i : Nat) (e : PV), es[i]? = some e → e.cells.length = size ∧ ∀ (j : Nat) (p : PV), e.cells[j]? = some p → RepT G.I G.bl w (cs.getD (base + i * size + j) undef) p) (hl : off + len ≤ es.length) :
    ∃ ds : List Value, RowT G.I G.bl w size ds ((es.drop off).take len) ∧ ∀ (j : Nat) (v : Value), ds[j]? = some v → w.cell? ⟨b, base + off * size + j, none⟩ = some v := by
  have hlen : ((es.drop off).take len).length = len := by rw [List.length_take, List.length_drop]; omega
  have hget : ∀ k, k < len * size → ((List.range (len * size)).map fun k => cs.getD (base + off * size + k) undef)[k]? = some (cs.getD (base + off * size + k) undef) := by
    intro k hk
    rw [List.getElem?_map, List.getElem?_range hk]; rfl
  have hel : ∀ (i : Nat) (e : PV), ((es.drop off).take len)[i]? = some e → i < len ∧ es[off + i]? = some e := by
    intro i e he
    rw [List.getElem?_take] at he
    split at he
    · rename_i hlt
      rw [List.getElem?_drop] at he
      exact ⟨hlt, he⟩
    · cases he
  have hmul : (off + len) * size ≤ es.length * size := Nat.mul_le_mul_right _ hl
  rw [Nat.add_mul] at hmul
  refine ⟨(List.range (len * size)).map fun k => cs.getD (base + off * size + k) undef, ⟨by simp [hlen], fun i e he => (hall _ _ (hel i e he).2).1, fun i e j p he hp => ?_⟩, fun k v hk => ?_⟩
  · obtain ⟨h1, h2⟩ := hel i e he
    obtain ⟨h3, h4⟩ := hall _ _ h2
    have hj : j < size := by rw [← h3]; exact (List.getElem?_eq_some_iff.1 hp).1
    have hlt : i * size + j < len * size := by
      have : (i + 1) * size ≤ len * size := Nat.mul_le_mul_right _ (by omega)
      rw [Nat.succ_mul] at this; omega
    refine ⟨_, hget _ hlt, ?_⟩
    have := h4 j p hp
    rw [Nat.add_mul] at this
    rw [show base + off * size + (i * size + j) = base + (off * size + i * size) + j from by omega]
    exact this
  · have hkl : k < len * size := by have := (List.getElem?_eq_some_iff.1 hk).1; simpa using this
    rw [hget k hkl] at hk
    cases hk
    have hlt : base + off * size + k < cs.size := by omega
    simp [World.cell?, hheap, Array.getD, hlt]
theorem rowA_obj {id gen off len size : Nat} {es : List PV} (h : rowA σ id gen off len size = some es) : ∃ fs, σ[id]? = some [.arrv gen size fs] ∧ off + len ≤ fs.length ∧ es = (fs.drop off).take len := by
  unfold rowA at h
  split at h
  · rename_i cs hσ
    split at h
    · rename_i fs hfs
      split at h
      · rename_i hl
        cases h
        rw [arrOf_some hfs] at hσ
        exact ⟨fs, hσ, hl, rfl⟩
      · cases h
    · cases h
  · cases h
theorem srcA_of (hi : Inv cx G a w A σ) {size : Nat} (hs0 : 0 < size) {xT : TypeId} (hxT : ∃ e', P.underlying xT = some (.slice e')) {v : Value} {x : PV} (hr : RepT G.I G.bl w v x) {xs : List PV} (hx : appXA size σ x = some xs)
    (hones : xs.all PV.ones = true) : ∃ news, Src P size xT v xs.length news w ∧ RowT G.I G.bl w size news xs := by
  cases x with
  | slice own sz es =>
    obtain ⟨news, h1, h2⟩ := src_of (P := P) (G := G) hs0 (.inl hxT) hr (xs := xs) hx hones
    exact ⟨news, h1, .of_row h2⟩
  | nils =>
    obtain ⟨news, h1, h2⟩ := src_of (P := P) (G := G) hs0 (.inl hxT) hr (xs := xs) hx hones
    exact ⟨news, h1, .of_row h2⟩
  | empt =>
    obtain ⟨ad, rfl⟩ := hr.empt_inv
    cases hx
    obtain ⟨e', hk⟩ := hxT
    exact ⟨[], Src.ofSlice w hk ad 0 0 [] (by simp) (fun j u hu => by simp at hu) (fun u hu => by cases hu), RowT.nil _ _ _ _⟩
  | arr id gen off len sz =>
    simp only [appXA] at hx
    split at hx
    · rename_i hsz'
      subst hsz'
      obtain ⟨fs, hσ, hl, rfl⟩ := rowA_obj hx
      obtain ⟨b0, base0, n0, cap, b', o', hb, hcap, hcn, hat, rfl⟩ := hr.arr_inv
      obtain ⟨b, base, n, cs, elem, h1, h2, hω, hI, hheap, h6, h7, h8, h9⟩ := arr_obj hi hσ
      rw [hb] at h1; cases h1
      obtain ⟨ds, hrow, hcell⟩ := row_of_arr (G := G) (id := id) (gen := gen) (n := n0) (off := off) (len := len) hs0 hheap (by omega) h9 hl
      have hlen : ((fs.drop off).take len).length = len := by rw [List.length_take, List.length_drop]; omega
      have hrl := hrow.1
      rw [hlen] at hrl
      refine ⟨ds, ?_, hrow⟩
      rw [hlen]
      obtain ⟨e', hk⟩ := hxT
      refine Src.ofSlice w hk ⟨b', o', none⟩ len cap ds hrl (fun j u hu => ?_) (ones_row hs0 hrow hones)
      have hjl := (List.getElem?_eq_some_iff.1 hu).1
      have hl0 : 0 < len := by
        rcases Nat.eq_zero_or_pos len with h | h
        · subst h; rw [Nat.zero_mul] at hrl; omega
        · exact h
      obtain ⟨rfl, rfl⟩ := hat (by omega)
      rw [add_none]
      exact hcell j u hu
    · cases hx
  | _ => simp [appXA] at hx
theorem arr_of_row {I : Imm} {bl : Bl} {w' : World} {size base : Nat} {cs : Array Value} {news : List Value} {es : List PV} (hrow : RowT I bl w' size news es) (hc : ∀ (k : Nat) (v : Value), news[k]? = some v → cs.getD (base + k) undef = v) :
    ∀ (i : Nat) (e : PV), es[i]? = some e → e.cells.length = size ∧ ∀ (j : Nat) (p : PV), e.cells[j]? = some p → RepT I bl w' (cs.getD (base + i * size + j) undef) p := by
  intro i e he
  refine ⟨hrow.2.1 i e he, fun j p hp => ?_⟩
  obtain ⟨c, h1, h2⟩ := hrow.2.2 i e j p he hp
  rw [Nat.add_assoc, hc _ _ h1]
  exact h2
def Bl.gen (bl : Bl) (id gen : Nat) (x : Nat × Nat × Nat) : Bl := ⟨bl.l, fun k g => if k = id ∧ g = gen then some x else bl.ab k g⟩
theorem Bl.le_gen {bl : Bl} {id gen : Nat} (h : bl.ab id gen = none) (x : Nat × Nat × Nat) : bl.le (bl.gen id gen x) := by
  refine ⟨List.prefix_rfl, fun k g y hy => ?_⟩
  show (if _ then _ else _) = _
  rw [if_neg]
  · exact hy
  · rintro ⟨rfl, rfl⟩; rw [h] at hy; cases hy
theorem Bl.gen_at (bl : Bl) (id gen : Nat) (x : Nat × Nat × Nat) : (bl.gen id gen x).ab id gen = some x := if_pos ⟨rfl, rfl⟩
theorem Bl.gen_ne (bl : Bl) {id gen k g : Nat} (x : Nat × Nat × Nat) (h : ¬ (k = id ∧ g = gen)) : (bl.gen id gen x).ab k g = bl.ab k g := if_neg h
theorem getD_cells (cells : Array Value) (news : List Value) (rest : Array Value) (h : cells = news.toArray ++ rest) : ∀ (k : Nat) (v : Value), news[k]? = some v → cells.getD (0 + k) undef = v := by
  intro k v hk
  have hlt := (List.getElem?_eq_some_iff.1 hk).1
  rw [Nat.zero_add, h, Array.getD_eq_getD_getElem?, Array.getElem?_append_left (by simpa using hlt), List.getElem?_toArray, hk]; rfl
theorem new_arr (hi : Inv cx G a w A σ) {d : Nat} (hdv : d < cx.nt ∧ (cx.kd d).val = true) {o : Oper} (hod : o.dst = some d) {w1 : World} (hx0 : Ext (fun _ => False) G G w w1) (hb0 : Base cx G w1)
    {cells : Array Value} {e : TypeId} {size len cap : Nat} {es : List PV} (hs0 : 0 < size) (hcap : len ≤ cap) (hsz : cells.size = cap * size) (hlen : es.length = len)
    (hes : ∀ (i : Nat) (e : PV), es[i]? = some e → e.cells.length = size ∧ ∀ (j : Nat) (p : PV), e.cells[j]? = some p → RepT G.I G.bl w (cells.getD (0 + i * size + j) undef) p)
    (hr : (execOp a.eval o).run P w = .ok (.value (.slice (some ⟨w1.heap.size, 0, none⟩) len cap)) (w1.alloc (.cells cells e))) :
    Gives P cx o a w (A.set d (some (.arr σ.length 0 0 len size))) (σ ++ [[.arrv 0 size es]]) := by
  let G1 := G.newB w1.heap.size (fun _ => False) (some (.obj σ.length none))
  let bl' : Bl := ⟨G.bl.l ++ [w1.heap.size], (G.bl.gen σ.length 0 (w1.heap.size, 0, cells.size)).ab⟩
  let G' : Gh := { G1 with bl := bl' }
  have hnone : ∀ g, G.bl.ab σ.length g = none := by
    intro g
    cases h : G.bl.ab σ.length g with
    | none => rfl
    | some y => have := hi.abl _ _ _ h; omega
  have hble : G.bl.le bl' := ⟨List.prefix_append _ _, (Bl.le_gen (hnone 0) _).2⟩
  have hext1 := hx0.trans (ext_newB (fun _ => False) hb0 (.cells cells e) (fun _ => False) (some (.obj σ.length none)))
  have hext : Ext (fun _ => False) G G' w (w1.alloc (.cells cells e)) := ⟨hext1.I, hext1.same, hble, fun id hid _ g => Bl.gen_ne _ _ (by rw [hi.len] at hid; omega), hext1.fix⟩
  have hb1 := base_newB hb0 (.cells cells e) (fun _ => False) (some (.obj σ.length none))
  have hbase : Base cx G' (w1.alloc (.cells cells e)) := ⟨hb1.keep, hb1.same, hb1.sub, hb1.new, hb1.lt, hb1.own, hb1.Klt, hb1.grow, hi.base.bl.trans hble, hb1.os, hb1.tape, hb1.output⟩
  have hbl : G'.bl.l[σ.length]? = some w1.heap.size := by
    show (G.bl.l ++ [w1.heap.size])[σ.length]? = _
    rw [← hi.len]; simp
  have habn : G'.bl.ab σ.length 0 = some (w1.heap.size, 0, cells.size) := Bl.gen_at ..
  have hval : RefOk G'.bl (.slice (some ⟨w1.heap.size, 0, none⟩) len cap) (.arr σ.length 0 0 len size) :=
    .arr habn hcap (by rw [Nat.zero_add, Nat.zero_add, hsz]; exact Nat.le_refl _) (fun _ => ⟨rfl, by omega⟩)
  refine .inl ⟨_, _, hr, G', ?_⟩
  rw [hod]
  refine hi.step (fun _ => False) (some d) _ hext hbase (by simp) ?_ ?_ ?_ ?_
  · intro t q hq
    rw [get_set] at hq
    split at hq
    · rename_i h
      cases hq
      refine .inr ?_
      rw [h.1, SlotOk_val hdv.2 rfl, at'_put _ _ _ (by rw [hi.size]; exact hdv.1)]
      exact ⟨.one (.inr hval), trivial⟩
    · rename_i h
      refine .inl ⟨hq, fun e => h ⟨(Option.some.inj e).symm, by have := hi.room; have := hdv.1; omega⟩, fun _ h => h, fun d' off e' hbx hdd => ?_, fun m hm => ⟨fun e' => ?_, fun h => h⟩⟩
      · cases hdd
        have := hdv.2
        rw [hbx] at this; simp [SK.val] at this
      · cases e'
        obtain ⟨keys, hkm⟩ := cx.ents t d hm
        have := hdv.2
        rw [hkm] at this; simp [SK.val] at this
  · intro id cs' hc'
    by_cases hid : id < σ.length
    · rw [List.getElem?_append_left hid] at hc'
      exact .inl ⟨hc', fun _ h => h⟩
    · have : id = σ.length := by
        have := (List.getElem?_eq_some_iff.1 hc').1
        simp at this; omega
      subst this
      simp at hc'
      subst hc'
      refine .inr ⟨w1.heap.size, hbl, .inr (.inr (.inr ⟨0, size, _, rfl, w1.heap.size, 0, cells.size, cells, e, habn, fun g hg => ?_, if_pos rfl, ?_, heap_alloc_new' _ _, rfl, hs0, ?_,
        fun i e he => ⟨(hes i e he).1, fun j p hp => ((hes i e he).2 j p hp).mono hext.I hext.same hext.bl⟩⟩))⟩
      · exact (Bl.gen_ne _ _ (by omega)).trans (hnone g)
      · rintro x (h | ⟨_, h⟩)
        · have := hb0.lt _ _ h; omega
        · exact h
      · rw [hlen, Nat.zero_add, hsz]; exact Nat.mul_le_mul_right _ hcap
  · show (G.bl.l ++ [w1.heap.size]).length = _
    simp [hi.len]
  · intro id g y hy
    show id < (σ ++ _).length
    simp only [List.length_append, List.length_cons, List.length_nil]
    by_cases h : id = σ.length ∧ g = 0
    · omega
    · have := hi.abl id g y ((Bl.gen_ne _ _ h).symm.trans hy); omega
theorem sim_appA (hi : Inv cx G a w A σ) (hkd : ∀ t, cx.kd t = fi.kind t) (hnt : cx.nt = fi.nt) {o : Oper} {c : Call} (ho : o.op = .call c) (hb : c.callee = .builtin .append)
    {sT xT e : TypeId} {d : Nat} {y1 y : Operand} (hargs : c.args = #[y1, y]) (htys : c.argTypes = #[sT, xT]) (hod : o.dst = some d)
    (hsT : P.underlying sT = some (.slice e)) (hxT : ∃ e', P.underlying xT = some (.slice e')) {it : TypeInfo} (hit : P.info? e = some it)
    (hs0 : 0 < it.size) (hby : it.bytes ≤ 4096) (hz : (it.zero.map (·.cells.size)) = some it.size)
    {as : List AArg} (hc : compArgs fi [y1, y] = some as) (hd : isPlain fi d = true)
    (hrun : runA pur call { dst := some d, k := .w (.appA it.size), args := as } A σ = some (A', σ')) : Gives P cx o a w A' σ' := by
  obtain ⟨vs, rs, he, hsem, hA, _⟩ := runK hrun
  obtain ⟨z1, zs, rfl, hy1, hz1⟩ := compArgs_cons hc
  obtain ⟨z2, zs, rfl, hy2, hz2⟩ := compArgs_cons hz1
  cases hz2
  obtain ⟨s, qs, rfl, hs, hq⟩ := evalArgs_cons he
  obtain ⟨x, qs, rfl, hx, hq⟩ := evalArgs_cons hq
  cases hq
  have hdv := plain1 hkd hnt hd
  obtain ⟨z, hz', hzs⟩ := Option.map_eq_some_iff.1 hz
  simp only [sem, semW] at hsem
  split at hsem
  case h_2 => cases hsem
  rename_i xs hxs
  have hxfree : x.free = true := by cases x <;> first | rfl | simp [appXA] at hxs
  have hxrep := arg_rep hi hkd hy2 hx hxfree
  have hsfree : s.free = true := by cases s <;> first | rfl | simp [appA] at hsem
  have hsrep := arg_rep hi hkd hy1 hs hsfree
  obtain ⟨consts, hrun'⟩ := run_builtin (P := P) (w := w) (a := a) ho hb
  rw [hargs, htys] at hrun'
  have hev : (#[y1, y].map a.eval) = #[a.eval y1, a.eval y] := by simp
  rw [hev] at hrun'
  have hfin : ∀ {v : Value} {w' : World}, (Builtin.append_ #[sT, xT] o.type #[a.eval y1, a.eval y]).run P w = .ok v w' → (execOp a.eval o).run P w = .ok (.value v) w' := by
    intro v w' h
    rw [hrun']
    simp only [builtin, Sem.run_bind, h, Result.andThen_ok, Sem.run_pure]
  have hput : ∀ p, rs = [some p] → A' = A.set d (some p) := by
    rintro p rfl
    rw [hA rfl]; rfl
  have stay : ∀ {v : Value}, rs = [some s] → σ' = σ → a.eval y1 = v → (Builtin.append_ #[sT, xT] o.type #[v, a.eval y]).run P w = .ok v w → (∀ sz es, s ≠ .slice true sz es) → Gives P cx o a w A' σ' := by
    intro v h1 h2 h3 h4 h5
    subst h2
    rw [hput _ h1]
    refine .inl ⟨v, w, hfin (by rw [h3]; exact h4), G, ?_⟩
    rw [hod]
    exact hi.put1 (Ext.refl _ _ _) hi.base rfl (some d) (fun t e => by cases e; exact hdv) hsfree (by rw [← h3]; exact hsrep) (fun _ _ => own_none h5)
  have frame : ∀ (G' : Gh) (w' : World) (v : Value) (p : PV), p.free = true → RepT G'.I G'.bl w' v p → (∀ tag, OwnOk G' w' tag v p) → ∀ (t : Nat) (q : PV), Frm.get (A.set d (some p)) t = some q →
      (¬ False ∧ some d ≠ some t ∧ A.get t = some q) ∨ SlotOk cx G' (a.put (some d) v) w' t q := by
    intro G' w' v p hf hr how t q hq
    rw [get_set] at hq
    split at hq
    · rename_i h
      cases hq
      refine .inr ?_
      rw [h.1, SlotOk_val hdv.2 hf, at'_put _ _ _ (by rw [hi.size]; exact hdv.1)]
      exact ⟨hr, how _⟩
    · rename_i h
      exact .inl ⟨fun h => h, fun e => h ⟨(Option.some.inj e).symm, by have := hi.room; have := hdv.1; omega⟩, hq⟩
  cases s with
  | nils =>
    have ev := hsrep.nils_inv
    simp only [appA] at hsem
    split at hsem
    · rename_i hemp
      have hxe : xs = [] := List.isEmpty_iff.1 hemp
      subst hxe
      cases hsem
      obtain ⟨news, hsrc, _⟩ := srcA_of (P := P) hi hs0 hxT hxrep hxs (by rfl)
      have hn0 : news = [] := List.length_eq_zero_iff.1 (by rw [hsrc.newsLen]; simp)
      subst hn0
      refine stay rfl rfl ev ?_ (by simp)
      have hc0 := hsrc.cells
      have hl0 := hsrc.len w
      simp only [List.length_nil] at hc0 hl0
      obtain ⟨e', hk⟩ := hxT
      simp [Builtin.append_, run_underlying hsT, run_underlying hk, sizeOf, typeInfo, hit, hl0, hc0]
    · rename_i hemp
      split at hsem
      case isFalse => cases hsem
      rename_i hcond
      obtain ⟨hmax, hones, hokc⟩ := hcond
      cases hsem
      rw [hput _ rfl]
      obtain ⟨news, hsrc, hrow⟩ := srcA_of (P := P) hi hs0 hxT hxrep hxs hones
      have hxlen : 0 < xs.length := by
        cases xs with
        | nil => simp at hemp
        | cons _ _ => simp
      have hr := run_append_grow_src w sT xT o.type e it z hsT hit hz' none 0 0 [] (run_firstCells_none w.drew it.size 0 0 0) (a.eval y) xs.length news hsrc (by omega) (by unfold maxRow at hmax; omega) (next_bytes (by omega) (by omega) hby)
      rw [← ev] at hr
      simp only [Nat.zero_add, List.nil_append] at hr
      let cap := grownCap w xs.length 0 e
      let rest : Array Value := Builtin.zeroCells z.cells (cap - xs.length)
      have hcap : xs.length ≤ cap := grownCap_ge ..
      have hsz : (news.toArray ++ rest).size = cap * it.size := by
        simp only [rest, Array.size_append, List.size_toArray, hrow.1, Builtin.zeroCells, Array.size_map, Array.size_range, hzs]
        rw [← Nat.add_mul]; congr 1; omega
      exact new_arr hi hdv hod (ext_drew (G := G) (w := w) (fun _ => False)) (base_drew hi.base) hs0 hcap hsz (by simp) (arr_of_row hrow.disown (getD_cells _ news rest rfl)) (hfin hr)
  | empt =>
    obtain ⟨ad, ev⟩ := hsrep.empt_inv
    simp only [appA] at hsem
    split at hsem
    · rename_i hemp
      have hxe : xs = [] := List.isEmpty_iff.1 hemp
      subst hxe
      cases hsem
      obtain ⟨news, hsrc, _⟩ := srcA_of (P := P) hi hs0 hxT hxrep hxs (by rfl)
      have hn0 : news = [] := List.length_eq_zero_iff.1 (by rw [hsrc.newsLen]; simp)
      subst hn0
      refine stay rfl rfl ev ?_ (by simp)
      have hc0 := hsrc.cells
      have hl0 := hsrc.len w
      simp only [List.length_nil] at hc0 hl0
      obtain ⟨e', hk⟩ := hxT
      simp [Builtin.append_, run_underlying hsT, run_underlying hk, sizeOf, typeInfo, hit, hl0, hc0, storeCells]
    · rename_i hemp
      split at hsem
      case isFalse => cases hsem
      rename_i hcond
      obtain ⟨hmax, hones, hokc⟩ := hcond
      cases hsem
      rw [hput _ rfl]
      obtain ⟨news, hsrc, hrow⟩ := srcA_of (P := P) hi hs0 hxT hxrep hxs hones
      have hxlen : 0 < xs.length := by
        cases xs with
        | nil => simp at hemp
        | cons _ _ => simp
      have hr := run_append_grow_src w sT xT o.type e it z hsT hit hz' (some ad) 0 0 [] (run_firstCells_some w.drew it.size 0 ad 0 0 [] (by simp) (fun j u h => by simp at h)) (a.eval y) xs.length news hsrc (by omega) (by unfold maxRow at hmax; omega) (next_bytes (by omega) (by omega) hby)
      rw [← ev] at hr
      simp only [Nat.zero_add, List.nil_append] at hr
      let cap := grownCap w xs.length 0 e
      let rest : Array Value := Builtin.zeroCells z.cells (cap - xs.length)
      have hcap : xs.length ≤ cap := grownCap_ge ..
      have hsz : (news.toArray ++ rest).size = cap * it.size := by
        simp only [rest, Array.size_append, List.size_toArray, hrow.1, Builtin.zeroCells, Array.size_map, Array.size_range, hzs]
        rw [← Nat.add_mul]; congr 1; omega
      exact new_arr hi hdv hod (ext_drew (G := G) (w := w) (fun _ => False)) (base_drew hi.base) hs0 hcap hsz (by simp) (arr_of_row hrow.disown (getD_cells _ news rest rfl)) (hfin hr)
  | arr id gen off len sz =>
    simp only [appA] at hsem
    split at hsem
    case isFalse => cases hsem
    rename_i hsz'
    subst hsz'
    split at hsem
    case h_2 => cases hsem
    rename_i es hes
    obtain ⟨fs, hσ, hl, rfl⟩ := rowA_obj hes
    obtain ⟨b0, base0, n0, cap, b', o', hbb, hcap, hcn, hat, ev⟩ := hsrep.arr_inv
    obtain ⟨b, base, n, cs, elem, h1, h2, hω, hI, hheap, h6, h7, h8, h9⟩ := arr_obj hi hσ
    rw [hbb] at h1; cases h1
    have hidlt := (List.getElem?_eq_some_iff.1 hσ).1
    have hlen : ((fs.drop off).take len).length = len := by rw [List.length_take, List.length_drop]; omega
    split at hsem
    · rename_i hemp
      have hxe : xs = [] := List.isEmpty_iff.1 hemp
      subst hxe
      cases hsem
      obtain ⟨news, hsrc, _⟩ := srcA_of (P := P) hi hs0 hxT hxrep hxs (by rfl)
      have hn0 : news = [] := List.length_eq_zero_iff.1 (by rw [hsrc.newsLen]; simp)
      subst hn0
      exact stay rfl rfl ev (run_append_room_src w sT xT o.type e it hsT hit b' o' len cap _ _ [] hsrc (by simpa using hcap) (by simp) (by simp)) (by simp)
    · rename_i hemp
      split at hsem
      case isFalse => cases hsem
      rename_i hcond
      obtain ⟨hmax, hones, hokc⟩ := hcond
      cases hsem
      rw [hput _ rfl]
      obtain ⟨news, hsrc, hrow⟩ := srcA_of (P := P) hi hs0 hxT hxrep hxs hones
      have hxlen : 0 < xs.length := by
        cases xs with
        | nil => simp at hemp
        | cons _ _ => simp
      obtain ⟨olds, holdrow, holdcell⟩ := row_of_arr (G := G) (id := id) (gen := gen) (n := n0) (off := off) (len := len) hs0 hheap (by omega) h9 hl
      have holdlen : olds.length = len * it.size := by rw [holdrow.1, hlen]
      have hnewlen : news.length = xs.length * it.size := hrow.1
      have hnone : G.bl.ab id (gen + 1) = none := h2 _ (by omega)
      obtain ⟨bo, hbo, _⟩ := hi.obj id _ hσ
      by_cases hfit : len + xs.length ≤ cap
      · 
        obtain ⟨rfl, rfl⟩ := hat (by omega)
        have hmul : (off + (len + xs.length)) * it.size ≤ (off + cap) * it.size := Nat.mul_le_mul_right _ (by omega)
        have hmul2 : (off + (len + xs.length)) * it.size = off * it.size + len * it.size + xs.length * it.size := by rw [Nat.add_mul, Nat.add_mul]; omega
        have hmul3 : (off + cap) * it.size = off * it.size + cap * it.size := Nat.add_mul ..
        let k := base0 + off * it.size + len * it.size
        have hin : ∀ j, j < news.length → (w.cell? ⟨b', k + j, none⟩).isSome = true := by
          intro j hj
          simp only [World.cell?, hheap]
          have : k + j < cs.size := by show base0 + off * it.size + len * it.size + j < cs.size; omega
          simp [this]
        have hr := run_append_room_src w sT xT o.type e it hsT hit b' (base0 + off * it.size) len cap (a.eval y) xs.length news hsrc hfit hin (fun j hj => by simp [World.frozen?, hheap])
        rw [← ev] at hr
        let w' := w.setCells b' k news
        let bl' : Bl := G.bl.gen id (gen + 1) (b', base0 + off * it.size, n0)
        let G' : Gh := ⟨G.I, G.ω, bl'⟩
        have hne : ∀ b2 x, G.I b2 x → b2 ≠ b' := fun b2 x h e => hI x (e ▸ h)
        have hsame : Same G.I w w' := ⟨fun b2 o2 h => cell_of_heap (heap_setCells_ne b' _ _ _ _ (hne _ _ h)), fun b2 h => heap_setCells_ne b' _ _ _ _ (hne _ _ h)⟩
        have hext : Ext (fun tg => tg = .obj id none) G G' w w' := by
          refine ⟨fun _ _ h => h, hsame, Bl.le_gen hnone _, fun id' hid' hX g => Bl.gen_ne _ _ (fun hh => hX none (by rw [hh.1])), fun b2 tg h hX => ?_⟩
          have hb2 : b2 ≠ b' := by
            intro e2; subst e2
            rw [hω] at h; cases h
            exact hX rfl
          exact ⟨h, heap_setCells_ne b' _ _ _ _ hb2, fun x hx => hx⟩
        have hnK := (hi.base.own b' _ hω).2
        have hbase : Base cx G' w' := by
          have hb0 := hi.base
          refine ⟨fun b2 hK => ?_, hb0.same.trans hsame hb0.sub, hb0.sub, hb0.new, fun b2 x h => by rw [size_setCells]; exact hb0.lt b2 x h, fun b2 tg h => by rw [size_setCells]; exact hb0.own b2 tg h, hb0.Klt, by rw [size_setCells]; exact hb0.grow, hb0.bl.trans (Bl.le_gen hnone _), ?_, by rw [tape_setCells]; exact hb0.tape, ?_⟩
          · rw [heap_setCells_ne b' _ _ _ _ (fun e2 => hnK (e2 ▸ hK))]; exact hb0.keep b2 hK
          · rw [World.os_setCells]; exact hb0.os
          · rw [World.output_setCells]; exact hb0.output
        obtain ⟨cur', hcur1, hcur2⟩ := heap_setCells_same b' elem (0, 0) news k w cs hheap
        have habn : G'.bl.ab id (gen + 1) = some (b', base0 + off * it.size, n0) := Bl.gen_at ..
        have hrow2 := ((holdrow.append hrow.disown)).mono hext.I hext.same hext.bl
        have hcellw : ∀ (j : Nat) (v : Value), (olds ++ news)[j]? = some v → cur'.getD (base0 + off * it.size + j) undef = v := by
          intro j v hj
          have key : w'.cell? ⟨b', base0 + off * it.size + j, none⟩ = some v := by
            by_cases hjo : j < olds.length
            · rw [List.getElem?_append_left hjo] at hj
              have h0 := holdcell j v hj
              rw [← h0]
              exact World.cell?_setCells_out b' news _ w _ (fun _ _ => .inl (by dsimp only; show _ < base0 + off * it.size + len * it.size; omega))
            · rw [List.getElem?_append_right (by omega), holdlen] at hj
              have hkn : j - len * it.size < news.length := (List.getElem?_eq_some_iff.1 hj).1
              have h0 := World.cell?_setCells_in b' news k w hin _ hkn
              rw [show k + (j - len * it.size) = base0 + off * it.size + j from by show base0 + off * it.size + len * it.size + (j - len * it.size) = _; omega] at h0
              rw [h0, ← List.getElem?_eq_getElem hkn]; exact hj
          simp only [World.cell?] at key
          rw [hcur2] at key
          rw [Array.getD_eq_getD_getElem?]
          simp at key
          rw [key]; rfl
        have hval : RefOk G'.bl (.slice (some ⟨b', base0 + off * it.size, none⟩) (len + xs.length) cap) (.arr id (gen + 1) 0 (len + xs.length) it.size) :=
          .arr habn hfit (by rw [Nat.zero_add]; omega) (fun _ => ⟨rfl, by omega⟩)
        refine .inl ⟨_, w', hfin hr, G', ?_⟩
        rw [hod]
        refine hi.objStep' (X := fun tg => tg = .obj id none) (T := fun _ => False) (some d) _ (fun u e => by cases e; exact hdv.2) hidlt
          ⟨bo, hbo, .inr (.inr (.inr ⟨gen + 1, it.size, _, rfl, b', base0 + off * it.size, n0, cur', elem, habn, fun g hg => ?_, hω, hI, hcur2, by omega, hs0, ?_, arr_of_row hrow2 hcellw⟩))⟩ hext hbase rfl (fun k' g x hx => ?_) (fun tg h => .inl ⟨none, h⟩) (fun _ h => h.elim) (by simp)
          (frame G' w' _ _ rfl (.one (.inr hval)) (fun _ => trivial))
        · exact (Bl.gen_ne _ _ (by omega)).trans (h2 g (by omega))
        · rw [List.length_append, List.length_map, hlen, Nat.add_mul]; omega
        · by_cases hh : k' = id ∧ g = gen + 1
          · rw [hh.1]; exact hidlt
          · exact hi.abl k' g x ((Bl.gen_ne _ _ hh).symm.trans hx)
      · 
        have hg : cap < len + xs.length := by omega
        have hfc : (Builtin.firstCells it.size len (.slice (some ⟨b', o', none⟩) len cap)).run P w.drew = .ok olds.toArray w.drew := by
          refine run_firstCells_some w.drew it.size len ⟨b', o', none⟩ len cap olds holdlen (fun j v hj => ?_)
          have hjl := (List.getElem?_eq_some_iff.1 hj).1
          have hl0 : 0 < len := by
            rcases Nat.eq_zero_or_pos len with h | h
            · subst h; rw [Nat.zero_mul] at holdlen; omega
            · exact h
          obtain ⟨rfl, rfl⟩ := hat (by omega)
          rw [add_none]
          exact holdcell j v hj
        have hr := run_append_grow_src w sT xT o.type e it z hsT hit hz' (some ⟨b', o', none⟩) len cap olds hfc (a.eval y) xs.length news hsrc hg (by unfold maxRow at hmax; omega) (next_bytes hg hmax hby)
        rw [← ev] at hr
        let cap' := grownCap w (len + xs.length) cap e
        let rest : Array Value := Builtin.zeroCells z.cells (cap' - (len + xs.length))
        let cells : Array Value := (olds ++ news).toArray ++ rest
        have hcap' : len + xs.length ≤ cap' := grownCap_ge ..
        have hsz : cells.size = cap' * it.size := by
          simp only [cells, rest, Array.size_append, List.size_toArray, List.length_append, holdlen, hnewlen, Builtin.zeroCells, Array.size_map, Array.size_range, hzs]
          rw [← Nat.add_mul, ← Nat.add_mul]; congr 1; omega
        let G1 := G.newB w.heap.size (fun _ => False) (some (.obj id none))
        let bl' : Bl := G.bl.gen id (gen + 1) (w.heap.size, 0, cells.size)
        let G' : Gh := { G1 with bl := bl' }
        have hext1 := (ext_drew (G := G) (w := w) (fun tg => tg = .obj id none)).trans (ext_newB (fun tg => tg = .obj id none) (base_drew hi.base) (.cells cells e) (fun _ => False) (some (.obj id none)))
        have hext : Ext (fun tg => tg = .obj id none) G G' w (w.drew.alloc (.cells cells e)) := ⟨hext1.I, hext1.same, Bl.le_gen hnone _, fun id' hid' hX g => Bl.gen_ne _ _ (fun hh => hX none (by rw [hh.1])), hext1.fix⟩
        have hb1 := base_newB (base_drew hi.base) (.cells cells e) (fun _ => False) (some (.obj id none))
        have hbase : Base cx G' (w.drew.alloc (.cells cells e)) := ⟨hb1.keep, hb1.same, hb1.sub, hb1.new, hb1.lt, hb1.own, hb1.Klt, hb1.grow, hi.base.bl.trans (Bl.le_gen hnone _), hb1.os, hb1.tape, hb1.output⟩
        have habn : G'.bl.ab id (gen + 1) = some (w.heap.size, 0, cells.size) := Bl.gen_at ..
        have hrow2 := ((holdrow.append hrow.disown)).mono hext.I hext.same hext.bl
        have hval : RefOk G'.bl (.slice (some ⟨w.heap.size, 0, none⟩) (len + xs.length) cap') (.arr id (gen + 1) 0 (len + xs.length) it.size) :=
          .arr habn hcap' (by rw [Nat.zero_add, Nat.zero_add, hsz]; exact Nat.le_refl _) (fun _ => ⟨rfl, by omega⟩)
        refine .inl ⟨_, _, hfin hr, G', ?_⟩
        rw [hod]
        show Inv cx G' (a.put (some d) (.slice (some ⟨w.heap.size, 0, none⟩) (len + xs.length) cap')) (w.drew.alloc (.cells cells e)) _ _
        refine hi.objStep' (X := fun tg => tg = .obj id none) (T := fun _ => False) (some d) _ (fun u e => by cases e; exact hdv.2) hidlt
          ⟨bo, hbo, .inr (.inr (.inr ⟨gen + 1, it.size, _, rfl, w.heap.size, 0, cells.size, cells, e, habn, fun g hg => ?_, if_pos rfl, ?_, heap_alloc_new' _ _, rfl, hs0, ?_, arr_of_row hrow2 (getD_cells cells (olds ++ news) rest rfl)⟩))⟩ hext hbase rfl (fun k' g x hx => ?_) (fun tg h => .inl ⟨none, h⟩) (fun _ h => h.elim) (by simp)
          (frame G' (w.drew.alloc (.cells cells e)) (.slice (some ⟨w.heap.size, 0, none⟩) (len + xs.length) cap') _ rfl (.one (.inr hval)) (fun _ => trivial))
        · exact (Bl.gen_ne _ _ (by omega)).trans (h2 g (by omega))
        · rintro x (h | ⟨_, h⟩)
          · have := hi.base.lt _ _ h; omega
          · exact h
        · rw [List.length_append, List.length_map, hlen, Nat.zero_add, hsz]; exact Nat.mul_le_mul_right _ hcap'
        · by_cases hh : k' = id ∧ g = gen + 1
          · rw [hh.1]; exact hidlt
          · exact hi.abl k' g x ((Bl.gen_ne _ _ hh).symm.trans hx)
  | _ => simp [appA] at hsem
theorem frz_core2 (hi : Inv cx G a w A σ) {id gen off len size : Nat} {es : List PV} (hes : rowA σ id gen off len size = some es) (hfl : es.all (fun e => e.flat && e.cells.all PV.flat) = true) :
    ∃ G', Inv cx G' a w A (σ.set id [.dead]) ∧ G'.bl = G.bl ∧ (∀ b x, G.I b x → G'.I b x) ∧ ∀ v, RepT G.I G.bl w v (.arr id gen off len size) → Rep G'.I w v (.slice false size es) := by
  obtain ⟨fs, hσ, hl, rfl⟩ := rowA_obj hes
  obtain ⟨b, base, n, cs, elem, h1, h2, hω, hI, hheap, h6, h7, h8, h9⟩ := arr_obj hi hσ
  obtain ⟨bo, hbo, _⟩ := hi.obj id _ hσ
  let J : Option Nat → Prop := fun x => ∃ o, x = some o
  have hext := ext_shut (G := G) (w := w) (X := fun tg => tg = .obj id none) hω rfl J
  refine ⟨G.shut b J, hi.objStep' (X := fun tg => tg = .obj id none) (T := fun _ => False) none undef (fun u e => by cases e) (List.getElem?_eq_some_iff.1 hσ).1 ⟨bo, hbo, .inr (.inr (.inl rfl))⟩ hext (base_shut hi.base hω J) rfl hi.abl
    (fun tg h => .inl ⟨none, h⟩) (fun _ h => h.elim) rfl (fun t q hq => .inl ⟨fun h => h, by simp, hq⟩), rfl, fun _ _ h => .inl h, fun v hv => ?_⟩
  obtain ⟨b0, base0, n0, cap, b', o', hbb, hcap, hcn, hat, ev⟩ := hv.arr_inv
  rw [hbb] at h1; cases h1
  have hlen : ((fs.drop off).take len).length = len := by rw [List.length_take, List.length_drop]; omega
  obtain ⟨ds, hrow, hcell⟩ := row_of_arr (G := G) (id := id) (gen := gen) (n := n) (off := off) (len := len) h7 hheap (by omega) h9 hl
  have hflat : ∀ (i : Nat) (e : PV) (j : Nat) (p : PV), ((fs.drop off).take len)[i]? = some e → e.cells[j]? = some p → p.flat = true := by
    intro i e j p he hp
    have := List.all_eq_true.1 hfl e (List.mem_of_getElem? he)
    rw [Bool.and_eq_true] at this
    exact List.all_eq_true.1 this.2 p (List.mem_of_getElem? hp)
  have hrow2 : RowOk (G.shut b J).I w size ds ((fs.drop off).take len) := by
    refine ⟨hrow.1, hrow.2.1, fun i e j p he hp => ?_⟩
    obtain ⟨c, c1, c2⟩ := hrow.2.2 i e j p he hp
    exact ⟨c, c1, (c2.flat (hflat i e j p he hp)).mono hext.I hext.same⟩
  rw [ev]
  by_cases hl0 : len = 0
  · have hemp : (fs.drop off).take len = [] := by rw [hl0]; simp
    rw [hemp] at hlen ⊢
    exact .slice (fun _ _ => undef) hlen.symm hcap (fun h => absurd rfl h) (fun i e h => by simp at h) (fun i e j p h => by simp at h) (fun i e j p h => by simp at h) (fun i e j p h => by simp at h)
  · obtain ⟨rfl, rfl⟩ := hat (by omega)
    exact rep_of_row hlen.symm hcap hrow2 (fun k _ => .inr ⟨rfl, _, rfl⟩) (fun k v hk => hcell k v hk)
theorem frz_core (hi : Inv cx G a w A σ) {id gen off len size : Nat} {es : List PV} (hes : rowA σ id gen off len size = some es) (hfl : es.all (fun e => e.flat && e.cells.all PV.flat) = true) :
    ∃ G', Inv cx G' a w A (σ.set id [.dead]) ∧ ∀ v, RepT G.I G.bl w v (.arr id gen off len size) → Rep G'.I w v (.slice false size es) := by
  obtain ⟨G', h1, _, _, h4⟩ := frz_core2 hi hes hfl
  exact ⟨G', h1, h4⟩
theorem frzL_core : ∀ (ps : List PV) {vs : List PV} {σ σ' : Sto}, frzL ps σ = some (vs, σ') → ∀ {G : Gh}, Inv cx G a w A σ →
    ∃ G', Inv cx G' a w A σ' ∧ G'.bl = G.bl ∧ (∀ b x, G.I b x → G'.I b x) ∧ vs.length = ps.length ∧ ∀ (i : Nat) (p q : PV), ps[i]? = some p → vs[i]? = some q → ∀ c, Rep1 G.I G.bl w c p → Rep G'.I w c q
  | [], vs, σ, σ', h, G, hi => by
    cases h
    exact ⟨G, hi, rfl, fun _ _ h => h, rfl, fun i p q hp => by simp at hp⟩
  | c :: cs, vs, σ, σ', h, G, hi => by
    have flat : c.flat = true → (frzL cs σ).map (fun (vs, σ') => (c.own0 :: vs, σ')) = some (vs, σ') → ∃ G', Inv cx G' a w A σ' ∧ G'.bl = G.bl ∧ (∀ b x, G.I b x → G'.I b x) ∧ vs.length = (c :: cs).length ∧ ∀ (i : Nat) (p q : PV), (c :: cs)[i]? = some p → vs[i]? = some q → ∀ u, Rep1 G.I G.bl w u p → Rep G'.I w u q := by
      intro hf h
      obtain ⟨⟨us, σ1⟩, h1, e⟩ := Option.map_eq_some_iff.1 h
      cases e
      obtain ⟨G', i1, i2, i3, i4, i5⟩ := frzL_core cs h1 hi
      refine ⟨G', i1, i2, i3, by simp [i4], fun i p q hp hq u hu => ?_⟩
      cases i with
      | zero =>
        simp at hp hq
        subst hp hq
        exact (((RepT.one hu).flat hf).mono i3 (Same.refl _ _)).own0
      | succ i => exact i5 i p q (by simpa using hp) (by simpa using hq) u hu
    unfold frzL at h
    split at h
    · rename_i id gen off len size
      split at h
      case h_2 => cases h
      rename_i es hes
      split at h
      case isFalse => cases h
      rename_i hfl
      obtain ⟨⟨us, σ1⟩, h1, e⟩ := Option.map_eq_some_iff.1 h
      cases e
      obtain ⟨G1, j1, j2, j3, j4⟩ := frz_core2 hi hes hfl
      obtain ⟨G', i1, i2, i3, i4, i5⟩ := frzL_core cs h1 j1
      refine ⟨G', i1, i2.trans j2, fun b x h => i3 _ _ (j3 _ _ h), by simp [i4], fun i p q hp hq u hu => ?_⟩
      cases i with
      | zero =>
        simp at hp hq
        subst hp hq
        exact (j4 u (.one hu)).mono i3 (Same.refl _ _)
      | succ i => exact i5 i p q (by simpa using hp) (by simpa using hq) u (hu.mono j3 (Same.refl _ _) (by rw [j2]; exact Bl.le_refl _))
    · split at h
      · rename_i hf
        exact flat hf h
      · cases h
theorem Inv.reset (hi : Inv cx G a w A σ) {d : Nat} {p : PV} (hs : SlotOk cx G a w d p) : Inv cx G a w (A.set d (some p)) σ := by
  refine ⟨hi.defers, hi.size, by rw [List.length_set]; exact hi.room, hi.base, fun t v hv => ?_, hi.obj, hi.len, hi.abl⟩
  rw [get_set] at hv
  split at hv
  · rename_i h; cases hv; rw [h.1]; exact hs
  · exact hi.slot t v hv
theorem sim_frz (hi : Inv cx G a w A σ) (hkd : ∀ t, cx.kd t = fi.kind t) (hnt : cx.nt = fi.nt) {o : Oper} {x : Operand} (ho : o.op = .move x)
    {as : List AArg} (hc : compArgs fi [x] = some as) (hd : plainDst fi o.dst = true) (hrun : runA pur call { dst := o.dst, k := .w .frz, args := as } A σ = some (A', σ')) : Gives P cx o a w A' σ' := by
  obtain ⟨vs, rs, he, hs, hA1, hA2⟩ := runK hrun
  obtain ⟨y, zs, rfl, hy, hz⟩ := compArgs_cons hc
  cases hz
  obtain ⟨p, qs, rfl, hp, hq⟩ := evalArgs_cons he
  cases hq
  have hA : ∀ q, rs = [some q] → A' = setO A o.dst q := by
    rintro q rfl
    cases hdd : o.dst with
    | none =>
      rw [hdd] at hA2
      exact (hA2 (by simp)).1
    | some d =>
      rw [hdd] at hA1
      rw [hA1 rfl]; rfl
  have hrun0 : (execOp a.eval o).run P w = .ok (.value (a.eval x)) w := by simp [execOp, ho]
  have hdst := plain_ok hkd hnt hd
  cases p with
  | nils =>
    simp only [sem, semW] at hs
    cases hs
    rw [hA _ rfl]
    exact .inl ⟨_, w, hrun0, G, hi.put1 (Ext.refl _ _ _) hi.base rfl o.dst hdst rfl (arg_rep hi hkd hy hp rfl) (fun _ _ => trivial)⟩
  | empt =>
    simp only [sem, semW] at hs
    cases hs
    rw [hA _ rfl]
    exact .inl ⟨_, w, hrun0, G, hi.put1 (Ext.refl _ _ _) hi.base rfl o.dst hdst rfl (arg_rep hi hkd hy hp rfl) (fun _ _ => trivial)⟩
  | arr id gen off len size =>
    simp only [sem, semW] at hs
    split at hs
    · rename_i es hes
      split at hs
      · rename_i hfl
        cases hs
        rw [hA _ rfl]
        obtain ⟨G', hi', hrep⟩ := frz_core hi hes hfl
        exact .inl ⟨_, w, hrun0, G', hi'.put1 (Ext.refl _ _ _) hi'.base rfl o.dst hdst rfl (.one (.inl (hrep _ (arg_rep hi hkd hy hp rfl)))) (fun _ _ => trivial)⟩
      · cases hs
    · cases hs
  | _ => simp [sem, semW] at hs
theorem sim_mks (hi : Inv cx G a w A σ) (hkd : ∀ t, cx.kd t = fi.kind t) (hnt : cx.nt = fi.nt) {o : Oper} {t e : TypeId} {l c : Operand} {d : Nat} (ho : o.op = .makeSlice t l c) (hod : o.dst = some d)
    (ht : P.underlying t = some (.slice e)) {it : TypeInfo} (hit : P.info? e = some it) {z : PV} (hz : zeroP P e = some z) (hs0 : 0 < it.size) (hby : it.bytes ≤ 4096) (hzl : z.cells.length = it.size)
    {as : List AArg} (hc : compArgs fi [l, c] = some as) (hd : isPlain fi d = true) (hrun : runA pur call { dst := some d, k := .w (.mks it.size z), args := as } A σ = some (A', σ')) : Gives P cx o a w A' σ' := by
  obtain ⟨vs, rs, he, hs, hA, _⟩ := runK hrun
  obtain ⟨y, zs, rfl, hy, hz'⟩ := compArgs_cons hc
  obtain ⟨y2, zs, rfl, hy2, hz'⟩ := compArgs_cons hz'
  cases hz'
  obtain ⟨p, qs, rfl, hp, hq⟩ := evalArgs_cons he
  obtain ⟨p2, qs, rfl, hp2, hq⟩ := evalArgs_cons hq
  cases hq
  have hdv := plain1 hkd hnt hd
  simp only [sem] at hs
  cases p with
  | int k1 n => cases p2 with
    | int k2 m =>
      simp only [semW] at hs
      split at hs
      case isFalse => cases hs
      rename_i hcc
      obtain ⟨rfl, h0, hmax, _, _⟩ := hcc
      cases hs
      rw [hA rfl]
      have e1 := (arg_rep hi hkd hy hp rfl).int_inv
      have e2 := (arg_rep hi hkd hy2 hp2 rfl).int_inv
      unfold zeroP at hz
      rw [hit] at hz
      obtain ⟨zv, hzv, hzp⟩ := Option.bind_eq_some_iff.1 hz
      have hzr : Rep G.I w zv z := rep_ofVal hzp
      obtain ⟨r1, r2⟩ := rep_cells hzr
      have hmx : (maxRow : Int) = 4294967296 := rfl
      have hbb : (it.bytes : Int) * n ≤ 281474976710656 := by
        have h1 : (it.bytes : Int) * n ≤ 4096 * n := Int.mul_le_mul_of_nonneg_right (by omega) h0
        omega
      have hmk := run_make (P := P) w t e it zv ht hit hzv k1 k2 n n h0 (Int.le_refl _) hbb (by omega)
      have hr : (execOp a.eval o).run P w = .ok (.value (.slice (some ⟨w.heap.size, 0, none⟩) n.toNat n.toNat)) (w.alloc (.cells (madeCells zv.cells (n.toNat * it.size)) e)) := by
        simp only [execOp, ho, e1, e2, Sem.run_bind, hmk, Result.andThen_ok]; rfl
      refine new_arr hi hdv hod (Ext.refl _ _ _) hi.base hs0 (Nat.le_refl _) (size_madeCells _ _) (by simp) (fun i q hq => ?_) hr
      rw [List.getElem?_replicate] at hq
      split at hq
      case isFalse => cases hq
      rename_i hin
      cases hq
      refine ⟨hzl, fun j u hu => .one (.inl ?_)⟩
      have hj : j < it.size := by rw [← hzl]; exact (List.getElem?_eq_some_iff.1 hu).1
      have hlt : 0 + i * it.size + j < n.toNat * it.size := by
        have : (i + 1) * it.size ≤ n.toNat * it.size := Nat.mul_le_mul_right _ (by omega)
        rw [Nat.succ_mul] at this; omega
      have := r2 j u hu
      have hg : (madeCells zv.cells (n.toNat * it.size)).getD (0 + i * it.size + j) undef = zv.cells.getD j undef := by
        have hmod : (0 + i * it.size + j) % zv.cells.size = j := by
          rw [r1, hzl, Nat.zero_add, Nat.add_comm, Nat.add_mul_mod_self_right, Nat.mod_eq_of_lt hj]
        have hjs : j < zv.cells.size := by rw [r1, hzl]; exact hj
        rw [Array.getD_eq_getD_getElem?, Array.getD_eq_getD_getElem?]
        simp only [madeCells, Array.getElem?_map, Array.getElem?_range, hlt, if_true, Option.map_some, hmod]
        simp [hjs]
      rw [hg]; exact this
    | _ => simp [semW] at hs
  | _ => simp [semW] at hs
theorem run_append_zeros (w : World) (t tx ty e : TypeId) (i : TypeInfo) (z : Value) (ht : P.underlying t = some (.slice e)) {k' : IntKind} (hx : P.underlying tx = some (.int k')) (hi : P.info? e = some i) (hz : i.zero = some z) (k : IntKind) (n : Nat) (hn : 0 < n) (hmax : n ≤ maxRow) (hby : i.bytes ≤ 4096) (hs0 : 0 < i.size) :
    (Builtin.append_ #[t, tx] ty #[.slice none 0 0, .int k n]).run P w =
      .ok (.slice (some ⟨w.heap.size, 0, none⟩) n (grownCap w n 0 e)) (w.drew.alloc (.cells (Builtin.zeroCells z.cells n ++ Builtin.zeroCells z.cells (grownCap w n 0 e - n)) e)) := by
  unfold maxRow at hmax
  have hw : IntKind.i64.wrap (n : Int) = n := by rw [IntKind.wrap_i64]; omega
  have h1 : ¬ ((n : Int) < 0) := by omega
  have hbb : n * i.bytes ≤ 4294967296 * 4096 := Nat.mul_le_mul hmax hby
  have h2 : ¬ (281474976710656 < (n : Int) * i.bytes) := by
    rw [← Int.natCast_mul]; omega
  have h3 : ¬ (9223372036854775807 < (n : Int)) := by omega
  have h5 : ¬ (281474976710656 < Builtin.nextslicecap n 0 * i.bytes) := by
    have := next_bytes (old := 0) hn (by unfold maxRow; exact hmax) hby
    omega
  have h6 : n ≠ 0 := by omega
  have h7 : i.size ≠ 0 := by omega
  have h8 : ¬ (n ≤ 0) := by omega
  have h9 : ¬ (n = 0 ∨ i.size = 0) := by omega
  simp [Builtin.append_, run_underlying ht, run_underlying hx, sizeOf, typeInfo, zeroValue, hi, hz, asInt, asIntOf, hw, h1, h2, h3, h5, h6, h7, Question.forced, run_firstCells_none, newRow, grownCap]
  intro hbad
  have := Nat.mul_pos hn hs0
  omega
theorem sim_appZ (hi : Inv cx G a w A σ) (hkd : ∀ t, cx.kd t = fi.kind t) (hnt : cx.nt = fi.nt) {o : Oper} {c : Call} (ho : o.op = .call c) (hb : c.callee = .builtin .append)
    {sT xT e : TypeId} {d : Nat} {y1 y : Operand} (hargs : c.args = #[y1, y]) (htys : c.argTypes = #[sT, xT]) (hod : o.dst = some d)
    (hsT : P.underlying sT = some (.slice e)) {k' : IntKind} (hxT : P.underlying xT = some (.int k')) {it : TypeInfo} (hit : P.info? e = some it) {z : PV} (hz : zeroP P e = some z)
    (hs0 : 0 < it.size) (hby : it.bytes ≤ 4096) (hzl : z.cells.length = it.size)
    {as : List AArg} (hc : compArgs fi [y1, y] = some as) (hd : isPlain fi d = true)
    (hrun : runA pur call { dst := some d, k := .w (.appZ it.size z), args := as } A σ = some (A', σ')) : Gives P cx o a w A' σ' := by
  obtain ⟨vs, rs, he, hs, hA, _⟩ := runK hrun
  obtain ⟨z1, zs, rfl, hy1, hz1⟩ := compArgs_cons hc
  obtain ⟨z2, zs, rfl, hy2, hz1⟩ := compArgs_cons hz1
  cases hz1
  obtain ⟨s, qs, rfl, hp, hq⟩ := evalArgs_cons he
  obtain ⟨x, qs, rfl, hp2, hq⟩ := evalArgs_cons hq
  cases hq
  have hdv := plain1 hkd hnt hd
  simp only [sem] at hs
  cases s with
  | nils => cases x with
    | int k n =>
      simp only [semW] at hs
      split at hs
      case isFalse => cases hs
      rename_i hcc
      obtain ⟨h0, hmax, _⟩ := hcc
      cases hs
      rw [hA rfl]
      have e1 := (arg_rep hi hkd hy1 hp rfl).nils_inv
      have e2 := (arg_rep hi hkd hy2 hp2 rfl).int_inv
      unfold zeroP at hz
      rw [hit] at hz
      obtain ⟨zv, hzv, hzp⟩ := Option.bind_eq_some_iff.1 hz
      have hzr : Rep G.I w zv z := rep_ofVal hzp
      obtain ⟨r1, r2⟩ := rep_cells hzr
      obtain ⟨consts, hrun'⟩ := run_builtin (P := P) (w := w) (a := a) ho hb
      rw [hargs, htys] at hrun'
      have hev : (#[y1, y].map a.eval) = #[a.eval y1, a.eval y] := by simp
      rw [hev, e1, e2] at hrun'
      have hnn : ((n.toNat : Nat) : Int) = n := by omega
      have hmk := run_append_zeros (P := P) w sT xT o.type e it zv hsT hxT hit hzv k n.toNat (by omega) (by omega) hby hs0
      rw [hnn] at hmk
      have hfin : ∀ {v : Value} {w' : World}, (Builtin.append_ #[sT, xT] o.type #[.slice none 0 0, .int k n]).run P w = .ok v w' → (execOp a.eval o).run P w = .ok (.value v) w' := by
        intro v w' h
        rw [hrun']
        simp only [builtin, Sem.run_bind, h, Result.andThen_ok, Sem.run_pure]
      have hr := hfin hmk
      have hcap : n.toNat ≤ grownCap w n.toNat 0 e := grownCap_ge ..
      have hzs : zv.cells.size = it.size := by rw [r1, hzl]
      refine new_arr hi hdv hod (ext_drew (G := G) (w := w) (fun _ => False)) (base_drew hi.base) hs0 hcap ?_ (by simp) (fun i q hq => ?_) hr
      · simp only [Array.size_append, Builtin.zeroCells, Array.size_map, Array.size_range, hzs]
        rw [← Nat.add_mul]; congr 1; omega
      · rw [List.getElem?_replicate] at hq
        split at hq
        case isFalse => cases hq
        rename_i hin
        cases hq
        refine ⟨hzl, fun j u hu => .one (.inl ?_)⟩
        have hj : j < it.size := by rw [← hzl]; exact (List.getElem?_eq_some_iff.1 hu).1
        have hlt : 0 + i * it.size + j < n.toNat * it.size := by
          have : (i + 1) * it.size ≤ n.toNat * it.size := Nat.mul_le_mul_right _ (by omega)
          rw [Nat.succ_mul] at this; omega
        have := r2 j u hu
        have hg : (Builtin.zeroCells zv.cells n.toNat ++ Builtin.zeroCells zv.cells (grownCap w n.toNat 0 e - n.toNat)).getD (0 + i * it.size + j) undef = zv.cells.getD j undef := by
          have hmod : (0 + i * it.size + j) % zv.cells.size = j := by
            rw [hzs, Nat.zero_add, Nat.add_comm, Nat.add_mul_mod_self_right, Nat.mod_eq_of_lt hj]
          have hjs : j < zv.cells.size := by rw [hzs]; exact hj
          have hlt2 : 0 + i * it.size + j < n.toNat * zv.cells.size := by rw [hzs]; exact hlt
          rw [Array.getD_eq_getD_getElem?, Array.getD_eq_getD_getElem?, Array.getElem?_append_left (by simpa [Builtin.zeroCells] using hlt2)]
          simp only [Builtin.zeroCells, Array.getElem?_map, Array.getElem?_range, hlt2, if_true, Option.map_some, hmod]
          simp [hjs]
        rw [hg]; exact this
    | _ => simp [semW] at hs
  | _ => simp [semW] at hs
theorem sim_bse (hi : Inv cx G a w A σ) (hkd : ∀ t, cx.kd t = fi.kind t) (hnt : cx.nt = fi.nt) {o : Oper} {t e : TypeId} (ho : o.op = .buildSlice t 0 #[])
    (ht : P.underlying t = some (.slice e)) {size : Nat} {ag : Bool} (hsz : cellsT P e = some (size, ag))
    (hd : plainDst fi o.dst = true) (hrun : runA pur call { dst := o.dst, k := .p .bse, args := [] } A σ = some (A', σ')) : Gives P cx o a w A' σ' := by
  refine givesW hi (plain_ok hkd hnt hd) hrun fun vs rs he hs => ?_
  cases he
  cases hs
  have hext := ext_newB (fun _ => False) hi.base (.cells #[] e) (fun _ => False) (none : Option Tag)
  refine ⟨_, .slice (some ⟨w.heap.size, 0, none⟩) 0 0, G.newB w.heap.size (fun _ => False) none, w.alloc (.cells #[] e), rfl, rfl, ?_, hext, base_newB hi.base _ _ _, rfl, .one (.inl .empt), fun _ _ => trivial⟩
  simp only [execOp, ho, Instr.buildSlice, Sem.run_bind, underlying, run_program, ht, Result.andThen_ok, Sem.run_pure, run_sizeOf hsz, newRow, run_newObj]
  have hz0 : (Array.map (fun _ => (default : Value)) (Array.range 0)) = #[] := by apply Array.eq_empty_of_size_eq_zero; simp
  simp [Instr.fill, run_newObj]
  rw [hz0]
theorem run_eqGuard_slice (op : BinOp) (t : TypeId) (x y : Operand) (ad : Option Addr) (l c : Nat) : (eqGuard op t x y (.slice ad l c) (.slice none 0 0)).run P w = .ok () w := by
  cases op <;> rfl
theorem run_equal_slice {t e : TypeId} (ht : P.underlying t = some (.slice e)) (ad : Option Addr) (l c : Nat) : (Op.equal t (.slice ad l c) (.slice none 0 0)).run P w = .ok (ad.isNone) w := by
  show (Op.equalIn (9999 + 1) t _ _).run P w = _
  generalize 9999 = d
  cases ad <;> simp [Op.equalIn, underlying, ht]
theorem sim_snil (hi : Inv cx G a w A σ) (hkd : ∀ t, cx.kd t = fi.kind t) (hnt : cx.nt = fi.nt) {o : Oper} {ne : Bool} {op : BinOp} (hop : op = if ne then .neq else .eql) {t yt e : TypeId} {x y : Operand} (ho : o.op = .binOp op t x y yt) (ht : P.underlying t = some (.slice e))
    {as : List AArg} (hc : compArgs fi [x, y] = some as) (hd : plainDst fi o.dst = true) (hrun : runA pur call { dst := o.dst, k := .p (.snil ne), args := as } A σ = some (A', σ')) : Gives P cx o a w A' σ' := by
  refine gives0 hi hkd hnt hd hrun fun vs rs he hs => ?_
  obtain ⟨y1, zs, rfl, hy1, hz⟩ := compArgs_cons hc
  obtain ⟨y2, zs, rfl, hy2, hz⟩ := compArgs_cons hz
  cases hz
  obtain ⟨p1, qs, rfl, hp1, hq⟩ := evalArgs_cons he
  obtain ⟨p2, qs, rfl, hp2, hq⟩ := evalArgs_cons hq
  cases hq
  cases p2 with
  | nils =>
    have e2 := (arg_rep hi hkd hy2 hp2 rfl).nils_inv
    have key : ∀ (ad : Option Addr) (l c : Nat) (b : Bool), a.eval x = .slice ad l c → ad.isNone = b → (execOp a.eval o).run P w = .ok (.value (.bool (b != ne))) w := by
      rintro ad l c b e1 rfl
      have hg := run_eqGuard_slice (P := P) (w := w) op t x y ad l c
      have hq := run_equal_slice (P := P) (w := w) ht ad l c
      have hb : (Go.binOp op t (.slice ad l c) (.slice none 0 0)).run P w = .ok (.bool (ad.isNone != ne)) w := by
        cases ne with
        | true =>
          rw [if_pos rfl] at hop
          subst hop
          rw [binOp_neq hq rfl]
          cases ad <;> rfl
        | false =>
          rw [if_neg (by simp)] at hop
          subst hop
          rw [binOp_eql hq rfl]
          cases ad <;> rfl
      simp [execOp, ho, e1, e2, hg, hb]
    cases p1 with
    | nils =>
      cases hs
      have e1 := (arg_rep hi hkd hy1 hp1 rfl).nils_inv
      have := key _ _ _ true e1 rfl
      exact ⟨_, _, rfl, rfl, this, by cases ne <;> exact .one (.inl (.bool _)), fun _ => trivial⟩
    | slice own sz es =>
      cases hs
      obtain ⟨ad, len, cap, cv, e1, _⟩ := (arg_rep hi hkd hy1 hp1 rfl).slice_inv
      have := key _ _ _ false e1 rfl
      exact ⟨_, _, rfl, rfl, this, by cases ne <;> exact .one (.inl (.bool _)), fun _ => trivial⟩
    | arr id gen off len sz =>
      cases hs
      obtain ⟨b, base, n, cap, b', o', _, _, _, _, e1⟩ := (arg_rep hi hkd hy1 hp1 rfl).arr_inv
      have := key _ _ _ false e1 rfl
      exact ⟨_, _, rfl, rfl, this, by cases ne <;> exact .one (.inl (.bool _)), fun _ => trivial⟩
    | empt =>
      cases hs
      obtain ⟨ad, e1⟩ := (arg_rep hi hkd hy1 hp1 rfl).empt_inv
      have := key _ _ _ false e1 rfl
      exact ⟨_, _, rfl, rfl, this, by cases ne <;> exact .one (.inl (.bool _)), fun _ => trivial⟩
    | _ => simp [semP] at hs
  | _ => simp [semP] at hs
theorem sim_ldz (hi : Inv cx G a w A σ) (hkd : ∀ t, cx.kd t = fi.kind t) (hnt : cx.nt = fi.nt) {o : Oper} {t : TypeId} {s d : Nat} (ho : o.op = .load t (.tmp s)) (hod : o.dst = some d) (hk : cx.kd s = .box) {n k : Nat} (hn : cellsT P t = some (n, true))
    (hd : isPlain fi d = true) (hrun : runA pur call { dst := some d, k := .w (.ldz n k), args := [.slot s], ex := [s] } A σ = some (A', σ')) : Gives P cx o a w A' σ' := by
  obtain ⟨vs, rs, he, hs, hA, _⟩ := runK hrun
  obtain ⟨c, qs, rfl, hp, hq⟩ := evalArgs_cons he
  cases hq
  have hdv := plain1 hkd hnt hd
  have hne : d ≠ s := by rintro rfl; rw [hk] at hdv; simp [SK.val] at hdv
  obtain ⟨hg, _⟩ := slot_get hp
  simp only [sem] at hs
  have hsl : s < A.length := by
    unfold Frm.get at hg
    cases h : A[s]? with
    | none => rw [h] at hg; cases hg
    | some _ => exact (List.getElem?_eq_some_iff.1 h).1
  have key : ∀ {G' : Gh} {σ1 : Sto} {cs' : List PV} {v : PV}, Inv cx G' a w (A.set s (some (.agg cs'))) σ1 → sub (.agg cs') 0 n true = some v → rs = [some v.disown, some (.agg cs')] → σ' = σ1 → Gives P cx o a w A' σ' := by
    intro G' σ1 cs' v hi' hv e1 e2
    subst e1 e2
    have hA' := hA rfl
    have hvB : subB (.agg cs') 0 n true = some v := by unfold subB; rw [hv]
    have hgs : Frm.get (A.set s (some (PV.agg cs'))) s = some (.agg cs') := by rw [get_set, if_pos ⟨rfl, hsl⟩]
    refine sim_ldl (pur := pur) (call := call) hi' hkd hnt ho hk hn (by rw [hod]; exact hd) ?_
    rw [hod]
    simp only [runA, evalArgs, hgs, sem, semP, hvB, Option.map_some, AOp.wr, Option.toList, List.length_cons, List.length_nil, List.append_nil, if_true, List.map_nil, putAll]
    rw [hA']
    simp only [AOp.wr, Option.toList, List.append_nil, List.map_nil, putAll, List.cons_append, List.nil_append]
    rw [List.set_comm _ _ (fun e => hne e)]
  have hbox := hi.slot s c hg
  cases c with
  | agg cs =>
    simp only [semW] at hs
    split at hs
    · rename_i id gen off len size hx
      split at hs
      case h_2 => cases hs
      rename_i es hes
      split at hs
      case isFalse => cases hs
      rename_i hfl
      obtain ⟨v, hv, e⟩ := Option.map_eq_some_iff.1 hs
      cases e
      obtain ⟨G', hi', hrep⟩ := frz_core hi hes hfl
      refine key (hi'.reset ?_) hv rfl rfl
      obtain ⟨b, hb, hcell⟩ := (SlotOk_box hk).1 hbox
      obtain ⟨b', hb', hcell'⟩ := (SlotOk_box hk).1 (hi'.slot s _ hg)
      rw [hb] at hb'
      cases hb'
      refine (SlotOk_box hk).2 ⟨b, hb, ?_⟩
      obtain ⟨c1, c2, cells, elem, c3, c4, c5⟩ := hcell'
      obtain ⟨_, _, cells2, elem2, d3, d4, d5⟩ := hcell
      rw [c3] at d3
      cases d3
      refine ⟨c1, c2, cells, elem, c3, by rw [c4]; simp [PV.cells], fun j p hp => ?_⟩
      simp only [PV.cells] at hp
      rw [List.getElem?_set] at hp
      split at hp
      · rename_i e
        subst e
        split at hp
        · cases hp
          exact .inl ⟨.one (.inl (hrep _ ((d5 _ _ hx).rep (by simp)).1)), trivial⟩
        · cases hp
      · exact c5 j p hp
    · obtain ⟨v, hv, e⟩ := Option.map_eq_some_iff.1 hs
      cases e
      exact key (hi.reset hbox) hv rfl rfl
  | _ => simp [semW] at hs
theorem sim_fld (hi : Inv cx G a w A σ) (hkd : ∀ t, cx.kd t = fi.kind t) (hnt : cx.nt = fi.nt) {o : Oper} {t : TypeId} {x : Operand} {f : Nat} (ho : o.op = .field t x f)
    {fs : Array Field} {fl : Field} (hs' : P.underlying t = some (.struct fs)) (hf : fs[f]? = some fl) {n : Nat} {ag : Bool} (hn : cellsT P fl.type = some (n, ag))
    {as : List AArg} (hc : compArgs fi [x] = some as) (hd : plainDst fi o.dst = true) (hrun : runA pur call { dst := o.dst, k := .p (.fld fl.offset n ag), args := as } A σ = some (A', σ')) : Gives P cx o a w A' σ' := by
  refine gives0 hi hkd hnt hd hrun fun vs rs he hs => ?_
  obtain ⟨y, zs, rfl, hy, hz⟩ := compArgs_cons hc
  cases hz
  obtain ⟨p, qs, rfl, hp, hq⟩ := evalArgs_cons he
  cases hq
  cases p with
  | agg ps =>
    obtain ⟨cs, hv, hsz, hr⟩ := (arg_rep hi hkd hy hp rfl).agg_inv
    simp only [semP] at hs
    obtain ⟨v, hsub, e⟩ := Option.map_eq_some_iff.1 hs
    cases e
    have hsc := sub_cells hsub
    have hfit := fits_sub hsub
    cases ag with
    | true =>
      cases v with
      | agg qs =>
        simp [fits] at hfit
        refine ⟨_, .agg (cs.extract fl.offset (fl.offset + n)), rfl, rfl, ?_, ?_, fun _ => OwnOk_disown (.agg qs)⟩
        · simp [execOp, ho, Instr.field, underlying, hs', hf, hv, asAgg, part, run_isAgg hn, run_sizeOf hn]
        · have hle : fl.offset + n ≤ ps.length := by
            unfold sub at hsub
            dsimp only at hsub
            split at hsub
            · rename_i h; exact h.1
            · cases hsub
          refine (RepT.one (.inl (.agg (by simp [hfit]; omega) fun i p hp => ?_))).disown
          have hlt := (List.getElem?_eq_some_iff.1 hp).1
          have := hr _ _ (hsc i p hp)
          have e : (cs.extract fl.offset (fl.offset + n)).getD i undef = cs.getD (fl.offset + i) undef := by
            rw [Array.getD_eq_getD_getElem?, Array.getElem?_extract, if_pos (by omega), Array.getD_eq_getD_getElem?]
          rw [e]; exact this
      | _ => simp [fits] at hfit
    | false =>
      have hvc : v.cells = [v] := by cases v <;> first | rfl | simp [fits] at hfit
      have h0 := hsc 0 v (by rw [hvc]; rfl)
      have hlt := (List.getElem?_eq_some_iff.1 h0).1
      have hrep := hr _ _ h0
      simp only [PV.cells, Nat.add_zero] at hlt hrep
      refine ⟨_, cs.getD fl.offset undef, rfl, by rw [free_disown]; exact rep_free hrep, ?_, (RepT.one (.inl hrep)).disown, fun _ => OwnOk_disown v⟩
      have hcs : fl.offset < cs.size := by omega
      simp [execOp, ho, Instr.field, underlying, hs', hf, hv, asAgg, part, run_isAgg hn, hcs, Array.getD]
  | _ => simp [semP] at hs
theorem freeze_block (w : World) (b k : Nat) : OneBlock b w (w.freeze ⟨b, k, none⟩ 1) := by
  unfold World.freeze
  rw [if_neg (by decide)]
  exact ⟨fun j hj => by simp [Array.getElem?_modify, Ne.symm hj], by simp, rfl, rfl, rfl⟩
theorem freeze_cells {b k : Nat} {cs : Array Value} {elem : TypeId} {fz : Nat × Nat} (h : w.heap[b]? = some (.cells cs elem fz)) : ∃ fz', (w.freeze ⟨b, k, none⟩ 1).heap[b]? = some (.cells cs elem fz') := by
  unfold World.freeze
  rw [if_neg (by decide)]
  obtain ⟨lo, hi⟩ := fz
  refine ⟨if lo == hi then (k, k + 1) else (min lo k, max hi (k + 1)), ?_⟩
  simp only [Array.getElem?_modify, if_true, h, Option.map_some]
theorem sim_cvi (hi : Inv cx G a w A σ) (hkd : ∀ t, cx.kd t = fi.kind t) (hnt : cx.nt = fi.nt) {o : Oper} {s t e e' : TypeId} {u d : Nat} (ho : o.op = .convert s t (.tmp u)) (hst : s = t) (hod : o.dst = some d)
    (hs : P.underlying s = some (.slice e')) (ht : P.underlying t = some (.slice e)) (he : P.underlying e = some (.int .u8))
    {as : List AArg} (hc : compArgs fi [.tmp u] = some as) (hd : isPlain fi d = true) (hu : isPlain fi u = true) (hne : d ≠ u)
    (hrun : runA pur call { dst := some d, k := .p .cvi, args := as, ex := [u] } A σ = some (A', σ')) : Gives P cx o a w A' σ' := by
  subst hst
  obtain ⟨vs, rs, hea, hsem, rfl, hA⟩ := run2 hrun
  obtain ⟨y, zs, rfl, hy, hz⟩ := compArgs_cons hc
  cases hz
  obtain ⟨p, qs, rfl, hp, hq⟩ := evalArgs_cons hea
  cases hq
  have hyy : y = .slot u := by
    simp only [compArg] at hy
    split at hy <;> first | (split at hy <;> first | (cases hy; rfl) | cases hy) | cases hy
  subst hyy
  cases p with
  | slice own sz es =>
    cases own with
    | false => simp [semP] at hsem
    | true =>
      simp only [semP] at hsem
      split at hsem
      case isFalse => cases hsem
      rename_i hsz
      subst hsz
      cases hsem
      rw [hA _ _ rfl]
      have huv := plain1 hkd hnt hu
      have hdv := plain1 hkd hnt hd
      obtain ⟨hrep, how⟩ := slot_val hi huv.2 hp rfl
      obtain ⟨b, off, cap, cs, elem, ev, hω, hIn, hIt, hheap, hcs, h0, hle⟩ := how
      let w' := w.freeze ⟨b, cs.size, none⟩ 1
      let G' := G.shut b fun _ => False
      have hob := freeze_block w b cs.size
      have hcell : ∀ j, w'.cell? ⟨b, j, none⟩ = w.cell? ⟨b, j, none⟩ := by
        intro j
        obtain ⟨fz', hf⟩ := freeze_cells (k := cs.size) hheap
        show World.cell? (w.freeze _ _) _ = _
        simp only [World.cell?, hf, hheap]
      have hsame : Same G.I w w' := by
        refine ⟨fun b' j h => ?_, fun b' h => hob.other _ (fun e => hIn (e ▸ h))⟩
        by_cases hb : b' = b
        · subst hb; exact hcell j
        · exact cell_of_heap (hob.other _ hb)
      have hext : Ext (fun tg => tg = .slot u none ∨ tg = .slot d none) G G' w w' := by
        refine ⟨fun _ _ h => .inl h, hsame, Bl.le_refl _, fun _ _ _ _ => rfl, fun b' tg h hX => ?_⟩
        have hbb : b' ≠ b := by
          intro e; subst e
          rw [hω] at h; cases h
          exact hX (.inl rfl)
        refine ⟨by simp [G', Gh.shut, hbb, h], hob.other _ hbb, fun x hx => ?_⟩
        rcases hx with hx | ⟨_, hx⟩
        · exact hx
        · exact hx.elim
      have hnK := (hi.base.own b _ hω).2
      have hbase : Base cx G' w' := by
        have hb0 := base_shut hi.base hω (fun _ => False)
        refine ⟨fun b' hK => ?_, hi.base.same.trans hsame hi.base.sub, hb0.sub, hb0.new, fun b' x h => ?_, fun b' tg h => ?_, hb0.Klt, ?_, hb0.bl, ?_, ?_, ?_⟩
        · rw [hob.other _ (fun e => hnK (e ▸ hK))]; exact hb0.keep b' hK
        · rw [hob.size]; exact hb0.lt b' x h
        · rw [hob.size]; exact hb0.own b' tg h
        · rw [hob.size]; exact hb0.grow
        · rw [hob.os]; exact hb0.os
        · rw [hob.tape]; exact hb0.tape
        · rw [hob.output]; exact hb0.output
      have hev : a.eval (.tmp u) = at' a u := rfl
      have hrun' : (execOp a.eval o).run P w = .ok (.value (at' a u)) w' := by
        have hsh : w.shape? b = some (elem, cs.size) := by simp [World.shape?, hheap]
        simp only [execOp, ho, hev, ev, convert, underlying]
        simp [hs, he, markStringish, hsh]
        rw [hs] at ht; cases ht
        simp [he, markStringish, hsh]
        rfl
      refine .inl ⟨at' a u, w', hrun', G', ?_⟩
      rw [hod]
      have hrep' := (hrep.mono hext.I hext.same hext.bl).disown
      exact hi.put2 hdv huv hext hbase rfl rfl rfl hrep' (fun _ => trivial) (by rw [at'_put_ne _ _ _ _ (fun e => hne (Option.some.inj e))]; exact hrep') (fun _ _ => trivial)
  | _ => simp [semP] at hsem
end
end Go.Abs
