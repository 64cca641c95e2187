/- A part of the proof: A17 A18 A19 A20 A21. -/
import Derived.Test.YtakhbjefcjmelaaGreatDoorKd
import Derived.Deep.Upon

set_option linter.unusedVariables false
set_option linter.unusedSimpArgs false
namespace Go.Abs
open Go.RowKit
section
variable {P : Program} {pur : FuncId → Bool} {call : Caller} {fi : FI} {cx : Cx} {G : Gh} {a : Act} {w : World} {A A' : Frm} {σ σ' : Sto}
theorem heap_setCells_same (b : Nat) (t : TypeId) (fr : Nat × Nat) : ∀ (vs : List Value) (o : Nat) (w : World) (cur : Array Value), w.heap[b]? = some (.cells cur t fr) →
    ∃ cur' : Array Value, cur'.size = cur.size ∧ (w.setCells b o vs).heap[b]? = some (.cells cur' t fr)
  | [], _, _, cur, h => ⟨cur, rfl, h⟩
  | v :: r, o, w, cur, h => by
    have h1 : (w.setCell ⟨b, o, none⟩ v).heap[b]? = some (.cells (cur.setIfInBounds o v) t fr) := by
      simp only [World.setCell, Array.getElem?_modify, if_true, h]
      rfl
    obtain ⟨cur', e, h2⟩ := heap_setCells_same b t fr r (o + 1) _ _ h1
    exact ⟨cur', by simpa using e, h2⟩
theorem heap_setCells_ne (b : Nat) : ∀ (vs : List Value) (o : Nat) (w : World) (k : Nat), k ≠ b → (w.setCells b o vs).heap[k]? = w.heap[k]?
  | [], _, _, _, _ => rfl
  | v :: r, o, w, k, h => by
    rw [World.setCells, heap_setCells_ne b r _ _ k h]
    simp only [World.setCell, Array.getElem?_modify]
    rw [if_neg (fun e => h e.symm)]
theorem size_setCells (b : Nat) : ∀ (vs : List Value) (o : Nat) (w : World), (w.setCells b o vs).heap.size = w.heap.size
  | [], _, _ => rfl
  | v :: r, o, w => by rw [World.setCells, size_setCells b r]; simp [World.setCell]
theorem tape_setCells (b : Nat) : ∀ (vs : List Value) (o : Nat) (w : World), (w.setCells b o vs).tape = w.tape
  | [], _, _ => rfl
  | v :: r, o, w => by rw [World.setCells, tape_setCells b r]; rfl
theorem rep_of_row {I : Imm} {w' : World} {b off size n cap : Nat} {own : Bool} {cs : List Value} {es : List PV} (hn : n = es.length) (hcap : n ≤ cap) (hrow : RowOk I w' size cs es)
    (hI : ∀ k, k < cs.length → I b (some (off + k))) (hc : ∀ k (v : Value), cs[k]? = some v → w'.cell? ⟨b, off + k, none⟩ = some v) : Rep I w' (.slice (some ⟨b, off, none⟩) n cap) (.slice own size es) := by
  refine .slice (fun i j => cs.getD (i * size + j) undef) hn hcap (fun _ => rfl) hrow.2.1 (fun i e j p he hp => ?_) (fun i e j p he hp => ?_) (fun i e j p he hp => ?_)
  all_goals obtain ⟨c, h1, h2⟩ := hrow.2.2 i e j p he hp
  · have := hI _ (List.getElem?_eq_some_iff.1 h1).1
    rw [← Nat.add_assoc] at this; exact this
  · have := hc _ _ h1
    rw [← Nat.add_assoc] at this
    rw [List.getD_eq_getElem?_getD, h1]; exact this
  · rw [List.getD_eq_getElem?_getD, h1]; exact h2
theorem next_bytes {need old bytes : Nat} (h : old < need) (hn : need ≤ maxRow) (hb : bytes ≤ 4096) : Builtin.nextslicecap need old * bytes ≤ 281474976710656 := by
  have h1 := nextslicecap_le h
  unfold maxRow at hn
  have : Builtin.nextslicecap need old * bytes ≤ (2 * 4294967296) * 4096 := Nat.mul_le_mul (by omega) hb
  omega
theorem grownCap_ge (w : World) (need old : Nat) (e : TypeId) : need ≤ grownCap w need old e := by
  simp only [grownCap, Question.cut]; omega
theorem sim_app (hi : Inv cx G a w A σ) (hkd : ∀ t, cx.kd t = fi.kind t) (hnt : cx.nt = fi.nt) {o : Oper} {c : Call} (ho : o.op = .call c) (hb : c.callee = .builtin .append)
    {sT xT e : TypeId} {u d : Nat} {y : Operand} (hargs : c.args = #[.tmp u, y]) (htys : c.argTypes = #[sT, xT]) (hod : o.dst = some d)
    (hsT : P.underlying sT = some (.slice e)) (hxT : (∃ e', P.underlying xT = some (.slice e')) ∨ P.underlying xT = some .string) {it : TypeInfo} (hit : P.info? e = some it)
    (hs0 : 0 < it.size) (hby : it.bytes ≤ 4096) (hz : (it.zero.map (·.cells.size)) = some it.size)
    {as : List AArg} (hc : compArgs fi [.tmp u, y] = some as) (hd : isPlain fi d = true) (hu : isPlain fi u = true) (hne : d ≠ u)
    (hrun : runA pur call { dst := some d, k := .p (.app it.size), args := as, ex := [u] } A σ = some (A', σ')) : Gives P cx o a w A' σ' := by
  obtain ⟨vs, rs, he, hsem, rfl, hA⟩ := run2 hrun
  obtain ⟨y1, zs, rfl, hy1, hz1⟩ := compArgs_cons hc
  obtain ⟨y2, zs, rfl, hy2, hz2⟩ := compArgs_cons hz1
  cases hz2
  obtain ⟨s, qs, rfl, hs, hq⟩ := evalArgs_cons he
  obtain ⟨x, qs, rfl, hx, hq⟩ := evalArgs_cons hq
  cases hq
  have huv := plain1 hkd hnt hu
  have hdv := plain1 hkd hnt hd
  have hyy : y1 = .slot u := by
    simp only [compArg] at hy1
    split at hy1 <;> first | (split at hy1 <;> first | (cases hy1; rfl) | cases hy1) | cases hy1
  subst hyy
  obtain ⟨z, hz', hzs⟩ := Option.map_eq_some_iff.1 hz
  simp only [semP, appV] at hsem
  split at hsem
  case h_2 => cases hsem
  rename_i es xs hes hxs
  have hsfree : s.free = true := by cases s <;> first | rfl | simp [appS] at hes
  have hxfree : x.free = true := by cases x <;> first | rfl | simp [appX] at hxs
  obtain ⟨hsrep, hsown⟩ := slot_val hi huv.2 hs hsfree
  have hxrep := arg_rep hi hkd hy2 hx hxfree
  obtain ⟨consts, hrun'⟩ := run_builtin (P := P) (w := w) (a := a) ho hb
  rw [hargs, htys] at hrun'
  have hat : ∀ v, d ≠ u → at' (a.put (some d) v) u = at' a u := fun v h => at'_put_ne _ _ _ _ (fun e => h (Option.some.inj e))
  have hev : (#[Operand.tmp u, y].map a.eval) = #[at' a u, a.eval y] := by simp [Act.eval, at']
  rw [hev] at hrun'
  have hfin : ∀ {v : Value} {w' : World}, (Builtin.append_ #[sT, xT] o.type #[at' a u, a.eval y]).run P w = .ok v w' → (execOp a.eval o).run P w = .ok (.value v) w' := by
    intro v w' h
    rw [hrun']
    simp only [builtin, Sem.run_bind, h, Result.andThen_ok, Sem.run_pure]
  split at hsem
  · 
    rename_i hemp
    have hxe : xs = [] := List.isEmpty_iff.1 hemp
    subst hxe
    cases hsem
    rw [hA _ _ rfl]
    obtain ⟨news, hsrc, hrow⟩ := src_of (P := P) (G := G) hs0 hxT hxrep hxs (by rfl)
    have hn0 : news = [] := List.length_eq_zero_iff.1 (by rw [hsrc.newsLen]; simp)
    subst hn0
    have hrun0 : (Builtin.append_ #[sT, xT] o.type #[at' a u, a.eval y]).run P w = .ok (at' a u) w := by
      cases s with
      | slice own sz es' =>
        cases own with
        | false => simp [appS] at hes
        | true =>
          obtain ⟨b, off, cap, cs, elem, ev, _, _, _, _, _, _, hle⟩ := hsown
          rw [ev]
          exact run_append_room_src w sT xT o.type e it hsT hit b off _ cap _ _ [] hsrc (by simpa using hle) (by simp) (by simp)
      | nils =>
        have ev := hsrep.nils_inv
        rw [ev]
        have hc0 := hsrc.cells
        have hl0 := hsrc.len w
        simp only [List.length_nil] at hc0 hl0
        rcases hxT with ⟨e', hk⟩ | hk <;> simp [Builtin.append_, run_underlying hsT, run_underlying hk, sizeOf, typeInfo, hit, hl0, hc0]
      | _ => simp [appS] at hes
    obtain ⟨G', e1, e2, hext, hbase, how'⟩ := own_move (d := d) hi.base hsown
    have hatu : at' (a.put (some d) (at' a u)) u = at' a u := by
      by_cases h : d = u
      · subst h; exact at'_put _ _ _ (by rw [hi.size]; exact hdv.1)
      · exact hat _ h
    refine .inl ⟨at' a u, w, hfin hrun0, G', ?_⟩
    rw [hod]
    exact hi.put2 hdv huv hext hbase e2 hsfree (by rw [free_disown]; exact hsfree) (by rw [e1, e2]; exact hsrep) (fun _ => how') (by rw [hatu, e1, e2]; exact hsrep.disown) (fun _ _ => OwnOk_disown s)
  · rename_i hemp
    split at hsem
    case isFalse => cases hsem
    rename_i hcond
    obtain ⟨hmax, hones⟩ := hcond
    cases hsem
    rw [hA _ _ rfl]
    obtain ⟨news, hsrc, hrow⟩ := src_of (P := P) (G := G) hs0 hxT hxrep hxs hones
    have hxlen : 0 < xs.length := by
      cases xs with
      | nil => simp at hemp
      | cons _ _ => simp
    have grow : ∀ (base : Option Addr) (sCap : Nat) (olds : List Value), at' a u = .slice base es.length sCap → sCap < es.length + xs.length → RowOk G.I w it.size olds es →
        (Builtin.firstCells it.size es.length (.slice base es.length sCap)).run P w.drew = .ok olds.toArray w.drew →
        Gives P cx o a w ((A.set d (some (.slice true it.size (es ++ xs)))).set u (some s.disown)) σ' := by
      intro base sCap olds ev hlt holds hfc
      have hr := run_append_grow_src w sT xT o.type e it z hsT hit hz' base es.length sCap olds hfc (a.eval y) xs.length news hsrc hlt (by unfold maxRow at hmax; omega) (next_bytes hlt hmax hby)
      rw [← ev] at hr
      let J : Option Nat → Prop := fun x => ∃ o, x = some o ∧ o < (es.length + xs.length) * it.size
      let cells : Array Value := (olds ++ news).toArray ++ Builtin.zeroCells z.cells (grownCap w (es.length + xs.length) sCap e - (es.length + xs.length))
      have hext0 := (ext_drew (G := G) (w := w) (fun tg => tg = .slot u none ∨ tg = .slot d none)).trans (ext_newB _ (base_drew hi.base) (.cells cells e) J (some (.slot d none)))
      have hbase0 := base_newB (base_drew hi.base) (.cells cells e) J (some (.slot d none))
      have hrow2 := (holds.append hrow).mono hext0.I hext0.same
      have hlen2 : (olds ++ news).length = (es.length + xs.length) * it.size := by rw [List.length_append, holds.1, hrow.1, Nat.add_mul]
      refine .inl ⟨_, _, hfin hr, G.newB w.heap.size J (some (.slot d none)), ?_⟩
      rw [hod]
      refine hi.put2 hdv huv hext0 hbase0 rfl rfl (by rw [free_disown]; exact hsfree) (.one (.inl (rep_of_row (by simp) (grownCap_ge ..) hrow2 (fun k hk => .inr ⟨rfl, _, rfl, by rw [Nat.zero_add]; rw [hlen2] at hk; exact hk⟩) (fun k v hk => ?_)))) (fun _ => ?_)
        (by rw [hat _ hne]; exact (hsrep.mono hext0.I hext0.same hext0.bl).disown) (fun _ _ => OwnOk_disown s)
      · rw [Nat.zero_add]
        have := cell_new w.drew cells e (0, 0) k
        refine this.trans ?_
        have hlt' := (List.getElem?_eq_some_iff.1 hk).1
        simp only [cells]
        rw [Array.getElem?_append_left (by simpa using hlt')]
        simpa using hk
      · refine ⟨w.heap.size, 0, grownCap w (es.length + xs.length) sCap e, cells, e, by rw [List.length_append], by simp [Gh.newB], ?_, ?_, heap_alloc_new' _ _, ?_, hs0, by rw [List.length_append]; exact grownCap_ge ..⟩
        · rintro (h | ⟨_, o, h, _⟩)
          · have := hi.base.lt _ _ h; omega
          · cases h
        · intro o' ho' h
          rcases h with h | ⟨_, o'', h, hlt⟩
          · have := hi.base.lt _ _ h; omega
          · cases h
            rw [List.length_append] at ho'
            omega
        · have hge := grownCap_ge w (es.length + xs.length) sCap e
          simp only [cells, Array.size_append, List.size_toArray, hlen2, Builtin.zeroCells, Array.size_map, Array.size_range, hzs]
          rw [← Nat.add_mul]
          have : es.length + xs.length + (grownCap w (es.length + xs.length) sCap e - (es.length + xs.length)) = grownCap w (es.length + xs.length) sCap e := by omega
          rw [this]; omega
    cases s with
    | slice own sz es' =>
      cases own with
      | false => simp [appS] at hes
      | true =>
        simp only [appS] at hes
        split at hes
        case isFalse => cases hes
        rename_i hsz'
        subst hsz'
        cases hes
        obtain ⟨b, off, cap, cs, elem, ev, hω, hIn, hIt, hheap, hcapsz, _, hle⟩ := hsown
        obtain ⟨ad, len, cap', cv, ev', e1, e2, e3, e4, e5, e6, e7⟩ := hsrep.slice_inv
        rw [ev] at ev'
        cases ev'
        by_cases hfit : es.length + xs.length ≤ cap
        · 
          have hnlen : news.length = xs.length * it.size := hsrc.newsLen
          have hmul : (es.length + xs.length) * it.size ≤ cap * it.size := Nat.mul_le_mul_right _ hfit
          rw [Nat.add_mul] at hmul
          have hin : ∀ j, j < news.length → (w.cell? ⟨b, off + es.length * it.size + j, none⟩).isSome = true := by
            intro j hj
            simp only [World.cell?, hheap]
            have : off + es.length * it.size + j < cs.size := by omega
            simp [this]
          have hr := run_append_room_src w sT xT o.type e it hsT hit b off es.length cap (a.eval y) xs.length news hsrc hfit hin (fun j hj => by simp [World.frozen?, hheap])
          rw [← ev] at hr
          obtain ⟨olds, holdrow, holdcell, _⟩ := row_of_slice (I := G.I) hs0 (fun _ => rfl) e4 e6 e7
          let w' := w.setCells b (off + es.length * it.size) news
          let G' : Gh := ⟨fun b' x => G.I b' x ∨ (b' = b ∧ ∃ o, x = some o ∧ off + es.length * it.size ≤ o ∧ o < off + (es.length + xs.length) * it.size), fun b' => if b' = b then some (.slot d none) else G.ω b', G.bl⟩
          have hsame : Same G.I w w' := by
            refine ⟨fun b' o' h => ?_, fun b' h => ?_⟩
            · refine World.cell?_setCells_out b news _ w _ (fun hb' _ => .inl ?_)
              dsimp only at hb' ⊢
              subst hb'
              rcases Nat.lt_or_ge o' (off + es.length * it.size) with h' | h'
              · exact h'
              · exact absurd h (hIt o' h')
            · refine heap_setCells_ne b _ _ _ _ (fun e => ?_)
              subst e; exact hIn h
          have hext : Ext (fun tg => tg = .slot u none ∨ tg = .slot d none) G G' w w' := by
            refine ⟨fun _ _ h => .inl h, hsame, Bl.le_refl _, fun _ _ _ _ => rfl, fun b' tg h hX => ?_⟩
            have hbb : b' ≠ b := by
              intro e; subst e
              rw [hω] at h; cases h
              exact hX (.inl rfl)
            refine ⟨by simp [G', hbb, h], heap_setCells_ne b _ _ _ _ hbb, fun x hx => ?_⟩
            rcases hx with hx | ⟨e, _⟩
            · exact hx
            · exact absurd e hbb
          have hnK := (hi.base.own b _ hω).2
          have hbase : Base cx G' w' := by
            have hb0 := hi.base
            refine ⟨fun b' hK => ?_, hb0.same.trans hsame hb0.sub, fun b' x h => .inl (hb0.sub b' x h), fun b' x h => ?_, fun b' x h => ?_, fun b' tg h => ?_, hb0.Klt, by rw [size_setCells]; exact hb0.grow, hb0.bl, ?_, by rw [tape_setCells]; exact hb0.tape, ?_⟩
            · rw [heap_setCells_ne b _ _ _ _ (fun e => hnK (e ▸ hK))]; exact hb0.keep b' hK
            · rcases h with h | ⟨rfl, _⟩
              · exact hb0.new b' x h
              · exact .inr hnK
            · rw [size_setCells]
              rcases h with h | ⟨rfl, _⟩
              · exact hb0.lt b' x h
              · exact (hb0.own _ _ hω).1
            · rw [size_setCells]
              simp only [G'] at h
              split at h
              · rename_i e; subst e; exact hb0.own _ _ hω
              · exact hb0.own _ _ h
            · rw [World.os_setCells]; exact hb0.os
            · rw [World.output_setCells]; exact hb0.output
          have hrow2 : RowOk G'.I w' it.size (olds ++ news) (es ++ xs) := (holdrow.append hrow).mono hext.I hext.same
          have hlen2 : (olds ++ news).length = (es.length + xs.length) * it.size := by rw [List.length_append, holdrow.1, hrow.1, Nat.add_mul]
          obtain ⟨cur', hcur1, hcur2⟩ := heap_setCells_same b elem (0, 0) news (off + es.length * it.size) w cs hheap
          refine .inl ⟨_, w', hfin hr, G', ?_⟩
          rw [hod]
          refine hi.put2 hdv huv hext hbase rfl rfl rfl (.one (.inl (rep_of_row (by simp) (by simpa using hfit) hrow2 (fun k hk => ?_) (fun k v hk => ?_)))) (fun _ => ?_)
            (by rw [hat _ hne]; exact (hsrep.mono hext.I hext.same hext.bl).disown) (fun _ _ => OwnOk_disown _)
          · rw [hlen2] at hk
            by_cases hko : k < es.length * it.size
            · refine .inl ?_
              have hi' : k / it.size < es.length := (Nat.div_lt_iff_lt_mul hs0).2 hko
              have hj' : k % it.size < it.size := Nat.mod_lt _ hs0
              have he' := List.getElem?_eq_getElem hi'
              have hcl : k % it.size < (es[k / it.size]).cells.length := by rw [e4 _ _ he']; exact hj'
              have := e5 _ _ _ _ he' (List.getElem?_eq_getElem hcl)
              dsimp only at this
              rw [show off + k / it.size * it.size + k % it.size = off + k from by have := Nat.div_add_mod k it.size; rw [Nat.mul_comm] at this; omega] at this
              exact this
            · exact .inr ⟨rfl, _, rfl, by omega, by omega⟩
          · have hkl := (List.getElem?_eq_some_iff.1 hk).1
            by_cases hko : k < olds.length
            · rw [List.getElem?_append_left hko] at hk
              have h0 := holdcell k v hk
              rw [add_none] at h0
              have : w'.cell? ⟨b, off + k, none⟩ = w.cell? ⟨b, off + k, none⟩ := World.cell?_setCells_out b news _ w _ (fun _ _ => .inl (by dsimp only; rw [holdrow.1] at hko; omega))
              rw [this]; exact h0
            · rw [List.getElem?_append_right (by omega), holdrow.1] at hk
              have hkn : k - es.length * it.size < news.length := (List.getElem?_eq_some_iff.1 hk).1
              have h0 := World.cell?_setCells_in b news (off + es.length * it.size) w hin _ hkn
              rw [holdrow.1] at hko
              rw [show off + es.length * it.size + (k - es.length * it.size) = off + k from by omega] at h0
              rw [h0, ← List.getElem?_eq_getElem hkn]; exact hk
          · refine ⟨b, off, cap, cur', elem, by rw [List.length_append], by simp [G'], ?_, ?_, hcur2, by omega, hs0, by rw [List.length_append]; exact hfit⟩
            · rintro (h | ⟨_, o', h, _⟩)
              · exact hIn h
              · cases h
            · intro o' ho' h
              rw [List.length_append, Nat.add_mul] at ho'
              rcases h with h | ⟨_, o'', h, h1, h2⟩
              · exact hIt o' (by omega) h
              · cases h
                rw [Nat.add_mul] at h2
                omega
        · obtain ⟨olds, holdrow, holdcell, _⟩ := row_of_slice (I := G.I) hs0 (fun _ => rfl) e4 e6 e7
          exact grow _ cap olds ev (by omega) holdrow (run_firstCells_some w.drew it.size _ _ _ _ olds holdrow.1 holdcell)
    | nils =>
      simp only [appS] at hes
      cases hes
      exact grow none 0 [] hsrep.nils_inv (by simpa using hxlen) (RowOk.nil ..) (run_firstCells_none w.drew it.size 0 0 0)
    | _ => simp [appS] at hes
end
end Go.Abs

namespace Go.Abs
open Go.RowKit
section
variable {P : Program} {pur : FuncId → Bool} {call : Caller} {fi : FI} {cx : Cx} {G : Gh} {a : Act} {w : World} {A A' : Frm} {σ σ' : Sto}
theorem SlotOk_box {t : Nat} {v : PV} (hk : cx.kd t = .box) : SlotOk cx G a w t v ↔ ∃ b, at' a t = .pointer (some ⟨b, 0, none⟩) ∧ CellsOk G w b (.slot t) v.cells := by
  unfold SlotOk; rw [hk]
theorem putAll_none (A : Frm) : ∀ (ts : List Nat) (t : Nat) (p : PV), Frm.get (putAll A ts (ts.map fun _ => none)) t = some p → t ∉ ts ∧ A.get t = some p := by
  intro ts
  induction ts generalizing A with
  | nil => intro t p h; exact ⟨by simp, h⟩
  | cons s ts ih =>
    intro t p h
    simp only [List.map_cons, putAll] at h
    obtain ⟨h1, h2⟩ := ih (A.set s none) t p h
    rw [get_set] at h2
    split at h2
    · cases h2
    · rename_i hc
      refine ⟨?_, h2⟩
      intro hm
      rcases List.mem_cons.1 hm with rfl | hm
      · by_cases hl : t < A.length
        · exact hc ⟨rfl, hl⟩
        · unfold Frm.get at h2
          rw [List.getElem?_eq_none (by omega)] at h2
          cases h2
      · exact h1 hm
theorem putAll_len (A : Frm) : ∀ (ts : List Nat) (vs : List (Option PV)), (putAll A ts vs).length = A.length
  | [], vs => by cases vs <;> rfl
  | t :: ts, [] => rfl
  | t :: ts, v :: vs => by rw [putAll, putAll_len (A.set t v) ts vs]; simp
theorem alias_ptrs {t d : Nat} (h : fi.alias t = some d) : t ∈ fi.ptrs d := by
  unfold FI.alias at h
  obtain ⟨x, hx, rfl⟩ := Option.map_eq_some_iff.1 h
  have h1 := List.find?_some hx
  have h2 := List.mem_of_find?_eq_some hx
  simp only [beq_iff_eq] at h1
  subst h1
  exact List.mem_map.2 ⟨x, List.mem_filter.2 ⟨h2, by simp⟩, rfl⟩
theorem own_disown_cells {p q : PV} {j : Nat} (h : p.disown.cells[j]? = some q) : ∀ (G : Gh) (w : World) (tag : Tag) (c : Value), OwnOk G w tag c q := by
  intro G w tag c
  cases p with
  | agg cs =>
    simp only [PV.disown, PV.cells, List.getElem?_map] at h
    obtain ⟨r, _, rfl⟩ := Option.map_eq_some_iff.1 h
    exact OwnOk_own0 r
  | aggr cs =>
    simp only [PV.disown, PV.cells, List.getElem?_map] at h
    obtain ⟨r, _, rfl⟩ := Option.map_eq_some_iff.1 h
    exact OwnOk_own0 r
  | slice own sz es =>
    cases j with
    | zero => simp [PV.disown, PV.cells] at h; subst h; trivial
    | succ j => simp [PV.disown, PV.cells] at h
  | _ =>
    cases j with
    | zero => simp [PV.disown, PV.cells] at h; subst h; trivial
    | succ j => simp [PV.disown, PV.cells] at h
theorem rep_free {I : Imm} {v : Value} {p : PV} (h : Rep I w v p) : p.free = true := by cases h <;> rfl
theorem RepT.free {I : Imm} {bl : Bl} {v : Value} {p : PV} (h : RepT I bl w v p) : p.free = true := by
  cases h with
  | one h =>
    rcases h with h | h
    · exact rep_free h
    · cases h <;> rfl
  | func _ _ _ _ => rfl
  | tuple _ _ => rfl
  | aggr _ _ => rfl
def RepTL (I : Imm) (bl : Bl) (w : World) (cs : List Value) (ps : List PV) : Prop := cs.length = ps.length ∧ ∀ (i : Nat) (p : PV), ps[i]? = some p → ∃ c, cs[i]? = some c ∧ RepT I bl w c p
theorem RepTL.of_L {I : Imm} {bl : Bl} {cs : List Value} {ps : List PV} (h : RepL I w cs ps) : RepTL I bl w cs ps :=
  ⟨h.1, fun i p hp => by obtain ⟨c, h1, h2⟩ := h.2 i p hp; exact ⟨c, h1, .one (.inl h2)⟩⟩
theorem okc_free {p : PV} (h : p.okc = true) : p.free = true := by
  cases p <;> first | rfl | simp [PV.okc, PV.flat, PV.isRef, PV.isFn] at h
theorem cell_own0 (c : PV) : ((c.own0.flat || c.own0.isRef) && c.own0.one) = ((c.flat || c.isRef) && c.one) := by cases c <;> rfl
theorem cells_own0 : ∀ cs : List PV, (cs.map PV.own0).all (fun c => (c.flat || c.isRef) && c.one) = cs.all (fun c => (c.flat || c.isRef) && c.one)
  | [] => rfl
  | c :: cs => by rw [List.map_cons, List.all_cons, List.all_cons, cell_own0, cells_own0 cs]
theorem okc_disown (p : PV) : p.disown.okc = p.okc := by
  cases p with
  | aggr cs => exact cells_own0 cs
  | _ => rfl
theorem RepTL.of_aggr {I : Imm} {bl : Bl} {v : Value} {ps : List PV} (h : RepT I bl w v (.aggr ps)) : RepTL I bl w v.cells.toList ps := by
  obtain ⟨cs, rfl, h1, h2⟩ := h.aggr_inv
  refine ⟨by simpa [Value.cells] using h1, fun i p hp => ?_⟩
  have hlt : i < cs.size := by rw [h1]; exact (List.getElem?_eq_some_iff.1 hp).1
  have := h2 i p hp
  refine ⟨cs[i], by simp [Value.cells, hlt], ?_⟩
  rw [Array.getD_eq_getD_getElem?, Array.getElem?_eq_getElem hlt] at this
  exact .one this
theorem okc_cases {I : Imm} {bl : Bl} {v : Value} {p : PV} (h : RepT I bl w v p) (hk : p.okc = true) (hn : p.isAgg = false ∨ p.flat = true) : Rep I w v p ∨ (p.cells = [p] ∧ v.cells = #[v] ∧ p.disown = p) := by
  by_cases hf : p.flat = true
  · exact .inl (h.flat hf)
  · refine .inr ?_
    cases p with
    | ref id off => obtain ⟨b, _, rfl⟩ := h.ref_inv; exact ⟨rfl, rfl, rfl⟩
    | arr id gen off len size => obtain ⟨_, _, _, _, _, _, _, _, _, _, rfl⟩ := h.arr_inv; exact ⟨rfl, rfl, rfl⟩
    | aptr id gen size i off => obtain ⟨_, _, _, _, rfl⟩ := h.aptr_inv; exact ⟨rfl, rfl, rfl⟩
    | func f first cap => obtain ⟨_, _, rfl, _⟩ := h.func_inv; exact ⟨rfl, rfl, rfl⟩
    | aggr cs => rcases hn with h | h <;> cases h
    | _ => simp [PV.okc, PV.isRef, PV.isFn] at hk; exact absurd hk hf
theorem RepTL.of_okc {I : Imm} {bl : Bl} {v : Value} {p : PV} (h : RepT I bl w v p) (hk : p.okc = true) : RepTL I bl w v.cells.toList p.cells := by
  have hn : (∃ cs, p = .aggr cs) ∨ (p.isAgg = false ∨ p.flat = true) := by cases p <;> first | exact .inl ⟨_, rfl⟩ | exact .inr (.inl rfl) | exact .inr (.inr rfl)
  rcases hn with ⟨cs, rfl⟩ | hn
  · exact .of_aggr h
  rcases okc_cases h hk hn with h | ⟨h1, h2, _⟩
  · exact .of_L (RepL.of_rep h)
  · rw [h1, h2]
    refine ⟨rfl, fun i q hq => ?_⟩
    cases i with
    | zero => simp at hq; subst hq; exact ⟨v, rfl, h⟩
    | succ i => simp at hq
theorem Inv.newBox (hi : Inv cx G a w A σ) (hal : ∀ t, cx.al t = fi.alias t) {d : Nat} (hd : d < cx.nt) (hk : cx.kd d = .box) {cs : Array Value} {t : TypeId} {p : PV} (hrep : RepTL G.I G.bl w cs.toList p.cells)
    (hown : ∀ (j : Nat) (q : PV), p.cells[j]? = some q → ∀ (G : Gh) (w : World) (tag : Tag) (c : Value), OwnOk G w tag c q) :
    Sim cx (a.put (some d) (.pointer (some ⟨w.heap.size, 0, none⟩))) (w.alloc (.cells cs t)) (putAll (A.set d (some p)) (fi.ptrs d) ((fi.ptrs d).map fun _ => none)) σ := by
  let G' := G.newB w.heap.size (fun _ => False) (some (.slot d none))
  have hext := ext_newB (fun tg => ∃ j, tg = .slot d j) hi.base (.cells cs t) (fun _ => False) (some (.slot d none))
  refine ⟨G', hi.step _ (some d) _ hext (base_newB hi.base _ _ _) (by rw [putAll_len]; simp) ?_ (fun id cs hc => .inl ⟨hc, fun j h => by obtain ⟨_, h⟩ := h; cases h⟩) hi.len hi.abl⟩
  intro s q hq
  obtain ⟨hns, hq⟩ := putAll_none _ _ _ _ hq
  rw [get_set] at hq
  split at hq
  · rename_i hc
    cases hq
    rw [hc.1]
    refine .inr ((SlotOk_box hk).2 ⟨w.heap.size, at'_put _ _ _ (by rw [hi.size]; exact hd), if_pos rfl, ?_, cs, t, heap_alloc_new' _ _, by simpa using hrep.1, fun j r hr => .inl ⟨?_, hown j r hr ..⟩⟩)
    · rintro x (h | ⟨_, h⟩)
      · have := hi.base.lt _ _ h; omega
      · exact h
    · obtain ⟨c, hc1, hc2⟩ := hrep.2 j r hr
      rw [Array.getElem?_toList] at hc1
      rw [Array.getD_eq_getD_getElem?, hc1]
      exact hc2.mono hext.I hext.same hext.bl
  · rename_i hc
    have hsd : s ≠ d := fun e => hc ⟨e, by have := hi.room; omega⟩
    refine .inl ⟨hq, fun e => hsd (Option.some.inj e).symm, fun j h => ?_, fun d' off e hbx hdd => ?_, fun m hm => ?_⟩
    · obtain ⟨j', h⟩ := h; cases h; exact hsd rfl
    · have := Option.some.inj hdd
      subst this
      subst e
      have hsl := hi.slot s _ hq
      unfold SlotOk at hsl
      have hals : cx.al s = some d := by
        cases hks : cx.kd s with
        | box => 
          rw [hks] at hsl
          obtain ⟨b, _, h1, h2, cs', el, h3, h4, h5⟩ := hsl
          have := ((h5 0 (.lref d off) rfl).rep (by simp)).1
          exact absurd this.free (by simp [PV.free])
        | mapb keys => rw [hks] at hsl; exact absurd hsl.1 (by simp)
        | ent m key => rw [hks] at hsl; obtain ⟨_, _, _, _, h, _⟩ := hsl; cases h
        | plain => rw [hks] at hsl; exact hsl.2.1
        | imm => rw [hks] at hsl; exact hsl.2.1
        | obj => rw [hks] at hsl; exact hsl.2.1
      rw [hal] at hals
      exact hns (alias_ptrs hals)
    · obtain ⟨keys, hkm⟩ := cx.ents s m hm
      have : m ≠ d := fun e => by rw [e, hk] at hkm; cases hkm
      refine ⟨fun e => this (Option.some.inj e).symm, ?_⟩
      rintro ⟨j, h⟩; cases h; exact this rfl
end
end Go.Abs

namespace Go.Abs
open Go.RowKit
section
variable {P : Program} {pur : FuncId → Bool} {call : Caller} {fi : FI} {cx : Cx} {G : Gh} {a : Act} {w : World} {A A' : Frm} {σ σ' : Sto}
theorem runC {d : Nat} {k : PK} {as : List AArg} {clr : List Nat} (h : runA pur call { dst := some d, k := .p k, args := as, clr := clr } A σ = some (A', σ')) :
    ∃ vs rs, evalArgs A as = some vs ∧ semP k vs = some rs ∧ σ' = σ ∧ ∀ p, rs = [p] → A' = putAll (A.set d p) clr (clr.map fun _ => none) := by
  unfold runA at h
  dsimp only at h
  split at h
  · rename_i vs hvs
    simp only [sem] at h
    split at h
    · rename_i rs σ₁ hs
      obtain ⟨rs', hrs, e⟩ := Option.map_eq_some_iff.1 hs
      cases e
      refine ⟨vs, rs, hvs, hrs, ?_, ?_⟩
      · split at h
        · cases h; rfl
        · split at h <;> cases h; rfl
      · rintro p rfl
        simp [AOp.wr, putAll] at h
        rw [← h.1]
    · cases h
  · cases h
theorem sim_bxl (hi : Inv cx G a w A σ) (hkd : ∀ t, cx.kd t = fi.kind t) (hal : ∀ t, cx.al t = fi.alias t) {o : Oper} {t : TypeId} {x : Operand} (ho : o.op = .box t x) {d : Nat} (hod : o.dst = some d)
    (hd : d < cx.nt) (hk : cx.kd d = .box)
    {as : List AArg} (hc : compArgs fi [x] = some as) (hrun : runA pur call { dst := some d, k := .p .bxl, args := as, clr := fi.ptrs d } A σ = some (A', σ')) : Gives P cx o a w A' σ' := by
  obtain ⟨vs, rs, he, hs, rfl, hA⟩ := runC hrun
  obtain ⟨y, zs, rfl, hy, hz⟩ := compArgs_cons hc
  cases hz
  obtain ⟨p, qs, rfl, hp, hq⟩ := evalArgs_cons he
  cases hq
  simp only [semP] at hs
  split at hs
  · rename_i hf
    cases hs
    rw [hA _ rfl]
    have hrep := (arg_rep hi hkd hy hp (okc_free hf)).disown
    refine .inl ⟨.pointer (some ⟨w.heap.size, 0, none⟩), w.alloc (.cells (a.eval x).cells t), ?_, ?_⟩
    · simp only [execOp, ho, Instr.box, newVar, newRow]; rfl
    · rw [hod]
      exact hi.newBox hal hd hk (RepTL.of_okc hrep (by rw [okc_disown]; exact hf)) (fun j q hq => own_disown_cells hq)
  · cases hs
theorem own_ofVal {v : Value} {p : PV} (h : ofVal v = some p) : ∀ (j : Nat) (q : PV), p.cells[j]? = some q → ∀ (G : Gh) (w : World) (tag : Tag) (c : Value), OwnOk G w tag c q := by
  have h0 : ∀ {v : Value} {p : PV}, ofVal0 v = some p → ∀ sz es, p ≠ .slice true sz es := by
    intro v p h sz es
    unfold ofVal0 at h
    split at h <;> cases h <;> simp
  intro j q hq G w tag c
  refine own_none fun sz es e => ?_
  subst e
  unfold ofVal at h
  split at h
  · rename_i cs
    obtain ⟨ps, hps, rfl⟩ := Option.map_eq_some_iff.1 h
    have key : ∀ (vs : List Value) (ps : List PV), ofVals vs = some ps → ∀ (i : Nat) (q : PV), ps[i]? = some q → ∃ v, ofVal0 v = some q := by
      intro vs
      induction vs with
      | nil => intro ps h i q hq; cases h; simp at hq
      | cons v vs ih =>
        intro ps h i q hq
        unfold ofVals at h
        split at h
        · rename_i r rs h1 h2
          cases h
          cases i with
          | zero => simp at hq; subst hq; exact ⟨v, h1⟩
          | succ i => exact ih _ h2 i q (by simpa using hq)
        · cases h
    obtain ⟨v, hv⟩ := key _ _ hps j _ hq
    exact h0 hv _ _ rfl
  · have hp : p.cells = [p] := by
      cases p with
      | agg cs => unfold ofVal0 at h; split at h <;> cases h
      | aggr cs => unfold ofVal0 at h; split at h <;> cases h
      | _ => rfl
    rw [hp] at hq
    cases j with
    | zero => simp at hq; exact h0 h _ _ hq
    | succ j => simp at hq
theorem sim_zl (hi : Inv cx G a w A σ) (hal : ∀ t, cx.al t = fi.alias t) {o : Oper} {t : TypeId} (ho : o.op = .alloc t) {d : Nat} (hod : o.dst = some d)
    (hd : d < cx.nt) (hk : cx.kd d = .box) {z : PV} (hz : zeroP P t = some z)
    (hrun : runA pur call { dst := some d, k := .p (.zl z), args := [], clr := fi.ptrs d } A σ = some (A', σ')) : Gives P cx o a w A' σ' := by
  obtain ⟨vs, rs, he, hs, rfl, hA⟩ := runC hrun
  cases he
  simp only [semP] at hs
  cases hs
  rw [hA _ rfl]
  unfold zeroP at hz
  split at hz
  · rename_i it hit
    obtain ⟨zv, hzv, hzp⟩ := Option.bind_eq_some_iff.1 hz
    have hzr : Rep G.I w zv z := rep_ofVal hzp
    refine .inl ⟨.pointer (some ⟨w.heap.size, 0, none⟩), w.alloc (.cells zv.cells t), ?_, ?_⟩
    · have hzrun : (zeroValue t).run P w = .ok zv w := by simp [zeroValue, typeInfo, hit, hzv]
      simp only [execOp, ho, Instr.alloc, Sem.run_bind, hzrun, Result.andThen_ok, newVar, newRow]; rfl
    · rw [hod]
      exact hi.newBox hal hd hk (.of_L (RepL.of_rep hzr)) (own_ofVal hzp)
  · cases hz
end
end Go.Abs

namespace Go.Abs
open Go.RowKit
section
variable {P : Program} {pur : FuncId → Bool} {call : Caller} {fi : FI} {cx : Cx} {G : Gh} {a : Act} {w : World} {A A' : Frm} {σ σ' : Sto}
theorem fits_sub {c v : PV} {off n : Nat} {ag : Bool} (h : sub c off n ag = some v) : fits n ag v = true := by
  unfold sub at h
  cases ag with
  | true =>
    cases c with
    | agg cs =>
      dsimp only at h
      split at h
      · rename_i hc; cases h; simp [fits]; omega
      · cases h
    | _ => cases h
  | false =>
    dsimp only at h
    split at h
    · split at h
      · cases h
      · rename_i hag
        cases h
        simp only [Bool.or_eq_true, not_or] at hag
        cases v with
        | agg _ => exact absurd rfl hag.1
        | aggr _ => exact absurd rfl hag.1
        | _ => rfl
    · cases h
theorem sub_noself {c v : PV} {off n : Nat} {ag : Bool} (h : sub c off n ag = some v) : ∀ (j : Nat) (p : PV), v.cells[j]? = some p → p ≠ .self := by
  unfold sub at h
  cases ag with
  | true =>
    cases c with
    | agg cs =>
      dsimp only at h
      split at h
      · rename_i hc
        cases h
        intro j p hp e
        subst e
        have := List.mem_of_getElem? hp
        have hh := List.all_eq_true.1 hc.2 _ this
        cases hh
      · cases h
    | _ => cases h
  | false =>
    dsimp only at h
    split at h
    · split at h
      · cases h
      · rename_i hag
        cases h
        simp only [Bool.or_eq_true, not_or] at hag
        have hv : v.cells = [v] := by
          cases v with
          | agg _ => exact absurd rfl hag.1
          | aggr _ => exact absurd rfl hag.1
          | _ => rfl
        intro j p hp e
        subst e
        rw [hv] at hp
        cases j with
        | zero => simp at hp; subst hp; exact hag.2 rfl
        | succ j => simp at hp
    · cases h
theorem sub_flat {c v : PV} {off n : Nat} (h : sub c off n true = some v) : ∀ (j : Nat) (p : PV), v.cells[j]? = some p → p.flat = true := by
  unfold sub at h
  cases c with
  | agg cs =>
    dsimp only at h
    split at h
    · rename_i hc
      cases h
      intro j p hp
      exact List.all_eq_true.1 hc.2 _ (List.mem_of_getElem? hp)
    · cases h
  | _ => cases h
theorem slot_get {t : Nat} {p : PV} {ys : List AArg} {qs : List PV} (he : evalArgs A (.slot t :: ys) = some (p :: qs)) : A.get t = some p ∧ evalArgs A ys = some qs := by
  simp only [evalArgs] at he
  split at he
  · rename_i v vs hg hv
    cases he
    exact ⟨hg, hv⟩
  · cases he
theorem run_rowload {I : Imm} {bl : Bl} {b off base n : Nat} {ag : Bool} {t : TypeId} (hn : cellsT P t = some (n, ag)) {c v : PV} {cs : Array Value} {elem : TypeId} (hheap : w.heap[b]? = some (.cells cs elem (0, 0)))
    (hsz : base + c.cells.length ≤ cs.size) (hall : ∀ (j : Nat) (p : PV), c.cells[j]? = some p → p ≠ .self → RepT I bl w (cs.getD (base + j) undef) p) (hsub : sub c off n ag = some v) :
    ∃ u, (Instr.loadAt t (.pointer (some ⟨b, base + off, none⟩))).run P w = .ok u w ∧ RepT I bl w u v := by
  have hsc := sub_cells hsub
  obtain ⟨u, h1, h2, h3⟩ := run_loadVar (P := P) (w := w) (b := b) (off := base + off) (cv := fun j => cs.getD (base + (off + j)) undef) hn (fits_sub hsub) (fun j p hp => by
    have h := hsc j p hp
    have hlt : base + (off + j) < cs.size := by have := (List.getElem?_eq_some_iff.1 h).1; omega
    rw [Nat.add_assoc]
    simp [World.cell?, hheap, Array.getD, hlt])
  refine ⟨u, h1, ?_⟩
  cases ag with
  | true => exact .one (.inl (h2 I (fun j p hp => (hall _ p (hsc j p hp) (sub_noself hsub j p hp)).flat (sub_flat hsub j p hp))))
  | false =>
    obtain ⟨rfl, hv⟩ := h3 rfl
    have h0 : v.cells[0]? = some v := by rw [hv]; rfl
    exact hall _ v (hsc 0 v h0) (sub_noself hsub 0 v h0)
theorem run_boxload {b off n : Nat} {ag : Bool} {t : TypeId} (hn : cellsT P t = some (n, ag)) {tag : Option Nat → Tag} {c v : PV} (hcell : CellsOk G w b tag c.cells) (hsub : sub c off n ag = some v) :
    ∃ u, (Instr.loadAt t (.pointer (some ⟨b, off, none⟩))).run P w = .ok u w ∧ RepT G.I G.bl w u v := by
  obtain ⟨_, _, cs, elem, hheap, hsz, hall⟩ := hcell
  have := run_rowload (P := P) (I := G.I) (bl := G.bl) (base := 0) hn hheap (by omega) (fun j p hp hs => by rw [Nat.zero_add]; exact ((hall j p hp).rep hs).1) hsub
  rwa [Nat.zero_add] at this
theorem run_boxloadB {b off n : Nat} {ag : Bool} {t : TypeId} (hn : cellsT P t = some (n, ag)) {tag : Option Nat → Tag} {c v : PV} (hcell : CellsOk G w b tag c.cells) (hsub : subB c off n ag = some v) :
    ∃ u, (Instr.loadAt t (.pointer (some ⟨b, off, none⟩))).run P w = .ok u w ∧ RepT G.I G.bl w u v := by
  unfold subB at hsub
  split at hsub
  · rename_i x hx
    cases hsub
    exact run_boxload hn hcell hx
  · cases ag with
    | false => cases hsub
    | true =>
      cases c with
      | agg cs =>
        dsimp only at hsub
        split at hsub
        case isFalse => cases hsub
        rename_i hc
        cases hsub
        obtain ⟨_, _, vs, elem, hheap, hsz, hall⟩ := hcell
        simp only [PV.cells] at hsz hall
        have hlt : ∀ j, j < n → off + j < vs.size := fun j hj => by omega
        have h := run_loadCells (P := P) (w := w) ⟨b, off, none⟩ n (fun j => vs.getD (off + j) undef) (fun j hj => by
          rw [add_none]
          simp [World.cell?, hheap, Array.getD, hlt j hj])
        refine ⟨.agg ((List.range n).map fun j => vs.getD (off + j) undef).toArray, by simp [Instr.loadAt, Instr.sureAddr, loadVar, run_isAgg hn, run_sizeOf hn, h], .aggr (by simp; omega) fun i p hp => ?_⟩
        have hp' := hp
        rw [List.getElem?_take] at hp
        split at hp
        case isFalse => cases hp
        rename_i hin
        rw [List.getElem?_drop] at hp
        have e : (((List.range n).map fun j => vs.getD (off + j) undef).toArray).getD i undef = vs.getD (off + i) undef := by simp [Array.getD, hin]
        rw [e]
        have hf := List.all_eq_true.1 hc.2 p (List.mem_of_getElem? hp')
        simp only [Bool.and_eq_true] at hf
        exact ((hall _ p hp).rep (by rintro rfl; cases hf.1)).1.rep1 hf.1
      | _ => cases hsub
theorem sim_ldl (hi : Inv cx G a w A σ) (hkd : ∀ t, cx.kd t = fi.kind t) (hnt : cx.nt = fi.nt) {o : Oper} {t : TypeId} {d : Nat} (ho : o.op = .load t (.tmp d)) (hk : cx.kd d = .box) {n : Nat} {ag : Bool} (hn : cellsT P t = some (n, ag))
    (hd : plainDst fi o.dst = true) (hrun : runA pur call { dst := o.dst, k := .p (.ldl 0 n ag), args := [.slot d] } A σ = some (A', σ')) : Gives P cx o a w A' σ' := by
  refine gives0 hi hkd hnt hd hrun fun vs rs he hs => ?_
  match vs, hs with
  | [c], hs =>
    obtain ⟨hg, _⟩ := slot_get he
    obtain ⟨b, hb, hcell⟩ := (SlotOk_box hk).1 (hi.slot d c hg)
    simp only [semP] at hs
    obtain ⟨v, hv, e⟩ := Option.map_eq_some_iff.1 hs
    cases e
    obtain ⟨u, h1, h2⟩ := run_boxloadB (P := P) hn hcell hv
    have hev : a.eval (.tmp d) = .pointer (some ⟨b, 0, none⟩) := hb
    exact ⟨_, u, rfl, by rw [free_disown]; exact h2.free, by simp [execOp, ho, hev, h1], h2.disown, fun _ => OwnOk_disown _⟩
  | [], hs => simp [semP] at hs
  | _ :: _ :: _, hs => simp [semP] at hs
theorem lref_al (hi : Inv cx G a w A σ) {s d off : Nat} (hg : A.get s = some (.lref d off)) : cx.kd d = .box ∧ cx.al s = some d ∧ ∃ b, at' a d = .pointer (some ⟨b, 0, none⟩) ∧ at' a s = .pointer (some ⟨b, off, none⟩) := by
  have h := hi.slot s _ hg
  unfold SlotOk at h
  cases hk : cx.kd s with
  | box =>
    rw [hk] at h
    obtain ⟨b, _, h1, h2, cs', el, h3, h4, h5⟩ := h
    have := ((h5 0 (.lref d off) rfl).rep (by simp)).1
    exact absurd this.free (by simp [PV.free])
  | mapb keys => rw [hk] at h; exact absurd h.1 (by simp)
  | ent m key => rw [hk] at h; obtain ⟨_, _, _, _, h, _⟩ := h; cases h
  | plain | imm | obj =>
    rw [hk] at h
    obtain ⟨h1, hal, b, h2, h3⟩ := h
    refine ⟨h1, hal, b, h2, ?_⟩
    rw [h3, add_none, Nat.zero_add]
theorem lref_inv (hi : Inv cx G a w A σ) {s d off : Nat} (hg : A.get s = some (.lref d off)) : cx.kd d = .box ∧ ∃ b, at' a d = .pointer (some ⟨b, 0, none⟩) ∧ at' a s = .pointer (some ⟨b, off, none⟩) :=
  ⟨(lref_al hi hg).1, (lref_al hi hg).2.2⟩
theorem sim_ldf (hi : Inv cx G a w A σ) (hkd : ∀ t, cx.kd t = fi.kind t) (hnt : cx.nt = fi.nt) {o : Oper} {t : TypeId} {s d : Nat} (ho : o.op = .load t (.tmp s)) {n : Nat} {ag : Bool} (hn : cellsT P t = some (n, ag))
    (hd : plainDst fi o.dst = true) (hrun : runA pur call { dst := o.dst, k := .p (.ldf d n ag), args := [.slot s, .slot d] } A σ = some (A', σ')) : Gives P cx o a w A' σ' := by
  refine gives0 hi hkd hnt hd hrun fun vs rs he hs => ?_
  match vs, hs with
  | [l, c], hm =>
    obtain ⟨hgs, he2⟩ := slot_get he
    obtain ⟨hg, _⟩ := slot_get he2
    cases l with
    | lref d' off =>
      simp only [semP] at hm
      split at hm
      · rename_i e
        subst e
        obtain ⟨v, hv, e⟩ := Option.map_eq_some_iff.1 hm
        cases e
        obtain ⟨hk, b, hb, hs'⟩ := lref_inv hi hgs
        obtain ⟨b', hb', hcell⟩ := (SlotOk_box hk).1 (hi.slot d' c hg)
        rw [hb] at hb'
        cases hb'
        obtain ⟨u, h1, h2⟩ := run_boxload (P := P) hn hcell hv
        have hev : a.eval (.tmp s) = .pointer (some ⟨b, off, none⟩) := hs'
        exact ⟨_, u, rfl, by rw [free_disown]; exact h2.free, by simp [execOp, ho, hev, h1], h2.disown, fun _ => OwnOk_disown _⟩
      · cases hm
    | _ => simp [semP] at hm
  | [], hs => simp [semP] at hs
  | [_], hs => simp [semP] at hs
  | _ :: _ :: _ :: _, hs => simp [semP] at hs
end
end Go.Abs

namespace Go.Abs
open Go.RowKit
section
variable {P : Program} {pur : FuncId → Bool} {call : Caller} {fi : FI} {cx : Cx} {G : Gh} {a : Act} {w : World} {A A' : Frm} {σ σ' : Sto}
theorem Inv.putRef (hi : Inv cx G a w A σ) {u d off b : Nat} (hu : u < cx.nt ∧ (cx.kd u).val = true) (hk : cx.kd d = .box) (hal : cx.al u = some d) (hb : at' a d = .pointer (some ⟨b, 0, none⟩)) :
    Inv cx G (a.put (some u) (.pointer (some ⟨b, off, none⟩))) w (A.set u (some (.lref d off))) σ := by
  have hud : u ≠ d := fun e => by rw [e, hk] at hu; simp [SK.val] at hu
  refine hi.step (fun _ => False) (some u) _ (Ext.refl _ _ _) hi.base (by simp) ?_ (fun _ cs hc => .inl ⟨hc, fun _ h => h⟩) hi.len hi.abl
  intro t q hq
  rw [get_set] at hq
  split at hq
  · rename_i hc
    cases hq
    rw [hc.1]
    refine .inr ?_
    have h1 : at' (a.put (some u) (.pointer (some ⟨b, off, none⟩))) u = .pointer (some ⟨b, off, none⟩) := at'_put _ _ _ (by rw [hi.size]; exact hu.1)
    have h2 : at' (a.put (some u) (.pointer (some ⟨b, off, none⟩))) d = .pointer (some ⟨b, 0, none⟩) := by rw [at'_put_ne _ _ _ _ (fun e => hud (Option.some.inj e))]; exact hb
    unfold SlotOk
    cases hku : cx.kd u <;> rw [hku] at hu <;> first | (simp [SK.val] at hu; done) | exact ⟨hk, hal, b, h2, by rw [h1, add_none, Nat.zero_add]⟩
  · rename_i hc
    have hne : u ≠ t := fun e => hc ⟨e.symm, by have := hi.room; omega⟩
    refine .inl ⟨hq, fun e => hne (Option.some.inj e), fun _ h => h, fun d' off' e hbx hd' => ?_, fun m hm => ⟨fun e' => ?_, fun h => h⟩⟩
    · have := Option.some.inj hd'
      subst this
      rw [hbx] at hu; simp [SK.val] at hu
    · have := Option.some.inj e'
      subst this
      obtain ⟨keys, hkm⟩ := cx.ents t u hm
      rw [hkm] at hu; simp [SK.val] at hu
theorem sim_fal (hi : Inv cx G a w A σ) (hkd : ∀ t, cx.kd t = fi.kind t) (hnt : cx.nt = fi.nt) (hal : ∀ t, cx.al t = fi.alias t) {o : Oper} {t : TypeId} {d f u : Nat} (ho : o.op = .fieldAddr t (.tmp d) f) (hou : o.dst = some u)
    {fs : Array Field} {fl : Field} (hs' : P.underlying t = some (.struct fs)) (hf : fs[f]? = some fl) {n : Nat} {ag : Bool} (hn : cellsT P fl.type = some (n, ag)) (hn0 : n ≠ 0)
    (hk : cx.kd d = .box) (hau : fi.alias u = some d) (hd : isPlain fi u = true) (hrun : runA pur call { dst := some u, k := .p (.fal d fl.offset), args := [.slot d] } A σ = some (A', σ')) : Gives P cx o a w A' σ' := by
  obtain ⟨vs, rs, he, hs, rfl, hA⟩ := run1 hrun
  match vs, hs with
  | [c], hm =>
    obtain ⟨hg, _⟩ := slot_get he
    obtain ⟨b, hb, hcell⟩ := (SlotOk_box hk).1 (hi.slot d c hg)
    simp only [semP] at hm
    rw [hA _ (Option.some.inj hm).symm]
    have hev : a.eval (.tmp d) = .pointer (some ⟨b, 0, none⟩) := hb
    refine .inl ⟨.pointer (some ⟨b, fl.offset, none⟩), w, ?_, G, ?_⟩
    · have := run_fieldAt (P := P) (w := w) hs' hf hn hn0 b 0
      rw [Nat.zero_add] at this
      simp [execOp, ho, hev, this]
    · rw [hou]; exact hi.putRef (plain1 hkd hnt hd) hk (by rw [hal]; exact hau) hb
  | [], hm => simp [semP] at hm
  | _ :: _ :: _, hm => simp [semP] at hm
theorem sim_fal2 (hi : Inv cx G a w A σ) (hkd : ∀ t, cx.kd t = fi.kind t) (hnt : cx.nt = fi.nt) (hal : ∀ t, cx.al t = fi.alias t) {o : Oper} {t : TypeId} {s d f u : Nat} (ho : o.op = .fieldAddr t (.tmp s) f) (hou : o.dst = some u)
    {fs : Array Field} {fl : Field} (hs' : P.underlying t = some (.struct fs)) (hf : fs[f]? = some fl) {n : Nat} {ag : Bool} (hn : cellsT P fl.type = some (n, ag)) (hn0 : n ≠ 0)
    (has : fi.alias s = some d) (hau : fi.alias u = some d) (hd : isPlain fi u = true) {off : Nat} {d' : Nat} (hgs : A.get s = some (.lref d' off))
    (hrun : runA pur call { dst := some u, k := .p (.fa fl.offset n ag), args := [.slot s] } A σ = some (A', σ')) : Gives P cx o a w A' σ' := by
  obtain ⟨vs, rs, he, hs, rfl, hA⟩ := run1 hrun
  have hvs : vs = [.lref d' off] := by
    simp only [evalArgs, hgs] at he
    cases he; rfl
  subst hvs
  simp only [semP, faV] at hs
  rw [hA _ (Option.some.inj hs).symm]
  have hdd : d' = d := by
    have := (lref_al hi hgs).2.1
    rw [hal, has] at this
    exact (Option.some.inj this).symm
  subst hdd
  obtain ⟨hk, b, hb, hss⟩ := lref_inv hi hgs
  have hev : a.eval (.tmp s) = .pointer (some ⟨b, off, none⟩) := hss
  refine .inl ⟨.pointer (some ⟨b, off + fl.offset, none⟩), w, ?_, G, ?_⟩
  · have := run_fieldAt (P := P) (w := w) hs' hf hn hn0 b off
    simp [execOp, ho, hev, this]
  · rw [hou]; exact hi.putRef (plain1 hkd hnt hd) hk (by rw [hal]; exact hau) hb
end
end Go.Abs
