/- A part of the proof: A13 A14 A15 A16. -/
import Derived.Test.YtakhbjefcjmelaaGreatDoorKc
import Derived.Laws.CopyRow
import Derived.Laws.Append
import Derived.Deep.AppendSrc

set_option linter.unusedVariables false
set_option linter.unusedSimpArgs false
namespace Go.Abs
open Go.RowKit
def Gh.newB (G : Gh) (n : Nat) (J : Option Nat → Prop) (tag : Option Tag) : Gh :=
  ⟨fun b x => G.I b x ∨ (b = n ∧ J x), fun b => if b = n then tag else G.ω b, G.bl⟩
section
variable {P : Program} {pur : FuncId → Bool} {call : Caller} {fi : FI} {cx : Cx} {G : Gh} {a : Act} {w : World} {A A' : Frm} {σ σ' : Sto}
theorem heap_alloc_old' (w : World) (o : Obj) (i : Nat) (h : i < w.heap.size) : (w.alloc o).heap[i]? = w.heap[i]? := by
  show (w.heap.push o)[i]? = _
  rw [Array.getElem?_push, if_neg (by omega)]
theorem heap_alloc_new' (w : World) (o : Obj) : (w.alloc o).heap[w.heap.size]? = some o := by
  show (w.heap.push o)[w.heap.size]? = _
  simp
theorem cell_of_heap {w w' : World} {b o : Nat} (h : w'.heap[b]? = w.heap[b]?) : w'.cell? ⟨b, o, none⟩ = w.cell? ⟨b, o, none⟩ := by
  simp only [World.cell?, h]
theorem cell_new (w : World) (cs : Array Value) (t : TypeId) (fz : Nat × Nat) (j : Nat) : (w.alloc (.cells cs t fz)).cell? ⟨w.heap.size, j, none⟩ = cs[j]? := by
  simp only [World.cell?, heap_alloc_new']; rfl
theorem ext_newB (X : Tag → Prop) (hb : Base cx G w) (o : Obj) (J : Option Nat → Prop) (tag : Option Tag) : Ext X G (G.newB w.heap.size J tag) w (w.alloc o) := by
  refine ⟨fun b x h => .inl h, ⟨fun b x h => cell_of_heap (heap_alloc_old' _ _ _ (hb.lt _ _ h)), fun b h => heap_alloc_old' _ _ _ (hb.lt _ _ h)⟩, Bl.le_refl _, fun _ _ _ _ => rfl, fun b tg h _ => ?_⟩
  have hlt := (hb.own b tg h).1
  have hne : b ≠ w.heap.size := by omega
  refine ⟨by simp [Gh.newB, hne, h], heap_alloc_old' _ _ _ hlt, fun x hx => ?_⟩
  rcases hx with hx | ⟨rfl, _⟩
  · exact hx
  · exact absurd rfl hne
theorem base_newB (hb : Base cx G w) (o : Obj) (J : Option Nat → Prop) (tag : Option Tag) : Base cx (G.newB w.heap.size J tag) (w.alloc o) := by
  have hsz : (w.alloc o).heap.size = w.heap.size + 1 := by show (w.heap.push o).size = _; simp
  refine ⟨fun b h => ?_, ?_, fun b x h => .inl (hb.sub b x h), fun b x h => ?_, fun b x h => ?_, fun b tg h => ?_, hb.Klt, by rw [hsz]; have := hb.grow; omega, hb.bl, hb.os, hb.tape, hb.output⟩
  · have := hb.Klt b h; have := hb.grow
    rw [heap_alloc_old' _ _ _ (by omega)]; exact hb.keep b h
  · refine hb.same.trans (I' := G.I) ⟨fun b x h => cell_of_heap (heap_alloc_old' _ _ _ (hb.lt _ _ h)), fun b h => heap_alloc_old' _ _ _ (hb.lt _ _ h)⟩ hb.sub
  · rcases h with h | ⟨rfl, _⟩
    · exact hb.new b x h
    · refine .inr fun hk => ?_
      have := hb.Klt _ hk; have := hb.grow; omega
  · rw [hsz]
    rcases h with h | ⟨rfl, _⟩
    · have := hb.lt b x h; omega
    · omega
  · rw [hsz]
    simp only [Gh.newB] at h
    split at h
    · rename_i hbn
      subst hbn
      refine ⟨by omega, fun hk => ?_⟩
      have := hb.Klt _ hk; have := hb.grow; omega
    · have := hb.own b tg h; exact ⟨by omega, this.2⟩
theorem ext_drew (X : Tag → Prop) : Ext X G G w w.drew := ⟨fun _ _ h => h, ⟨fun _ _ _ => rfl, fun _ _ => rfl⟩, Bl.le_refl _, fun _ _ _ _ => rfl, fun _ _ h _ => ⟨h, rfl, fun _ h => h⟩⟩
theorem base_drew (hb : Base cx G w) : Base cx G w.drew := ⟨hb.keep, ⟨hb.same.cell, hb.same.blk⟩, hb.sub, hb.new, hb.lt, hb.own, hb.Klt, hb.grow, hb.bl, hb.os, hb.tape, hb.output⟩
theorem Ext.trans {X : Tag → Prop} {G1 G2 G3 : Gh} {w1 w2 w3 : World} (h : Ext X G1 G2 w1 w2) (k : Ext X G2 G3 w2 w3) : Ext X G1 G3 w1 w3 := by
  refine ⟨fun b x h' => k.I _ _ (h.I _ _ h'), h.same.trans k.same h.I, h.bl.trans k.bl, fun id hid hX g => (k.ab id (Nat.lt_of_lt_of_le hid h.bl.1.length_le) hX g).trans (h.ab id hid hX g), fun b tg ht hX => ?_⟩
  obtain ⟨a1, a2, a3⟩ := h.fix b tg ht hX
  obtain ⟨b1, b2, b3⟩ := k.fix b tg a1 hX
  exact ⟨b1, b2.trans a2, fun x hx => a3 x (b3 x hx)⟩
theorem givesW (hi : Inv cx G a w A σ) {o : Oper} {k : PK} {as : List AArg} (hdst : ∀ d, o.dst = some d → d < cx.nt ∧ (cx.kd d).val = true)
    (hrun : runA pur call { dst := o.dst, k := .p k, args := as } A σ = some (A', σ'))
    (hsem : ∀ vs rs, evalArgs A as = some vs → semP k vs = some rs → ∃ p v G' w', rs = [some p] ∧ p.free = true ∧ (execOp a.eval o).run P w = .ok (.value v) w' ∧
      Ext (fun _ => False) G G' w w' ∧ Base cx G' w' ∧ G'.bl = G.bl ∧ RepT G'.I G'.bl w' v p ∧ ∀ d, o.dst = some d → OwnOk G' w' (.slot d none) v p) : Gives P cx o a w A' σ' := by
  obtain ⟨vs, rs, h1, h2, rfl, h3⟩ := run1 hrun
  obtain ⟨p, v, G', w', rfl, hf, hr, he, hb, hbl, hrep, how⟩ := hsem vs rs h1 h2
  rw [h3 p rfl]
  exact .inl ⟨v, w', hr, G', hi.put1 he hb hbl o.dst hdst hf hrep how⟩
theorem sim_bx (hi : Inv cx G a w A σ) (hkd : ∀ t, cx.kd t = fi.kind t) {o : Oper} {t : TypeId} {x : Operand} (ho : o.op = .box t x)
    (hdst : ∀ d, o.dst = some d → d < cx.nt ∧ (cx.kd d).val = true)
    {as : List AArg} (hc : compArgs fi [x] = some as) (hrun : runA pur call { dst := o.dst, k := .p .bx, args := as } A σ = some (A', σ')) : Gives P cx o a w A' σ' := by
  refine givesW hi hdst hrun fun vs rs he hs => ?_
  obtain ⟨y, zs, rfl, hy, hz⟩ := compArgs_cons hc
  cases hz
  obtain ⟨p, qs, rfl, hp, hq⟩ := evalArgs_cons he
  cases hq
  simp only [semP] at hs
  split at hs
  · rename_i hf
    cases hs
    have hrep := ((arg_rep hi hkd hy hp (free_of_flat hf)).flat hf).disown
    obtain ⟨hsz, hcell⟩ := rep_cells hrep
    let J : Option Nat → Prop := fun x => ∃ o, x = some o
    refine ⟨_, .pointer (some ⟨w.heap.size, 0, none⟩), G.newB w.heap.size J none, w.alloc (.cells (a.eval x).cells t), rfl, rfl, ?_, ext_newB _ hi.base _ _ _, base_newB hi.base _ _ _, rfl, ?_, fun _ _ => trivial⟩
    · simp only [execOp, ho, Instr.box, newVar, newRow]; rfl
    · have hext := ext_newB (fun _ => False) hi.base (.cells (a.eval x).cells t) J none
      refine .one (.inl (.vptr (fun j => (a.eval x).cells.getD j undef) (fun j q hq => .inr ⟨rfl, ⟨_, rfl⟩⟩) (fun j q hq => ?_) (fun j q hq => (hcell j q hq).mono hext.I hext.same)))
      rw [Nat.zero_add, cell_new]
      have hlt : j < (a.eval x).cells.size := by have := (List.getElem?_eq_some_iff.1 hq).1; omega
      simp [Array.getD, hlt]
  · cases hs
theorem run_markStringish (w : World) (cs : Array Value) (t : TypeId) : ∃ fz, (markStringish ⟨w.heap.size, 0, none⟩).run P (w.alloc (.cells cs t)) = .ok () (w.alloc (.cells cs t fz)) := by
  refine ⟨(cs.size, cs.size + 1), ?_⟩
  have hshape : (w.alloc (.cells cs t)).shape? w.heap.size = some (t, cs.size) := by
    simp only [World.shape?, heap_alloc_new']
  simp only [markStringish, Sem.run_bind, run_shape, hshape, Result.andThen_ok, run_freeze]
  congr 1
  simp only [World.freeze, World.alloc]
  rw [if_neg (by omega)]
  congr 1
  apply Array.ext_getElem?
  intro i
  rw [Array.getElem?_modify, Array.getElem?_push, Array.getElem?_push]
  by_cases h : w.heap.size = i
  · subst h; simp
  · have : ¬ i = w.heap.size := fun e => h e.symm
    simp [h, this]
theorem sim_cvb (hi : Inv cx G a w A σ) (hkd : ∀ t, cx.kd t = fi.kind t) (hnt : cx.nt = fi.nt) {o : Oper} {s t e : TypeId} {x : Operand} (ho : o.op = .convert s t x)
    (hs' : P.underlying s = some .string) (ht : P.underlying t = some (.slice e)) (he' : P.underlying e = some (.int .u8))
    {as : List AArg} (hc : compArgs fi [x] = some as) (hd : plainDst fi o.dst = true) (hrun : runA pur call { dst := o.dst, k := .p .cvb, args := as } A σ = some (A', σ')) : Gives P cx o a w A' σ' := by
  refine givesW hi (plain_ok hkd hnt hd) hrun fun vs rs he hs => ?_
  obtain ⟨y, zs, rfl, hy, hz⟩ := compArgs_cons hc
  cases hz
  obtain ⟨p, qs, rfl, hp, hq⟩ := evalArgs_cons he
  cases hq
  cases p with
  | str l =>
    obtain ⟨b, ev, rfl⟩ := (arg_rep hi hkd hy hp rfl).str_inv
    simp only [semP] at hs
    cases hs
    let cap := Question.cut (.appendCap b.size 0 e) (w.tape w.drawn (.appendCap b.size 0 e))
    let cs : Array Value := (b.data.map fun c => Value.int .u8 c.toNat) ++ Array.replicate (cap - b.size) (.int .u8 0)
    obtain ⟨fz, hm⟩ := run_markStringish (P := P) w.drew cs e
    let J : Option Nat → Prop := fun x => ∃ o, x = some o
    have hext := (ext_drew (G := G) (w := w) (fun _ => False)).trans (ext_newB (fun _ => False) (base_drew hi.base) (.cells cs e fz) J none)
    have hsize : b.size = b.data.size := rfl
    refine ⟨_, .slice (some ⟨w.heap.size, 0, none⟩) b.size cap, G.newB w.heap.size J none, w.drew.alloc (.cells cs e fz), rfl, rfl, ?_, hext, base_newB (base_drew hi.base) _ _ _, rfl, ?_, fun _ _ => trivial⟩
    · simp only [execOp, ho, convert, underlying, Sem.run_bind, run_program, hs', ht, Result.andThen_ok, Sem.run_pure, ev, he', Conv.stringToBytes, run_choose, Question.forced, newRow, run_newObj]
      have : (markStringish ⟨w.heap.size, 0, none⟩).run P (w.drew.alloc (.cells cs e)) = .ok () (w.drew.alloc (.cells cs e fz)) := hm
      simp only [Bool.false_eq_true, if_false]
      show (Result.andThen (Result.andThen ((markStringish ⟨w.heap.size, 0, none⟩).run P (w.drew.alloc (.cells cs e))) _) _) = _
      rw [this]
      rfl
    · refine .one (.inl (.slice (fun i _ => cs.getD i undef) (by rw [List.length_map]; exact Lib.size_eq b) ?_ (fun _ => rfl) ?_ ?_ ?_ ?_))
      · show b.size ≤ cap
        simp only [cap, Question.cut]; omega
      · intro i el hel
        rw [List.getElem?_map] at hel
        obtain ⟨c, _, rfl⟩ := Option.map_eq_some_iff.1 hel
        rfl
      · intro i el j q hel hq; exact .inr ⟨rfl, ⟨_, rfl⟩⟩
      all_goals (
        intro i el j q hel hq
        rw [List.getElem?_map] at hel
        obtain ⟨c, hc', rfl⟩ := Option.map_eq_some_iff.1 hel
        have hlt : i < b.data.size := by have := (List.getElem?_eq_some_iff.1 hc').1; simpa using this
        have hj : j = 0 := by
          cases j with
          | zero => rfl
          | succ j => simp [PV.cells] at hq
        subst hj
        simp [PV.cells] at hq
        subst hq
        have hcs : cs[i]? = some (Value.int .u8 c.toNat) := by
          simp only [cs]
          rw [Array.getElem?_append_left (by simpa using hlt), Array.getElem?_map]
          rw [Array.getElem?_toList] at hc'
          rw [hc']; rfl)
      · have := cell_new w.drew cs e fz i
        rw [show (0 + i * 1 + 0) = i from by omega]
        rw [show cs.getD i undef = Value.int .u8 c.toNat from by rw [Array.getD_eq_getD_getElem?, hcs]; rfl, ← hcs]
        exact this
      · rw [show cs.getD i undef = Value.int .u8 c.toNat from by rw [Array.getD_eq_getD_getElem?, hcs]; rfl]
        exact .int _ _
  | _ => simp [semP] at hs
end
end Go.Abs

namespace Go.Abs
open Go.RowKit
section
variable {P : Program} {pur : FuncId → Bool} {call : Caller} {fi : FI} {cx : Cx} {G : Gh} {a : Act} {w : World} {A A' : Frm} {σ σ' : Sto}
def flatV (vs : List Value) : List Value := vs.flatMap fun v => v.cells.toList
theorem flat_get {size : Nat} : ∀ (vs : List Value) (i j : Nat) (v : Value), (∀ v ∈ vs, v.cells.size = size) → vs[i]? = some v → j < size → (flatV vs)[i * size + j]? = v.cells[j]?
  | [], i, j, v, _, h, _ => by simp at h
  | u :: vs, i, j, v, hall, h, hj => by
    have hu := hall u (List.mem_cons_self ..)
    simp only [flatV, List.flatMap_cons]
    cases i with
    | zero =>
      simp at h; subst h
      rw [Nat.zero_mul, Nat.zero_add, List.getElem?_append_left (by simp; omega), Array.getElem?_toList]
    | succ i =>
      rw [List.getElem?_append_right (by simp [hu]; rw [Nat.succ_mul]; omega)]
      have := flat_get vs i j v (fun v hv => hall v (List.mem_cons_of_mem _ hv)) (by simpa using h) hj
      rw [← this]
      congr 1
      simp [hu, Nat.succ_mul]; omega
theorem flat_len {size : Nat} : ∀ (vs : List Value), (∀ v ∈ vs, v.cells.size = size) → (flatV vs).length = vs.length * size
  | [], _ => by simp [flatV]
  | u :: vs, h => by
    have := flat_len vs (fun v hv => h v (List.mem_cons_of_mem _ hv))
    simp only [flatV, List.flatMap_cons, List.length_append, List.length_cons] at this ⊢
    rw [this]
    simp [h u (List.mem_cons_self ..), Nat.succ_mul]; omega
theorem fill_slice {size : Nat} (f : Operand → Value) : ∀ (parts : List (Nat × Operand)) (k : Nat) (pre rest : List Value) (cells : Array Value), inOrder k parts = true → pre.length = k * size →
    cells.toList = pre ++ rest → rest.length = parts.length * size → (∀ x ∈ parts, (f x.2).cells.size = size) →
    ∃ cells', Instr.fill (fun i => some (i * size, size)) cells (parts.map fun x => (x.1, f x.2)) = some cells' ∧ cells'.toList = pre ++ flatV (parts.map fun x => f x.2)
  | [], k, pre, rest, cells, _, _, hc, hl, _ => by
    have : rest = [] := List.length_eq_zero_iff.1 (by simpa using hl)
    exact ⟨cells, rfl, by rw [hc, this]; simp [flatV]⟩
  | (i, x) :: parts, k, pre, rest, cells, ho, hp, hc, hl, hall => by
    simp only [inOrder, Bool.and_eq_true, beq_iff_eq] at ho
    obtain ⟨rfl, ho⟩ := ho
    have hx := hall (i, x) (List.mem_cons_self ..)
    dsimp only at hx
    have hsz : cells.size = i * size + (parts.length + 1) * size := by
      have := congrArg List.length hc
      simp only [Array.length_toList, List.length_append, hp, hl, List.length_cons] at this
      exact this
    rw [Nat.succ_mul] at hsz
    have hrl : rest.length = parts.length * size + size := by simpa [Nat.succ_mul] using hl
    have hnew : ((f x).cells.zipIdx.foldl (fun (cs : Array Value) (x : Value × Nat) => cs.setIfInBounds (i * size + x.2) x.1) cells).toList = (pre ++ (f x).cells.toList) ++ rest.drop size := by
      rw [fold_cells _ _ _ (by rw [hx]; omega), hc, hx]
      have e1 : (pre ++ rest).take (i * size) = pre := by rw [← hp]; simp
      have e2 : (pre ++ rest).drop (i * size + size) = rest.drop size := by
        rw [← hp, List.drop_append, List.drop_eq_nil_of_le (by omega)]; simp
      simp only [e1, e2]
    obtain ⟨cells', h1, h2⟩ := fill_slice f parts (i + 1) (pre ++ (f x).cells.toList) (rest.drop size) _ ho (by simp [hp, hx, Nat.succ_mul]) hnew (by rw [List.length_drop]; omega) (fun y hy => hall y (List.mem_cons_of_mem _ hy))
    refine ⟨cells', ?_, by rw [h2]; simp [flatV]⟩
    simp only [List.map_cons, Instr.fill]
    rw [if_neg (by simp only [hx, Bool.or_eq_true, decide_eq_true_eq, ne_eq, not_true_eq_false, decide_false, Bool.false_eq_true, false_or]; omega)]
    exact h1
theorem sim_bsl (hi : Inv cx G a w A σ) (hkd : ∀ t, cx.kd t = fi.kind t) (hnt : cx.nt = fi.nt) {o : Oper} {t e : TypeId} {n : Nat} {ps : Array (Nat × Operand)} (ho : o.op = .buildSlice t n ps)
    (ht : P.underlying t = some (.slice e)) {size : Nat} {ag : Bool} (hsz : cellsT P e = some (size, ag)) (hord : inOrder 0 ps.toList = true) (hn : ps.size = n) (hn' : n ≤ 1000) (hs0 : 0 < size) (hs1 : size ≤ 100)
    (hz : (P.info? e).any (·.zero.isSome) = true)
    {as : List AArg} (hc : compArgs fi (ps.toList.map (·.2)) = some as) (hd : plainDst fi o.dst = true) (hrun : runA pur call { dst := o.dst, k := .p (.bsl size), args := as } A σ = some (A', σ')) : Gives P cx o a w A' σ' := by
  refine givesW hi (plain_ok hkd hnt hd) hrun fun vs rs he hs => ?_
  simp only [semP] at hs
  split at hs
  case isFalse => cases hs
  rename_i hall
  cases hs
  rw [List.all_eq_true] at hall
  have hall' : ∀ p ∈ vs, p.cells.length = size ∧ p.flat = true := fun p hp => by
    have := hall p hp; simp only [Bool.and_eq_true, beq_iff_eq] at this; exact this
  obtain ⟨hl, hrep⟩ := args_rep hi hkd hc he (fun p hp => free_of_flat (hall' p hp).2)
  have hl' : ps.size = vs.length := by simpa using hl
  have hpart : ∀ (i : Nat) (x : Nat × Operand) (p : PV), ps.toList[i]? = some x → vs[i]? = some p → Rep G.I w (a.eval x.2) p.disown := fun i x p hx hp =>
    ((hrep i x.2 p (by rw [List.getElem?_map, hx]; rfl) hp).flat (hall' p (List.mem_of_getElem? hp)).2).disown
  have hsize : ∀ x ∈ ps.toList, (a.eval x.2).cells.size = size := by
    intro x hx
    obtain ⟨i, hix⟩ := List.mem_iff_getElem?.1 hx
    have hlt : i < vs.length := by have := (List.getElem?_eq_some_iff.1 hix).1; simp at this; omega
    have hp := List.getElem?_eq_getElem hlt
    have := (rep_cells (hpart i x _ hix hp)).1
    rw [this, cells_disown]
    exact (hall' _ (List.getElem_mem hlt)).1
  obtain ⟨it, hit, hzs⟩ : ∃ it, P.info? e = some it ∧ it.zero.isSome = true := by
    cases h : P.info? e with
    | none => rw [h] at hz; simp at hz
    | some it => rw [h] at hz; exact ⟨it, rfl, by simpa using hz⟩
  obtain ⟨zv, hzv⟩ := Option.isSome_iff_exists.1 hzs
  let zero : Array Value := if n * size = 0 then #[] else zv.cells
  let cells0 : Array Value := (Array.range (n * size)).map (zero[· % zero.size]!)
  obtain ⟨cells, hfill, hcells⟩ := fill_slice a.eval ps.toList 0 [] cells0.toList cells0 hord (by simp) (by simp) (by simp [cells0, hn]) hsize
  simp only [List.nil_append] at hcells
  let J : Option Nat → Prop := fun x => ∃ o, x = some o ∧ o < n * size
  let tag : Option Tag := o.dst.map fun d => .slot d none
  have hext := ext_newB (fun _ => False) hi.base (.cells cells e) J tag
  have hlenc : cells.size = n * size := by
    have := congrArg List.length hcells
    rw [flat_len _ (by intro v hv; obtain ⟨x, hx, rfl⟩ := List.mem_map.1 hv; exact hsize x hx)] at this
    simpa [hn] using this
  refine ⟨_, .slice (some ⟨w.heap.size, 0, none⟩) n n, G.newB w.heap.size J tag, w.alloc (.cells cells e), rfl, rfl, ?_, hext, base_newB hi.base _ _ _, rfl, ?_, ?_⟩
  · have h24 : ¬ (n * size > 2 ^ 24) := by
      have : n * size ≤ 1000 * 100 := Nat.mul_le_mul hn' hs1
      omega
    have hf' : Instr.fill (fun i => some (i * size, size)) cells0 (ps.map fun x => (x.1, a.eval x.2)).toList = some cells := by
      rw [Array.toList_map]; exact hfill
    simp only [cells0] at hf'
    have hzr : (zeroValue e).run P w = .ok zv w := by simp [zeroValue, typeInfo, hit, hzv]
    by_cases h0 : n * size = 0
    · have hz0 : zero = #[] := by simp [zero, h0]
      rw [hz0] at hf'
      simp only [execOp, ho, Instr.buildSlice, Sem.run_bind, underlying, run_program, ht, Result.andThen_ok, Sem.run_pure, run_sizeOf hsz, if_neg h24, if_pos h0, newRow, run_newObj]
      rw [hf']
      rfl
    · have hz0 : zero = zv.cells := by simp only [zero, if_neg h0]
      rw [hz0] at hf'
      simp only [execOp, ho, Instr.buildSlice, Sem.run_bind, underlying, run_program, ht, Result.andThen_ok, Sem.run_pure, run_sizeOf hsz, if_neg h24, if_neg h0, hzr, newRow, run_newObj]
      rw [hf']
      rfl
  · have hlen : n = (vs.map PV.disown).length := by simp; omega
    have key : ∀ (i : Nat) (el : PV) (j : Nat) (q : PV), (vs.map PV.disown)[i]? = some el → el.cells[j]? = some q → ∃ v, Rep G.I w v el ∧ j < size ∧ i < n ∧ v.cells.size = size ∧ cells[i * size + j]? = v.cells[j]? := by
      intro i el j q hel hq
      rw [List.getElem?_map] at hel
      obtain ⟨p, hp, rfl⟩ := Option.map_eq_some_iff.1 hel
      have hlt : i < ps.size := by have := (List.getElem?_eq_some_iff.1 hp).1; omega
      have hx : ps.toList[i]? = some ps[i] := by rw [Array.getElem?_toList]; exact Array.getElem?_eq_getElem hlt
      have hr := hpart i _ p hx hp
      have hjl : j < size := by
        have := (List.getElem?_eq_some_iff.1 hq).1
        rw [cells_disown, (hall' p (List.mem_of_getElem? hp)).1] at this; exact this
      refine ⟨_, hr, hjl, by omega, hsize _ (List.mem_of_getElem? hx), ?_⟩
      rw [← Array.getElem?_toList, hcells]
      exact flat_get _ i j _ (by intro v hv; obtain ⟨x, hx, rfl⟩ := List.mem_map.1 hv; exact hsize x hx) (by rw [List.getElem?_map, hx]; rfl) hjl
    refine .one (.inl (.slice (fun i j => cells.getD (i * size + j) undef) hlen (Nat.le_refl _) (fun _ => rfl) ?_ ?_ ?_ ?_))
    · intro i el hel
      rw [List.getElem?_map] at hel
      obtain ⟨p, hp, rfl⟩ := Option.map_eq_some_iff.1 hel
      rw [cells_disown]; exact (hall' p (List.mem_of_getElem? hp)).1
    · intro i el j q hel hq
      obtain ⟨v, _, hj, hin, _, _⟩ := key i el j q hel hq
      refine .inr ⟨rfl, _, rfl, ?_⟩
      have : (i + 1) * size ≤ n * size := Nat.mul_le_mul_right _ (by omega)
      rw [Nat.succ_mul] at this
      show 0 + i * size + j < n * size
      omega
    · intro i el j q hel hq
      obtain ⟨v, hr, hj, hin, hvs, hce⟩ := key i el j q hel hq
      show (w.alloc (.cells cells e)).cell? ⟨w.heap.size, 0 + i * size + j, none⟩ = _
      rw [Nat.zero_add, cell_new, hce, Array.getD_eq_getD_getElem?, hce]
      rw [Array.getElem?_eq_getElem (by omega)]; rfl
    · intro i el j q hel hq
      obtain ⟨v, hr, hj, hin, hvs, hce⟩ := key i el j q hel hq
      rw [Array.getD_eq_getD_getElem?, hce]
      have := (rep_cells hr).2 j q hq
      rw [Array.getD_eq_getD_getElem?] at this
      exact this.mono hext.I hext.same
  · intro d hd'
    have hlen : n = (vs.map PV.disown).length := by simp; omega
    show TailOk _ _ _ _ _ _
    refine ⟨w.heap.size, 0, n, cells, e, by rw [← hlen], by simp [Gh.newB, tag, hd'], ?_, ?_, heap_alloc_new' _ _, by rw [hlenc]; omega, hs0, by omega⟩
    · rintro (h | ⟨_, o, h, _⟩)
      · have := hi.base.lt _ _ h; omega
      · cases h
    · intro o' ho' h
      rcases h with h | ⟨_, o'', h, hlt⟩
      · have := hi.base.lt _ _ h; omega
      · cases h
        rw [← hlen] at ho'
        omega
end
end Go.Abs

namespace Go.Abs
open Go.RowKit
def Gh.retag (G : Gh) (b : Nat) (tag : Tag) : Gh := ⟨G.I, fun b' => if b' = b then some tag else G.ω b', G.bl⟩
section
variable {P : Program} {pur : FuncId → Bool} {call : Caller} {fi : FI} {cx : Cx} {G : Gh} {a : Act} {w : World} {A A' : Frm} {σ σ' : Sto}
theorem base_retag (hb : Base cx G w) {b : Nat} {t0 tag : Tag} (h : G.ω b = some t0) : Base cx (G.retag b tag) w := by
  refine ⟨hb.keep, hb.same, hb.sub, hb.new, hb.lt, fun b' tg h' => ?_, hb.Klt, hb.grow, hb.bl, hb.os, hb.tape, hb.output⟩
  simp only [Gh.retag] at h'
  split at h'
  · rename_i e; subst e; exact hb.own _ _ h
  · exact hb.own _ _ h'
theorem ext_retag {X : Tag → Prop} {b : Nat} {t0 tag : Tag} (h : G.ω b = some t0) (hX : X t0) : Ext X G (G.retag b tag) w w := by
  refine ⟨fun _ _ h => h, Same.refl _ _, Bl.le_refl _, fun _ _ _ _ => rfl, fun b' tg h' hn => ⟨?_, rfl, fun _ h => h⟩⟩
  have : b' ≠ b := by
    intro e; subst e
    rw [h] at h'; cases h'
    exact hn hX
  simp [Gh.retag, this, h']
theorem run2 {d s : Nat} {k : PK} {as : List AArg} (h : runA pur call { dst := some d, k := .p k, args := as, ex := [s] } A σ = some (A', σ')) :
    ∃ vs rs, evalArgs A as = some vs ∧ semP k vs = some rs ∧ σ' = σ ∧ ∀ p q, rs = [p, q] → A' = (A.set d p).set s q := by
  unfold runA at h
  dsimp only at h
  split at h
  · rename_i vs hvs
    simp only [sem] at h
    split at h
    · rename_i rs σ₁ hs
      obtain ⟨rs', hrs, e⟩ := Option.map_eq_some_iff.1 hs
      cases e
      refine ⟨vs, rs, hvs, hrs, ?_, ?_⟩
      · split at h
        · cases h; rfl
        · split at h <;> cases h; rfl
      · rintro p q rfl
        simp [AOp.wr, putAll] at h
        rw [← h.1]
    · cases h
  · cases h
theorem Inv.put2 {G' : Gh} {w' : World} (hi : Inv cx G a w A σ) {d s : Nat} (hd : d < cx.nt ∧ (cx.kd d).val = true) (hs : s < cx.nt ∧ (cx.kd s).val = true)
    (he : Ext (fun tg => tg = .slot s none ∨ tg = .slot d none) G G' w w') (hb : Base cx G' w') (hbl : G'.bl = G.bl) {v : Value} {p q : PV} (hfp : p.free = true) (hfq : q.free = true)
    (hp : RepT G'.I G'.bl w' v p) (ho : d ≠ s → OwnOk G' w' (.slot d none) v p) (hq : RepT G'.I G'.bl w' (at' (a.put (some d) v) s) q) (hoq : ∀ tag c, OwnOk G' w' tag c q) :
    Inv cx G' (a.put (some d) v) w' ((A.set d (some p)).set s (some q)) σ := by
  have hval : ∀ m, (cx.kd m).val = false → m ≠ d ∧ m ≠ s := fun m hm => by
    refine ⟨fun e => ?_, fun e => ?_⟩
    · rw [e, hd.2] at hm; cases hm
    · rw [e, hs.2] at hm; cases hm
  refine hi.step _ (some d) v he hb (by simp) ?_ ?_ (by rw [hbl]; exact hi.len) (by rw [hbl]; exact hi.abl)
  · intro t r hr
    rw [get_set] at hr
    split at hr
    · rename_i hc
      cases hr
      rw [hc.1, SlotOk_val hs.2 hfq]
      exact .inr ⟨hq, hoq _ _⟩
    · rename_i hc1
      have hts : t ≠ s := fun e => hc1 ⟨e, by simp; have := hi.room; omega⟩
      rw [get_set] at hr
      split at hr
      · rename_i hc
        cases hr
        rw [hc.1, SlotOk_val hd.2 hfp, at'_put _ _ _ (by rw [hi.size]; exact hd.1)]
        exact .inr ⟨hp, ho (by rw [← hc.1]; exact hts)⟩
      · rename_i hc2
        have htd : t ≠ d := fun e => hc2 ⟨e, by have := hi.room; omega⟩
        refine .inl ⟨hr, fun e => htd (Option.some.inj e).symm, fun j h => ?_, fun d' off e hbx => ?_, fun m hm => ?_⟩
        · rcases h with h | h <;> cases h
          · exact hts rfl
          · exact htd rfl
        · have := hval d' (by rw [hbx]; rfl)
          exact fun e' => this.1 (Option.some.inj e').symm
        · obtain ⟨keys, hk⟩ := cx.ents t m hm
          have := hval m (by rw [hk]; rfl)
          refine ⟨fun e' => this.1 (Option.some.inj e').symm, ?_⟩
          rintro (h | h) <;> cases h
          · exact this.2 rfl
          · exact this.1 rfl
  · intro id cs hc
    exact .inl ⟨hc, fun j h => by rcases h with h | h <;> cases h⟩
theorem plain1 (hkd : ∀ t, cx.kd t = fi.kind t) (hnt : cx.nt = fi.nt) {t : Nat} (h : isPlain fi t = true) : t < cx.nt ∧ (cx.kd t).val = true :=
  plain_ok hkd hnt (d := some t) h t rfl
theorem slot_val (hi : Inv cx G a w A σ) {t : Nat} (hk : (cx.kd t).val = true) {p : PV} (he : evalArgs A [.slot t] = some [p]) (hf : p.free = true) :
    RepT G.I G.bl w (at' a t) p ∧ OwnOk G w (.slot t none) (at' a t) p := by
  simp only [evalArgs] at he
  split at he
  · rename_i v vs hg hv
    cases hv; cases he
    exact (SlotOk_val hk hf).1 (hi.slot t _ hg)
  · cases he
theorem own_move (hb : Base cx G w) {s d : Nat} {v : Value} {p : PV} (ho : OwnOk G w (.slot s none) v p) :
    ∃ G', G'.I = G.I ∧ G'.bl = G.bl ∧ Ext (fun tg => tg = .slot s none ∨ tg = .slot d none) G G' w w ∧ Base cx G' w ∧ OwnOk G' w (.slot d none) v p := by
  by_cases h : ∃ sz es, p = .slice true sz es
  · obtain ⟨sz, es, rfl⟩ := h
    obtain ⟨b, off, cap, cs, elem, rfl, h1, h2, h3, h4, h5, h6, h7⟩ := ho
    refine ⟨G.retag b (.slot d none), rfl, rfl, ext_retag h1 (.inl rfl), base_retag hb h1, ?_⟩
    exact ⟨b, off, cap, cs, elem, rfl, by simp [Gh.retag], h2, h3, h4, h5, h6, h7⟩
  · exact ⟨G, rfl, rfl, Ext.refl _ _ _, hb, own_none (fun sz es e => h ⟨sz, es, e⟩)⟩
theorem sim_mvo (hi : Inv cx G a w A σ) (hkd : ∀ t, cx.kd t = fi.kind t) (hnt : cx.nt = fi.nt) {o : Oper} {s d : Nat} (ho : o.op = .move (.tmp s) ∨ o.op = .assign (.tmp s)) (hod : o.dst = some d)
    {as : List AArg} (hc : compArgs fi [.tmp s] = some as) (hd : isPlain fi d = true) (hs : isPlain fi s = true)
    (hrun : runA pur call { dst := some d, k := .p .mvo, args := as, ex := [s] } A σ = some (A', σ')) : Gives P cx o a w A' σ' := by
  obtain ⟨vs, rs, he, hsem, rfl, hA⟩ := run2 hrun
  obtain ⟨y, zs, rfl, hy, hz⟩ := compArgs_cons hc
  cases hz
  obtain ⟨p, qs, rfl, hp, hq⟩ := evalArgs_cons he
  cases hq
  simp only [semP] at hsem
  split at hsem
  · rename_i hf
    cases hsem
    rw [hA _ _ rfl]
    have hsv := plain1 hkd hnt hs
    have hdv := plain1 hkd hnt hd
    have hyy : y = .slot s := by
      simp only [compArg] at hy
      split at hy <;> first | (split at hy <;> first | (cases hy; rfl) | cases hy) | cases hy
    subst hyy
    obtain ⟨hrep, how⟩ := slot_val hi hsv.2 hp hf
    obtain ⟨G', e1, e2, hext, hbase, how'⟩ := own_move (d := d) hi.base how
    have hat : at' (a.put (some d) (at' a s)) s = at' a s := by
      by_cases h : d = s
      · subst h; exact at'_put _ _ _ (by rw [hi.size]; exact hdv.1)
      · exact at'_put_ne _ _ _ _ (fun e => h (Option.some.inj e))
    refine .inl ⟨at' a s, w, ?_, G', ?_⟩
    · rcases ho with ho | ho <;> simp only [execOp, ho] <;> rfl
    · rw [hod]
      exact hi.put2 hdv hsv hext hbase e2 hf (by rw [free_disown]; exact hf) (by rw [e1, e2]; exact hrep) (fun _ => how') (by rw [hat, e1, e2]; exact hrep.disown) (fun _ _ => OwnOk_disown p)
  · cases hsem
end
end Go.Abs

namespace Go.Abs
open Go.RowKit
section
variable {P : Program} {pur : FuncId → Bool} {call : Caller} {fi : FI} {cx : Cx} {G : Gh} {a : Act} {w : World} {A A' : Frm} {σ σ' : Sto}
theorem one_rep {I : Imm} {c : Value} {p : PV} (h : Rep I w c p) (hp : p.one = true) : c.oneCell' = true := by
  cases h <;> first | rfl | simp [PV.one] at hp
def RowOk (I : Imm) (w : World) (size : Nat) (cs : List Value) (es : List PV) : Prop :=
  cs.length = es.length * size ∧ (∀ (i : Nat) (e : PV), es[i]? = some e → e.cells.length = size) ∧
  ∀ (i : Nat) (e : PV) (j : Nat) (p : PV), es[i]? = some e → e.cells[j]? = some p → ∃ c, cs[i * size + j]? = some c ∧ Rep I w c p
theorem RowOk.mono {I I' : Imm} {w w' : World} {size : Nat} {cs : List Value} {es : List PV} (h : RowOk I w size cs es) (hI : ∀ b x, I b x → I' b x) (hs : Same I w w') : RowOk I' w' size cs es :=
  ⟨h.1, h.2.1, fun i e j p he hp => let ⟨c, h1, h2⟩ := h.2.2 i e j p he hp; ⟨c, h1, h2.mono hI hs⟩⟩
theorem RowOk.nil (I : Imm) (w : World) (size : Nat) : RowOk I w size [] [] := ⟨by simp, fun i e h => by simp at h, fun i e j p h => by simp at h⟩
theorem RowOk.append {I : Imm} {size : Nat} {cs ds : List Value} {es fs : List PV} (h : RowOk I w size cs es) (k : RowOk I w size ds fs) : RowOk I w size (cs ++ ds) (es ++ fs) := by
  refine ⟨by simp [h.1, k.1, Nat.add_mul], fun i e he => ?_, fun i e j p he hp => ?_⟩
  · by_cases hi : i < es.length
    · rw [List.getElem?_append_left hi] at he; exact h.2.1 i e he
    · rw [List.getElem?_append_right (by omega)] at he; exact k.2.1 _ e he
  · by_cases hi : i < es.length
    · rw [List.getElem?_append_left hi] at he
      obtain ⟨c, h1, h2⟩ := h.2.2 i e j p he hp
      refine ⟨c, ?_, h2⟩
      rw [List.getElem?_append_left (List.getElem?_eq_some_iff.1 h1).1]; exact h1
    · rw [List.getElem?_append_right (by omega)] at he
      obtain ⟨c, h1, h2⟩ := k.2.2 _ e j p he hp
      refine ⟨c, ?_, h2⟩
      have hge : es.length * size ≤ i * size := Nat.mul_le_mul_right _ (by omega)
      rw [List.getElem?_append_right (by rw [h.1]; omega), h.1]
      rw [Nat.sub_mul] at h1
      rw [show i * size + j - es.length * size = i * size - es.length * size + j from by omega]
      exact h1
theorem row_of_slice {I : Imm} {ad : Addr} {size : Nat} {es : List PV} {cv : Nat → Nat → Value} (hs0 : 0 < size) (hspot : es ≠ [] → ad.spot = none)
    (hsz : ∀ (i : Nat) (e : PV), es[i]? = some e → e.cells.length = size)
    (hc : ∀ (i : Nat) (e : PV) (j : Nat) (p : PV), es[i]? = some e → e.cells[j]? = some p → w.cell? ⟨ad.block, ad.off + i * size + j, none⟩ = some (cv i j))
    (hr : ∀ (i : Nat) (e : PV) (j : Nat) (p : PV), es[i]? = some e → e.cells[j]? = some p → Rep I w (cv i j) p) :
    ∃ cs : List Value, RowOk I w size cs es ∧ (∀ (j : Nat) (v : Value), cs[j]? = some v → w.cell? (ad.add j) = some v) ∧ ∀ (i : Nat) (j : Nat), i < es.length → j < size → cs[i * size + j]? = some (cv i j) := by
  have hget : ∀ k, k < es.length * size → ((List.range (es.length * size)).map fun k => cv (k / size) (k % size))[k]? = some (cv (k / size) (k % size)) := by
    intro k hk
    rw [List.getElem?_map, List.getElem?_range hk]; rfl
  have hlt : ∀ i j, i < es.length → j < size → i * size + j < es.length * size := by
    intro i j hi hj
    have : (i + 1) * size ≤ es.length * size := Nat.mul_le_mul_right _ (by omega)
    rw [Nat.succ_mul] at this; omega
  have hdm : ∀ i j, j < size → (i * size + j) / size = i ∧ (i * size + j) % size = j := by
    intro i j hj
    constructor
    · rw [Nat.mul_comm, Nat.mul_add_div hs0, Nat.div_eq_of_lt hj]; omega
    · rw [Nat.mul_comm, Nat.mul_add_mod, Nat.mod_eq_of_lt hj]
  refine ⟨(List.range (es.length * size)).map fun k => cv (k / size) (k % size), ⟨by simp, hsz, fun i e j p he hp => ?_⟩, fun k v hk => ?_, fun i j hi hj => ?_⟩
  · have hi := (List.getElem?_eq_some_iff.1 he).1
    have hj : j < size := by have := (List.getElem?_eq_some_iff.1 hp).1; rw [hsz i e he] at this; exact this
    refine ⟨cv i j, ?_, hr i e j p he hp⟩
    rw [hget _ (hlt i j hi hj), (hdm i j hj).1, (hdm i j hj).2]
  · have hkl : k < es.length * size := by have := (List.getElem?_eq_some_iff.1 hk).1; simpa using this
    rw [hget k hkl] at hk
    cases hk
    have hi : k / size < es.length := (Nat.div_lt_iff_lt_mul hs0).2 hkl
    have hj : k % size < size := Nat.mod_lt _ hs0
    have hne : es ≠ [] := by intro h; subst h; simp at hi
    have he := List.getElem?_eq_getElem hi
    have hcl : k % size < (es[k / size]).cells.length := by rw [hsz _ _ he]; exact hj
    have hp := List.getElem?_eq_getElem hcl
    have := hc _ _ _ _ he hp
    have e1 : k / size * size + k % size = k := by rw [Nat.mul_comm]; exact Nat.div_add_mod k size
    rw [show ad.off + k / size * size + k % size = ad.off + k from by omega] at this
    have had : ad.add k = ⟨ad.block, ad.off + k, none⟩ := by
      have hsp := hspot hne
      cases ad; dsimp only at hsp; subst hsp; exact add_none ..
    rw [had]; exact this
  · rw [hget _ (hlt i j hi hj), (hdm i j hj).1, (hdm i j hj).2]
theorem src_of {size : Nat} (hs0 : 0 < size) {xT : TypeId} (hxT : (∃ e', P.underlying xT = some (.slice e')) ∨ P.underlying xT = some .string) {v : Value} {x : PV} {bl : Bl} (hr : RepT G.I bl w v x) {xs : List PV} (hx : appX size x = some xs)
    (hones : xs.all PV.ones = true) : ∃ news, Src P size xT v xs.length news w ∧ RowOk G.I w size news xs := by
  rw [List.all_eq_true] at hones
  cases x with
  | slice own sz es =>
    simp only [appX] at hx
    split at hx
    · rename_i hsz'
      subst hsz'
      cases hx
      obtain ⟨ad, len, cap, cv, rfl, rfl, e2, e3, e4, e5, e6, e7⟩ := hr.slice_inv
      obtain ⟨cs, hrow, hcell, hcv⟩ := row_of_slice (I := G.I) hs0 e3 e4 e6 e7
      refine ⟨cs, ⟨hxT, fun _ => rfl, run_firstCells_some w sz _ ad _ _ cs hrow.1 hcell, run_firstCells_some w.drew sz _ ad _ _ cs hrow.1 hcell, hrow.1, fun u hu => ?_⟩, hrow⟩
      obtain ⟨k, hk⟩ := List.mem_iff_getElem?.1 hu
      have hkl : k < xs.length * sz := by have := (List.getElem?_eq_some_iff.1 hk).1; rw [hrow.1] at this; exact this
      have hi : k / sz < xs.length := (Nat.div_lt_iff_lt_mul hs0).2 hkl
      have hj : k % sz < sz := Nat.mod_lt _ hs0
      have he := List.getElem?_eq_getElem hi
      have hcl : k % sz < (xs[k / sz]).cells.length := by rw [e4 _ _ he]; exact hj
      have hp := List.getElem?_eq_getElem hcl
      have hrep := e7 _ _ _ _ he hp
      have := hcv (k / sz) (k % sz) hi hj
      rw [show k / sz * sz + k % sz = k from by rw [Nat.mul_comm]; exact Nat.div_add_mod k sz, hk] at this
      cases this
      refine one_rep hrep ?_
      exact List.all_eq_true.1 (hones _ (List.getElem_mem hi)) _ (List.getElem_mem hcl)
    · cases hx
  | nils =>
    simp only [appX] at hx
    cases hx
    have := hr.nils_inv
    subst this
    refine ⟨[], ⟨hxT, fun _ => rfl, run_firstCells_none w size 0 0 0, run_firstCells_none w.drew size 0 0 0, by simp, fun _ h => by cases h⟩, RowOk.nil ..⟩
  | empt =>
    simp only [appX] at hx
    cases hx
    obtain ⟨ad, rfl⟩ := hr.empt_inv
    exact ⟨[], ⟨hxT, fun _ => rfl, run_firstCells_some w size 0 ad 0 0 [] (by simp) (fun j u h => by simp at h), run_firstCells_some w.drew size 0 ad 0 0 [] (by simp) (fun j u h => by simp at h), by simp, fun _ h => by cases h⟩, RowOk.nil ..⟩
  | str l =>
    simp only [appX] at hx
    split at hx
    · rename_i h1
      subst h1
      cases hx
      obtain ⟨s, rfl, rfl⟩ := hr.str_inv
      refine ⟨byteCells s, ⟨hxT, fun _ => by rw [List.length_map, ← Lib.size_eq]; rfl, by rw [List.length_map, ← Lib.size_eq]; exact firstCells_string s w, by rw [List.length_map, ← Lib.size_eq]; exact firstCells_string s w.drew,
        by rw [byteCells_length, Nat.mul_one, List.length_map]; exact Lib.size_eq s, fun u hu => by obtain ⟨_, _, rfl⟩ := List.mem_map.1 hu; rfl⟩, ?_⟩
      refine ⟨by rw [byteCells_length, Nat.mul_one, List.length_map]; exact Lib.size_eq s, fun i e he => ?_, fun i e j p he hp => ?_⟩
      · rw [List.getElem?_map] at he
        obtain ⟨b, _, rfl⟩ := Option.map_eq_some_iff.1 he
        rfl
      · rw [List.getElem?_map] at he
        obtain ⟨b, hb, rfl⟩ := Option.map_eq_some_iff.1 he
        cases j with
        | zero =>
          simp [PV.cells] at hp; subst hp
          exact ⟨.int .u8 b.toNat, by rw [byteCells, Nat.mul_one, Nat.add_zero, List.getElem?_map, hb]; rfl, .int _ _⟩
        | succ j => simp [PV.cells] at hp
    · cases hx
  | _ => simp [appX] at hx
end
end Go.Abs
