/- A part of the proof: PD P1 P2 P3 P4 P10. -/
import Derived.Test.YtakhbjefcjmelaaGreatDoorKl
import Derived.Lib.Bytealg
import Derived.Lib.ItoaMem
import Derived.Test.YtakhbjefcjmelaaGreatDoorProg
import Derived.KernelRfl
import Derived.WalkKit
import Derived.Lib.Builder
import Derived.Lib.UnsafeStr
import Derived.Lib.AppendStr
import Derived.Laws.Externs
import Derived.RegionTactic
import Derived.Lib.Hide
import Derived.Test.YtakhbjefcjmelaaGreatDoorSa
import Derived.Lib.AppendIntMem

set_option linter.unusedVariables false
set_option linter.unusedSimpArgs false
namespace Go.Abs.Z
def pWrite : Prim := fun _ xs σ => match xs with
  | [.ref id 0, .str s] => match σ[id]? with
    | some [.bld t e l] => if t = 93 ∧ e = 5 ∧ l.length + s.length ≤ 4294967296 then some (.tuple [.int .i64 s.length, .nili], σ.set id [.bld t e (l ++ s)]) else none
    | _ => none
  | _ => none
def pString : Prim := fun _ xs σ => match xs with
  | [.ref id 0] => match σ[id]? with
    | some [.bld t e l] => if t = 93 ∧ e = 5 then some (.str l, σ.set id [.dead]) else none
    | _ => none
  | _ => none
def pCount : Prim := fun _ xs σ => match xs with
  | [.str s, .str [c]] => some (.int .i64 (Lib.countByte s c), σ)
  | _ => none
def pIndexByte : Prim := fun _ xs σ => match xs with
  | [.str s, .int .u8 c] => if 0 ≤ c ∧ c < 256 then some (.int .i64 (Lib.indexByte s c.toNat.toUInt8), σ) else none
  | _ => none
def pItoa : Prim := fun _ xs σ => match xs with
  | [.int .i64 n] => if -9223372036854775808 ≤ n ∧ n ≤ 9223372036854775807 then some (.str (Lib.itoa n), σ) else none
  | _ => none
mutual

def nodeL : Nat → PV → Option (List PV)
  | 0, _ => none
  | n + 1, v => match v with
    | .agg [.int .i64 _, .str _, .int .i64 _, .int .i64 _, x] => match x with
      | .nils => some [v]
      | .slice _ 5 ks => (nodesL n ks).map fun l => v :: l
      | _ => none
    | _ => none
def nodesL : Nat → List PV → Option (List PV)
  | 0, _ => none
  | n + 1, vs => match vs with
    | [] => some []
    | v :: vs => match nodeL n v, nodesL n vs with
      | some l, some r => some (l ++ r)
      | _, _ => none
end
def backL : Nat → List PV → List (List PV)
  | _, [] => []
  | n, v :: vs => backL (n + 1) vs ++ [[.int .i64 (n : Int), v.disown]]
def isSl' : PV → Bool
  | .slice _ _ _ | .nils => true
  | _ => false
def editP : PV → Bool
  | .agg [p, .int .i64 _, .int .i64 _, q, .int .i64 _, .int .i64 _, .int .i64 _] => isSl' p && isSl' q
  | _ => false
def numbP : PV → Bool
  | .agg [p, .int .i64 _, .int .i64 _, q, .int .i64 _, .int .i64 _, .int .i64 _, .int .i64 _] => isSl' p && isSl' q
  | _ => false
def small (l : List PV) : Bool := decide (l.length ≤ 1000000000)
def itr (gf : FuncId) (caps : List PV) : Option (List (List PV)) :=
  if gf = 249 then match caps with
    | [.vptr v] => match nodeL 1000 v with
      | some l => if small l then some (l.map fun x => [x.disown]) else none
      | none => none
    | _ => none
  else if gf = 121 then match caps with
    | [.vptr (.slice _ 7 es)] => if es.all editP && small es then some (es.map fun x => [x.disown]) else none
    | _ => none
  else if gf = 127 then match caps with
    | [.vptr (.slice _ 8 es)] => if es.all numbP && small es then some (backL 0 es) else none
    | _ => none
  else none
end Go.Abs.Z

namespace Go.Abs.Z
open Go.Proofs Go.RowKit
theorem ext_below {G : Gh} {K : Nat → Prop} {w w' : World} {σ : Sto} (hpre : Pre K G w σ) (hb : Below w.heap.size w w') : Ext (fun _ => False) G G w w' :=
  ⟨fun _ _ h => h, ⟨fun b o h => cell_of_heap (hb.block b (hpre.lt b _ h)), fun b h => hb.block b (hpre.lt b _ h)⟩, Bl.le_refl _, fun id hid hX g => rfl, fun b tag h _ => ⟨h, hb.block b (hpre.own b tag h).1, fun _ h => h⟩⟩
theorem aft_below {G : Gh} {K : Nat → Prop} {w w' : World} {σ : Sto} (hpre : Pre K G w σ) (hb : Below w.heap.size w w') : Aft K G w σ G w' := by
  have he := ext_below hpre hb
  exact ⟨fun b h => hb.block b (hpre.Klt b h), he.same, fun _ _ h => h, fun _ _ h => .inl h, fun b x h => Nat.lt_of_lt_of_le (hpre.lt b x h) hb.size,
    fun b tag h => ⟨Nat.lt_of_lt_of_le (hpre.own b tag h).1 hb.size, (hpre.own b tag h).2⟩, hb.size, Bl.le_refl _, hb.os, hb.tape, hb.output, fun id cs h => (hpre.obj id cs h).ext he (fun _ h => h), hpre.len, hpre.abl⟩
theorem calls_wide {f : FuncId} {vs : Array Value} {w : World} {n : Nat} {R : Ending → World → Prop} (h : Calls Tryz.prog f vs w R) : CallsIn (FW none) n Tryz.prog f vs w R := callsIn_wide.2 h
theorem args2_of {I : Imm} {bl : Bl} {w : World} {vs : Array Value} {p q : PV} (h : ArgsOk I bl w vs.toList [p, q]) : ∃ v u, vs = #[v, u] ∧ RepT I bl w v p ∧ RepT I bl w u q := by
  obtain ⟨v, h1, h2⟩ := h.2 0 p rfl
  obtain ⟨u, h3, h4⟩ := h.2 1 q rfl
  have hl := h.1
  match vs, hl, h1, h3 with
  | ⟨[a, b]⟩, _, h1, h3 =>
    simp at h1 h3
    subst h1 h3
    exact ⟨a, b, rfl, h2, h4⟩
theorem rep_bytes {I : Imm} {bl : Bl} {w : World} (l : List UInt8) : RepT I bl w (.string ⟨l.toArray⟩) (.str l) := by
  have := Rep.str (I := I) (w := w) ⟨l.toArray⟩
  exact .one (.inl (by simpa using this))
end Go.Abs.Z

namespace Go.Abs.Z
open Go.Proofs Go.RowKit
set_option linter.unusedVariables false
theorem size111 : (Tryz.prog.info? 93).map (·.size) = some 2 := by kernel_rfl
theorem lies111 : liesAt Tryz.prog Tryz.prog.depth 93 (2 / Tryz.prog.cellsOf 93) 0 93 1 = true := by kernel_rfl
theorem info5 : (Tryz.prog.info? 5).map (fun i => (i.zero, i.size, i.bytes)) = some (some (.int .u8 0), 1, 1) := by kernel_rfl
theorem cells5 : Tryz.prog.cellsOf 5 = 1 := by kernel_rfl
set_option maxHeartbeats 1000000 in
set_option maxRecDepth 100000 in
theorem copyCheck_used (b : Nat) (w : World) (h0 : w.cell? ⟨b, 0, none⟩ = some (.pointer (some ⟨b, 0, none⟩))) :
    Calls Tryz.prog 93 #[.pointer (some ⟨b, 0, none⟩)] w fun e w' => e = .returned (.tuple #[]) ∧ w' = w := by
  obtain ⟨j, hj, _⟩ := Option.map_eq_some_iff.1 size111
  go_enter Tryz.func93, Tryz.ntmps93
  go_wp2
  rw [Lib.run_neq_ptr_same w _ Tryz.underlying90 hj]
  go_wp2
  go_end0
  exact ⟨rfl, rfl⟩
set_option maxHeartbeats 1000000 in
set_option maxRecDepth 100000 in
theorem copyCheck_fresh (b : Nat) (w : World) (h0 : w.cell? ⟨b, 0, none⟩ = some (.pointer none)) (hsh : w.shape? b = some (93, 2)) (hfz : w.frozen? ⟨b, 0, none⟩ = false) :
    Calls Tryz.prog 93 #[.pointer (some ⟨b, 0, none⟩)] w fun e w' => e = .returned (.tuple #[]) ∧ w' = w.setCell ⟨b, 0, none⟩ (.pointer (some ⟨b, 0, none⟩)) := by
  obtain ⟨j, hj, hjs⟩ := Option.map_eq_some_iff.1 size111
  go_enter Tryz.func93, Tryz.ntmps93
  go_wp2
  rw [Lib.run_to_unsafe w ⟨b, 0, none⟩ Tryz.underlying90 Tryz.underlying191 hj (by rw [hjs]; decide) hsh (Nat.zero_lt_succ 1)]
  simp only [Result.andThen]
  rw [Oper.upon_value]
  go_wp2
  rw [run_callFunc_extern Tryz.func147 (by kernel_rfl) (by kernel_rfl) (by kernel_rfl) (e := Extern.AbiNoEscape.same) (by kernel_rfl)]
  rw [Lib.run_noEscape]
  simp only [Result.andThen]
  rw [Oper.upon_value]
  go_wp2
  rw [Lib.run_from_unsafe w ⟨b, 0, none⟩ Tryz.underlying191 Tryz.underlying90 hj hsh lies111]
  simp only [Result.andThen]
  rw [Oper.upon_value]
  go_wp2
  go_end0
  exact ⟨rfl, rfl⟩
theorem app_exact {w : World} {v : Value} {l : List UInt8} (hown : w.ownsRow 0 5 1 v l.length (l.map fun c => Value.int .u8 c.toNat)) (s : ByteArray) (hb : l.length + s.size ≤ 4294967296) :
    ∃ v' w', (∀ ty, (Builtin.append_ #[91, 9] ty #[v, .string s]).run Tryz.prog w = .ok v' w') ∧ w'.ownsRow 0 5 1 v' (l.length + s.size) ((l.map fun c => Value.int .u8 c.toNat) ++ Lib.strCells s) ∧
      w.grownBy w' v.ownBlock ∧ (v'.ownBlock = v.ownBlock ∨ v'.ownBlock = some w.heap.size) := by
  obtain ⟨i0, hi, hz0, hz1, hz2⟩ := info_parts info5
  have key : ∀ ty, ∃ v' w', (Builtin.append_ #[91, 9] ty #[v, .string s]).run Tryz.prog w = .ok v' w' ∧ w'.ownsRow 0 5 1 v' (l.length + s.size) ((l.map fun c => Value.int .u8 c.toNat) ++ Lib.strCells s) ∧
      w.grownBy w' v.ownBlock ∧ (v'.ownBlock = v.ownBlock ∨ v'.ownBlock = some w.heap.size) := by
    intro ty
    obtain ⟨v', w', hr, h2, h3, h4⟩ := Lib.run_append_own_string (P := Tryz.prog) w 0 91 9 ty 5 i0 Tryz.underlying91 Tryz.underlying9 hi hz0 hz1 hz2 v l.length _ hown s (by unfold maxLen; omega) (by omega) (Nat.zero_le _)
    refine ⟨v', w', hr, h2, h3, ?_⟩
    have hsz : s.size = s.data.toList.length := Lib.size_eq s
    obtain ⟨news, hsrc, _⟩ := src_of (P := Tryz.prog) (G := ⟨fun _ _ => False, fun _ => none, Bl.nil⟩) (w := w) (size := 1) (by decide) (xT := 9) (.inr Tryz.underlying9) (bl := Bl.nil) (v := .string s) (x := .str s.data.toList) (.one (.inl (.str s)))
      (xs := s.data.toList.map fun b => .int .u8 b.toNat) rfl (by rw [List.all_eq_true]; intro p hp; obtain ⟨_, _, rfl⟩ := List.mem_map.1 hp; rfl)
    rw [List.length_map, ← hsz] at hsrc
    have hs1 := hsrc
    rw [← hz1] at hs1
    rcases hown.2 with ⟨rfl, hn0⟩ | ⟨g, cap, cur, rfl, _, hg, hnc, hcm, hcs, htake⟩
    · by_cases hs0 : s.size = 0
      · have := h4.2 ⟨rfl, hs0⟩
        rw [this]; exact .inl rfl
      · have hgr := run_append_grow_src w 91 9 ty 5 i0 (.int .u8 0) Tryz.underlying91 hi hz0 none 0 0 [] (run_firstCells_none _ _ _ _ _) (.string s) s.size news hs1 (by omega) (by omega)
          (by rw [hz2]; have := nextslicecap_le (need := 0 + s.size) (old := 0) (by omega); omega)
        rw [hgr] at hr
        cases hr
        exact .inr rfl
    · by_cases hroom : l.length + s.size ≤ cap
      · have hlen : news.length = s.size := by rw [hsrc.newsLen]; omega
        have hro := run_append_room_src w 91 9 ty 5 i0 Tryz.underlying91 hi g 0 l.length cap (.string s) s.size news hs1 hroom
          (by intro j hj; rw [hz1]; simp only [World.cell?, hg]; simp; omega)
          (by intro j hj; simp [World.frozen?, hg])
        rw [hro] at hr
        cases hr
        exact .inl rfl
      · have hgr := run_append_grow_src w 91 9 ty 5 i0 (.int .u8 0) Tryz.underlying91 hi hz0 (some ⟨g, 0, none⟩) l.length cap (l.map fun c => Value.int .u8 c.toNat)
          (by
            rw [hz1]
            refine run_firstCells_some w.drew 1 l.length ⟨g, 0, none⟩ _ _ _ (by simp) ?_
            intro j x hx
            have hjl : j < l.length := by have := (List.getElem?_eq_some_iff.1 hx).1; simpa using this
            rw [add_none, Nat.zero_add]
            show w.cell? ⟨g, j, none⟩ = some x
            simp only [World.cell?, hg]
            rw [← htake, Nat.mul_one, List.getElem?_take, if_pos hjl, Array.getElem?_toList] at hx
            exact hx) (.string s) s.size news hs1 (by omega) (by omega)
          (by rw [hz2]; have := nextslicecap_le (need := l.length + s.size) (old := cap) (by omega); omega)
        rw [hgr] at hr
        cases hr
        exact .inr rfl
  obtain ⟨v', w', hr, h2, h3, h4⟩ := key 0
  exact ⟨v', w', fun ty => hr, h2, h3, h4⟩
theorem setCell0 {w : World} {b : Nat} {p v x : Value} {t : TypeId} (h : w.heap[b]? = some (.cells #[p, v] t (0, 0))) : (w.setCell ⟨b, 0, none⟩ x).heap[b]? = some (.cells #[x, v] t (0, 0)) := by
  simp only [World.setCell, Array.getElem?_modify, if_true, h]; rfl
theorem setCell1 {w : World} {b : Nat} {p v x : Value} {t : TypeId} (h : w.heap[b]? = some (.cells #[p, v] t (0, 0))) : (w.setCell ⟨b, 1, none⟩ x).heap[b]? = some (.cells #[p, x] t (0, 0)) := by
  simp only [World.setCell, Array.getElem?_modify, if_true, h]; rfl
theorem oneBlock_setCell (w : World) (b o : Nat) (x : Value) : OneBlock b w (w.setCell ⟨b, o, none⟩ x) :=
  ⟨fun k hk => Below.heap_setCell _ _ _ _ hk, by simp [World.setCell], rfl, rfl, rfl⟩
theorem copyCheck_any (b : Nat) (w : World) (p v : Value) (hp : p = .pointer none ∨ p = .pointer (some ⟨b, 0, none⟩)) (hbk : w.heap[b]? = some (.cells #[p, v] 93 (0, 0))) :
    Calls Tryz.prog 93 #[.pointer (some ⟨b, 0, none⟩)] w fun e w' => e = .returned (.tuple #[]) ∧ (w'.heap[b]? = some (.cells #[.pointer (some ⟨b, 0, none⟩), v] 93 (0, 0)) ∧ OneBlock b w w') := by
  have hc : w.cell? ⟨b, 0, none⟩ = some p := by simp [World.cell?, hbk]
  rcases hp with rfl | rfl
  · refine (copyCheck_fresh b w hc (by simp [World.shape?, hbk]) (by simp [World.frozen?, hbk])).mono ?_
    rintro e w' ⟨rfl, rfl⟩
    exact ⟨rfl, setCell0 hbk, oneBlock_setCell ..⟩
  · refine (copyCheck_used b w hc).mono ?_
    rintro e w' ⟨rfl, rfl⟩
    exact ⟨rfl, hbk, ⟨fun _ _ => rfl, rfl, rfl, rfl, rfl⟩⟩
theorem ownsRow_other {w w' : World} {b : Nat} {v : Value} {n : Nat} {xs : List Value} (hob : OneBlock b w w') (hne : v.ownBlock ≠ some b) (h : w.ownsRow 0 5 1 v n xs) : w'.ownsRow 0 5 1 v n xs := by
  refine ⟨h.1, ?_⟩
  rcases h.2 with h | ⟨g, cap, cur, rfl, hb, hg, r⟩
  · exact .inl h
  · exact .inr ⟨g, cap, cur, rfl, hb, by rw [hob.other g (fun e => hne (by rw [e]; rfl))]; exact hg, r⟩
theorem wpList_append_run {P : Program} {w : World} {ops : Array Oper} {rest : List Oper} {o : Oper} {a : Act} {Q : Exit → Act → World → Prop} (hgd : o.guard = none) (sl x : Operand) (t u : TypeId)
    (ho : o.op = .call { callee := .builtin .append, args := #[sl, x], argTypes := #[t, u] }) {v y v' : Value} {w' : World} (hs : a.eval sl = v) (hx : a.eval x = y)
    (hr : ∀ ty, (Builtin.append_ #[t, u] ty #[v, y]).run P w = .ok v' w') (h : wpList P ops Q rest (a.put o.dst v') w') : wpList P ops Q (o :: rest) a w := by
  refine wpList_plain hgd fun K hK => ?_
  unfold Oper.wp execOp
  simp only [ho, resolve, invoke, builtin, Sem.run_bind, Sem.run_pure, Result.andThen_ok, List.map_toArray, List.map_cons, List.map_nil, hs, hx, hr]
  exact hK _ _ h
def WPost (w : World) (b : Nat) (v : Value) (n : Nat) (xs : List Value) (e : Ending) (r : Value) (w' : World) : Prop :=
  e = .returned r ∧ ∃ v', w'.heap[b]? = some (.cells #[.pointer (some ⟨b, 0, none⟩), v'] 93 (0, 0)) ∧ w'.ownsRow 0 5 1 v' n xs ∧ (v'.ownBlock = v.ownBlock ∨ v'.ownBlock = some w.heap.size) ∧ v'.ownBlock ≠ some b ∧
    (∀ k, k < w.heap.size → k ≠ b → some k ≠ v.ownBlock → w'.heap[k]? = w.heap[k]?) ∧ w.heap.size ≤ w'.heap.size ∧ w'.os = w.os ∧ w'.tape = w.tape ∧ w'.output = w.output
set_option maxHeartbeats 2000000 in
set_option maxRecDepth 100000 in
theorem writeString (b : Nat) (w : World) (p v : Value) (l : List UInt8) (s : ByteArray) (hp : p = .pointer none ∨ p = .pointer (some ⟨b, 0, none⟩)) (hbk : w.heap[b]? = some (.cells #[p, v] 93 (0, 0)))
    (hown : w.ownsRow 0 5 1 v l.length (l.map fun c => Value.int .u8 c.toNat)) (hne : v.ownBlock ≠ some b) (hlen : l.length + s.size ≤ 4294967296) :
    Calls Tryz.prog 49 #[.pointer (some ⟨b, 0, none⟩), .string s] w fun e w' => WPost w b v (l.length + s.size) ((l.map fun c => Value.int .u8 c.toNat) ++ Lib.strCells s) e (.tuple #[.int .i64 s.size, .nilIface]) w' := by
  go_enter Tryz.func49, Tryz.ntmps49
  go_wp2_with (go_at_call 93; refine (copyCheck_any b w p v hp hbk).mono ?_)
  rintro e w1 ⟨rfl, hb1, hob⟩
  obtain ⟨v', w2, happ, hown2, hgrow, hblk⟩ := app_exact (ownsRow_other hob hne hown) s hlen
  have hlt : b < w1.heap.size := by
    rcases Nat.lt_or_ge b w1.heap.size with h' | h'
    · exact h'
    · simp [Array.getElem?_eq_none h'] at hb1
  have hb2 : w2.heap[b]? = some (.cells #[.pointer (some ⟨b, 0, none⟩), v] 93 (0, 0)) := by
    rw [hgrow.block b hlt (fun e => hne e.symm)]; exact hb1
  have c1 : w1.cell? ⟨b, 1, none⟩ = some v := by simp [World.cell?, hb1]
  have d1 : w2.cell? ⟨b, 1, none⟩ = some v := by simp [World.cell?, hb2]
  have f1 : w2.frozen? ⟨b, 1, none⟩ = false := by simp [World.frozen?, hb2]
  obtain ⟨ao, n', cap, rfl⟩ : ∃ ao n' cap, v' = .slice ao n' cap := by
    rcases hown2.2 with ⟨hv, _⟩ | ⟨g, cap, cur, hv, _⟩
    · exact ⟨_, _, _, hv⟩
    · exact ⟨_, _, _, hv⟩
  have HB2 := Lib.hid hb2; clear hb2
  have HOB := Lib.hid hob; clear hob
  have HB1 := Lib.hid hb1; clear hb1
  have HBK := Lib.hid hbk; clear hbk
  have HG := Lib.hid hgrow; clear hgrow
  have HBL := Lib.hid hblk; clear hblk
  have HN := Lib.hid hne; clear hne
  have HP := Lib.hid hp; clear hp
  have HA := Lib.hid happ; clear happ
  go_wp2_with (at_builtin; refine wpList_append_run rfl _ _ 91 9 rfl rfl rfl HA.out ?_)
  go_ret2
  have hsz : w1.heap.size = w.heap.size := HOB.out.size
  have hne2 : (Value.slice ao n' cap).ownBlock ≠ some b := by
    rcases HBL.out with h | h
    · rw [h]; exact HN.out
    · rw [h]; intro e; have := Option.some.inj e; omega
  refine ⟨rfl, .slice ao n' cap, setCell1 HB2.out, ownsRow_other (oneBlock_setCell w2 b 1 _) hne2 hown2, ?_, hne2, fun k hk hkb hkv => ?_, ?_, ?_, ?_, ?_⟩
  · rcases HBL.out with h | h
    · exact .inl h
    · right; rw [h, hsz]
  · rw [(oneBlock_setCell w2 b 1 _).other k hkb, HG.out.block k (by omega) hkv, HOB.out.other k hkb]
  · have := HG.out.size
    show w.heap.size ≤ (w2.setCell ⟨b, 1, none⟩ _).heap.size
    rw [(oneBlock_setCell w2 b 1 _).size]; omega
  · show w2.os = _; rw [HG.out.os, HOB.out.os]
  · show w2.tape = _; rw [HG.out.tape, HOB.out.tape]
  · show w2.output = _; rw [HG.out.output, HOB.out.output]
theorem oneBlock_freeze (w : World) (g n : Nat) : OneBlock g w (w.drew.freeze ⟨g, 0, none⟩ n) := by
  refine ⟨fun k hk => ?_, ?_, ?_, ?_, ?_⟩
  · simp only [World.freeze]
    split
    · rfl
    · simp only [Array.getElem?_modify]
      rw [if_neg (fun e => hk e.symm)]; rfl
  all_goals (simp only [World.freeze]; split <;> first | rfl | (rw [Array.size_modify]; rfl))
set_option maxHeartbeats 1000000 in
set_option maxRecDepth 100000 in
theorem builderString (b g cap : Nat) (w : World) (p : Value) (cur : Array Value) (l : List UInt8) (h0 : l ≠ []) (hbk : w.heap[b]? = some (.cells #[p, .slice (some ⟨g, 0, none⟩) l.length cap] 93 (0, 0))) (hg : w.heap[g]? = some (.cells cur 5 (0, 0)))
    (hnc : l.length ≤ cap) (hcm : cap ≤ maxLen) (hcs : cur.size = cap * 1) (htake : cur.toList.take (l.length * 1) = l.map fun c => Value.int .u8 c.toNat) :
    Calls Tryz.prog 50 #[.pointer (some ⟨b, 0, none⟩)] w fun e w' => e = .returned (.string ⟨l.toArray⟩) ∧ w' = w.drew.freeze ⟨g, 0, none⟩ l.length := by
  have hl0 : l.length ≠ 0 := by simpa using h0
  have c1 : w.drew.cell? ⟨b, 1, none⟩ = some (.slice (some ⟨g, 0, none⟩) l.length cap) := by
    have : w.drew.heap[b]? = some (.cells #[p, .slice (some ⟨g, 0, none⟩) l.length cap] 93 (0, 0)) := hbk
    simp [World.cell?, this]
  have hSD : (Builtin.unsafeSliceData_ #[91] 145 #[.slice (some ⟨g, 0, none⟩) l.length cap]).run Tryz.prog w.drew = .ok (.pointer (some ⟨g, 0, none⟩)) w.drew :=
    Lib.run_unsafeSliceData_row _ _ _ _ _ _ (by omega)
  have hUS : (Builtin.unsafeString_ #[145, 3] 9 #[.pointer (some ⟨g, 0, none⟩), .int .i64 l.length]).run Tryz.prog w.drew = .ok (.string ⟨l.toArray⟩) (w.drew.freeze ⟨g, 0, none⟩ l.length) := by
    refine Lib.run_unsafeString_row w.drew 145 3 9 5 Tryz.underlying145 cells5 g cur.size (by have hg' : w.drew.heap[g]? = some (.cells cur 5 (0, 0)) := hg; simp [World.shape?, hg']) l h0 (by omega) (by unfold maxLen at hcm; omega) ?_
    intro j x hx
    rw [add_none, Nat.zero_add]
    show w.cell? ⟨g, j, none⟩ = _
    have hj : j < l.length := (List.getElem?_eq_some_iff.1 hx).1
    have : (l.map fun c => Value.int .u8 c.toNat)[j]? = some (.int .u8 x.toNat) := by rw [List.getElem?_map, hx]; rfl
    rw [← htake, Nat.mul_one, List.getElem?_take, if_pos hj, Array.getElem?_toList] at this
    simp [World.cell?, hg, this]
  clear htake hg
  go_enter Tryz.func50, Tryz.ntmps50
  go_wp2
  go_region
  all_goals (go_wp2; go_ret; exact ⟨rfl, rfl⟩)
end Go.Abs.Z

namespace Go.Abs.Z
open Go.Proofs Go.RowKit
theorem args1_of {I : Imm} {bl : Bl} {w : World} {vs : Array Value} {p : PV} (h : ArgsOk I bl w vs.toList [p]) : ∃ v, vs = #[v] ∧ RepT I bl w v p := by
  obtain ⟨v, h1, h2⟩ := h.2 0 p rfl
  have hl := h.1
  match vs, hl, h1 with
  | ⟨[a]⟩, _, h1 =>
    simp at h1
    subst h1
    exact ⟨a, rfl, h2⟩
theorem ent137 : Enterable Tryz.prog 49 := ⟨Tryz.f49, Tryz.func49, by kernel_rfl, by kernel_rfl⟩
theorem ent139 : Enterable Tryz.prog 50 := ⟨Tryz.f50, Tryz.func50, by kernel_rfl, by kernel_rfl⟩
theorem obj_bld {K : Nat → Prop} {G : Gh} {w : World} {σ : Sto} (hpre : Pre K G w σ) {id b : Nat} {t e : TypeId} {l : List UInt8} (hb : G.bl.l[id]? = some b) (hσ : σ[id]? = some [.bld t e l]) : BOk G w b id t e l := by
  obtain ⟨b', h1, h2⟩ := hpre.obj id _ hσ
  rw [hb] at h1; cases h1
  rcases h2 with ⟨_, _, cs, elem, _, _, h⟩ | ⟨t', e', l', he, h⟩ | h | ⟨_, _, _, h, _⟩
  · have := h 0 _ rfl
    rcases this with ⟨hr, _⟩ | ⟨he, _⟩
    · generalize cs.getD 0 undef = z at hr
      cases hr
      rename_i h'
      rcases h' with h' | h'
      · cases h'
      · first | exact h'.elim | cases h' | simp [RefOk] at h'
    · cases he
  · cases he; exact h
  · cases h
  · cases h
theorem aft_obj {K : Nat → Prop} {G G' : Gh} {w w' : World} {σ : Sto} (hpre : Pre K G w σ) {id : Nat} {cs : List PV} (hid : id < σ.length)
    (hI : G'.I = G.I) (hbl : G'.bl = G.bl) (hω : ∀ k tag, G.ω k = some tag → (∀ j, tag ≠ .obj id j) → G'.ω k = some tag) (hω' : ∀ k tag, G'.ω k = some tag → G.ω k = some tag ∨ (w.heap.size ≤ k ∧ k < w'.heap.size))
    (hkeep : ∀ k, k < w.heap.size → (∀ j, G.ω k ≠ some (.obj id j)) → w'.heap[k]? = w.heap[k]?) (hnI : ∀ k j x, G.ω k = some (.obj id j) → G.I k x → w'.cell? ⟨k, x.getD 0, none⟩ = w.cell? ⟨k, x.getD 0, none⟩ ∧ (x = none → w'.heap[k]? = w.heap[k]?))
    (hsz : w.heap.size ≤ w'.heap.size) (hos : w'.os = w.os) (htape : w'.tape = w.tape) (hout : w'.output = w.output) (hobj : ObjOk G' w' id cs) : Aft K G w (σ.set id cs) G' w' := by
  have hsame : Same G.I w w' := by
    refine ⟨fun k o h => ?_, fun k h => ?_⟩
    · by_cases ht : ∃ j, G.ω k = some (.obj id j)
      · obtain ⟨j, ht⟩ := ht
        exact (hnI k j (some o) ht h).1
      · exact cell_of_heap (hkeep k (hpre.lt k _ h) (fun j hj => ht ⟨j, hj⟩))
    · by_cases ht : ∃ j, G.ω k = some (.obj id j)
      · obtain ⟨j, ht⟩ := ht
        exact (hnI k j none ht h).2 rfl
      · exact hkeep k (hpre.lt k _ h) (fun j hj => ht ⟨j, hj⟩)
  have hext : Ext (fun tg => ∃ j, tg = .obj id j) G G' w w' := by
    refine ⟨by rw [hI]; exact fun _ _ h => h, hsame, by rw [hbl]; exact Bl.le_refl _, fun i hi hX g => by rw [hbl], fun k tag h hX => ?_⟩
    have hne : ∀ j, tag ≠ .obj id j := fun j e => hX ⟨j, e⟩
    refine ⟨hω k tag h hne, hkeep k (hpre.own k tag h).1 (fun j hj => ?_), fun x hx => by rw [hI] at hx; exact hx⟩
    rw [h] at hj; exact hne j (Option.some.inj hj)
  refine ⟨fun k hk => hkeep k (hpre.Klt k hk) (fun j hj => (hpre.own k _ hj).2 hk), hsame, by rw [hI]; exact fun _ _ h => h, by rw [hI]; exact fun _ _ h => .inl h, by rw [hI]; exact fun k x h => Nat.lt_of_lt_of_le (hpre.lt k x h) hsz,
    fun k tag h => ?_, hsz, by rw [hbl]; exact Bl.le_refl _, hos, htape, hout, fun i cs' hc => ?_, by rw [hbl, List.length_set]; exact hpre.len, by rw [hbl, List.length_set]; exact hpre.abl⟩
  · rcases hω' k tag h with h | ⟨h1, h2⟩
    · exact ⟨Nat.lt_of_lt_of_le (hpre.own k tag h).1 hsz, (hpre.own k tag h).2⟩
    · exact ⟨h2, fun hk => by have := hpre.Klt k hk; omega⟩
  · rw [List.getElem?_set] at hc
    split at hc
    · rename_i e
      subst e
      cases hc
      exact hobj
    · rename_i hne
      exact (hpre.obj i cs' hc).ext hext (fun j hj => by obtain ⟨j', e⟩ := hj; cases e; exact hne rfl)
theorem write_ok : PrimOk Tryz.prog 49 pWrite := by
  intro call hSc args σ r σ' hown h
  refine ⟨ent137, fun n vs w G K hargs hpre => ?_⟩
  unfold pWrite at h
  split at h
  · rename_i id s
    split at h
    · rename_i t e l hσ
      split at h
      · rename_i hc
        obtain ⟨rfl, rfl, hlen⟩ := hc
        cases h
        obtain ⟨v0, u, rfl, hv0, hu⟩ := args2_of hargs
        obtain ⟨b, hbl, rfl⟩ := hv0.ref_inv
        obtain ⟨sb, rfl, rfl⟩ := hu.str_inv
        obtain ⟨hωb, hIb, p, v, hp, hbk, hrow, hblk⟩ := obj_bld hpre hbl hσ
        have hsz : sb.size = sb.data.toList.length := Lib.size_eq sb
        have hne : v.ownBlock ≠ some b := fun e => (hblk b e).1 rfl
        have hlt := (List.getElem?_eq_some_iff.1 hσ).1
        refine calls_wide ((writeString b w p v l sb hp hbk hrow hne (by omega)).mono ?_)
        rintro e w' ⟨rfl, v', hbk', hrow', hown', hne', hframe, hszw, hos, htape, hout⟩
        let G' : Gh := ⟨G.I, fun k => if v'.ownBlock = some k then some (.obj id (some 1)) else G.ω k, G.bl⟩
        have hg' : ∀ g, v'.ownBlock = some g → g < w'.heap.size := by
          intro g hg
          rcases hrow'.2 with ⟨rfl, _⟩ | ⟨g2, cap, cur, rfl, _, hh, _⟩
          · cases hg
          · obtain rfl : g2 = g := Option.some.inj hg
            rcases Nat.lt_or_ge g2 w'.heap.size with h' | h'
            · exact h'
            · rw [Array.getElem?_eq_none h'] at hh; cases hh
        have hold : ∀ g, v'.ownBlock = some g → g < w.heap.size → G.ω g = some (.obj id (some 1)) ∧ ∀ x, ¬ G.I g x := by
          intro g hg hlt
          rcases hown' with h | h
          · rw [h] at hg; exact (hblk g hg).2
          · rw [h] at hg; cases hg; omega
        refine ⟨_, G', rfl, ?_, ?_⟩
        · refine .tuple rfl fun i q hq => ?_
          match i with
          | 0 => simp at hq; subst hq; exact .inl (.int _ _)
          | 1 => simp at hq; subst hq; exact .inl .nili
          | i + 2 => simp at hq
        · refine aft_obj hpre hlt rfl rfl ?_ ?_ ?_ ?_ hszw hos htape hout ?_
          · intro k tag hk hnt
            simp only [G']
            by_cases hv : v'.ownBlock = some k
            · rw [if_pos hv]
              have := hold k hv (hpre.own k tag hk).1
              rw [this.1] at hk
              exact absurd (Option.some.inj hk).symm (hnt _)
            · rw [if_neg hv]; exact hk
          · intro k tag hk
            simp only [G'] at hk
            split at hk
            · rename_i hv
              by_cases hlt' : k < w.heap.size
              · rw [← hk]; exact .inl (hold k hv hlt').1
              · exact .inr ⟨by omega, hg' k hv⟩
            · exact .inl hk
          · intro k hk hnt
            refine hframe k hk (fun e => ?_) (fun e => ?_)
            · subst e; exact hnt _ hωb
            · exact hnt _ (hblk k e.symm).2.1
          · intro k j x hk hI
            have hkb : k ≠ b := fun e => hIb x (e ▸ hI)
            have hkv : some k ≠ v.ownBlock := fun e => (hblk k e.symm).2.2 x hI
            have := hframe k (hpre.lt k x hI) hkb hkv
            exact ⟨cell_of_heap this, fun _ => this⟩
          · refine ⟨b, hbl, .inr (.inl ⟨93, 5, l ++ sb.data.toList, rfl, ?_, hIb, .pointer (some ⟨b, 0, none⟩), v', .inr rfl, hbk', ?_, fun g hg => ⟨fun e => hne' (by rw [hg, e]), if_pos hg, fun x hx => ?_⟩⟩)⟩
            · show (if v'.ownBlock = some b then _ else _) = _
              rw [if_neg hne']; exact hωb
            · rw [List.length_append, List.map_append, ← hsz]
              exact hrow'
            · rcases hown' with h | h
              · rw [h] at hg; exact (hblk g hg).2.2 x hx
              · rw [h] at hg; cases hg
                have := hpre.lt _ _ hx; omega
      · cases h
    · cases h
  · cases h
set_option maxHeartbeats 1000000 in
set_option maxRecDepth 100000 in
theorem builderNil (b : Nat) (w : World) (p : Value) (hbk : w.heap[b]? = some (.cells #[p, .slice none 0 0] 93 (0, 0))) :
    Calls Tryz.prog 50 #[.pointer (some ⟨b, 0, none⟩)] w fun e w' => e = .returned (.string .empty) ∧ Below w.heap.size w w' := by
  have c1 : w.drew.cell? ⟨b, 1, none⟩ = some (.slice none 0 0) := by
    have : w.drew.heap[b]? = some (.cells #[p, .slice none 0 0] 93 (0, 0)) := hbk
    simp [World.cell?, this]
  have hSD : (Builtin.unsafeSliceData_ #[91] 145 #[.slice none 0 0]).run Tryz.prog w.drew = .ok (.pointer none) w.drew := Lib.run_unsafeSliceData_nil ..
  have hUS : (Builtin.unsafeString_ #[145, 3] 9 #[.pointer none, .int .i64 0]).run Tryz.prog w.drew = .ok (.string .empty) w.drew := Lib.run_unsafeString_none ..
  have hB : Below w.heap.size w w.drew := { block := fun _ _ => rfl, size := Nat.le_refl _, os := rfl, tape := rfl, output := rfl }
  go_enter Tryz.func50, Tryz.ntmps50
  go_wp2
  go_region
  all_goals (go_wp2; go_ret; exact ⟨rfl, hB⟩)
set_option maxHeartbeats 1000000 in
set_option maxRecDepth 100000 in
theorem builderZero (b g cap : Nat) (w : World) (p : Value) (hc : cap ≠ 0) (hbk : w.heap[b]? = some (.cells #[p, .slice (some ⟨g, 0, none⟩) 0 cap] 93 (0, 0))) :
    Calls Tryz.prog 50 #[.pointer (some ⟨b, 0, none⟩)] w fun e w' => e = .returned (.string .empty) ∧ Below w.heap.size w w' := by
  have c1 : w.drew.cell? ⟨b, 1, none⟩ = some (.slice (some ⟨g, 0, none⟩) 0 cap) := by
    have : w.drew.heap[b]? = some (.cells #[p, .slice (some ⟨g, 0, none⟩) 0 cap] 93 (0, 0)) := hbk
    simp [World.cell?, this]
  have hSD : (Builtin.unsafeSliceData_ #[91] 145 #[.slice (some ⟨g, 0, none⟩) 0 cap]).run Tryz.prog w.drew = .ok (.pointer (some ⟨g, 0, none⟩)) w.drew := Lib.run_unsafeSliceData_row _ _ _ _ _ _ hc
  have hUS : (Builtin.unsafeString_ #[145, 3] 9 #[.pointer (some ⟨g, 0, none⟩), .int .i64 0]).run Tryz.prog w.drew = .ok (.string .empty) w.drew := Lib.run_unsafeString_none ..
  have hB : Below w.heap.size w w.drew := { block := fun _ _ => rfl, size := Nat.le_refl _, os := rfl, tape := rfl, output := rfl }
  go_enter Tryz.func50, Tryz.ntmps50
  go_wp2
  go_region
  all_goals (go_wp2; go_ret; exact ⟨rfl, hB⟩)
set_option maxHeartbeats 1000000 in
set_option maxRecDepth 100000 in
theorem builderView (b g : Nat) (w : World) (p : Value) (cur : Array Value) (hbk : w.heap[b]? = some (.cells #[p, .slice (some ⟨g, 0, none⟩) 0 0] 93 (0, 0))) (hg : w.heap[g]? = some (.cells cur 5 (0, 0))) :
    Calls Tryz.prog 50 #[.pointer (some ⟨b, 0, none⟩)] w fun e w' => e = .returned (.string .empty) ∧ Below w.heap.size w w' := by
  have hlt : b < w.heap.size := (Array.getElem?_eq_some_iff.1 hbk).1
  have c1 : w.drew.cell? ⟨b, 1, none⟩ = some (.slice (some ⟨g, 0, none⟩) 0 0) := by
    have : w.drew.heap[b]? = some (.cells #[p, .slice (some ⟨g, 0, none⟩) 0 0] 93 (0, 0)) := hbk
    simp [World.cell?, this]
  have c2 : (w.alloc (.view ⟨g, 0, none⟩ 5)).drew.cell? ⟨b, 1, none⟩ = some (.slice (some ⟨g, 0, none⟩) 0 0) := by
    have : (w.alloc (.view ⟨g, 0, none⟩ 5)).drew.heap[b]? = some (.cells #[p, .slice (some ⟨g, 0, none⟩) 0 0] 93 (0, 0)) := (heap_alloc_old' w _ b hlt).trans hbk
    simp [World.cell?, this]
  have hSD : (Builtin.unsafeSliceData_ #[91] 145 #[.slice (some ⟨g, 0, none⟩) 0 0]).run Tryz.prog w.drew = .ok (.pointer (some ⟨w.heap.size, 0, none⟩)) (w.alloc (.view ⟨g, 0, none⟩ 5)).drew :=
    Lib.run_unsafeSliceData_zero (P := Tryz.prog) (w := w.drew) #[91] 145 5 Tryz.underlying145 ⟨g, 0, none⟩ 0 (5, cur.size) (by have hg' : w.drew.heap[g]? = some (.cells cur 5 (0, 0)) := hg; simp [World.shape?, hg'])
  have hUS : (Builtin.unsafeString_ #[145, 3] 9 #[.pointer (some ⟨w.heap.size, 0, none⟩), .int .i64 0]).run Tryz.prog (w.alloc (.view ⟨g, 0, none⟩ 5)).drew = .ok (.string .empty) (w.alloc (.view ⟨g, 0, none⟩ 5)).drew := Lib.run_unsafeString_none ..
  have hB : Below w.heap.size w (w.alloc (.view ⟨g, 0, none⟩ 5)).drew := by
    have := (Below.refl w.heap.size w).alloc (Nat.le_refl _) (.view ⟨g, 0, none⟩ 5)
    exact { block := this.block, size := this.size, os := this.os, tape := this.tape, output := this.output }
  clear hg hbk
  go_enter Tryz.func50, Tryz.ntmps50
  go_wp2
  go_region
  all_goals (go_wp2; go_ret; exact ⟨rfl, hB⟩)
theorem string_ok : PrimOk Tryz.prog 50 pString := by
  intro call hSc args σ r σ' hown h
  refine ⟨ent139, fun n vs w G K hargs hpre => ?_⟩
  unfold pString at h
  split at h
  · rename_i id
    split at h
    · rename_i t e l hσ
      split at h
      · rename_i hc
        obtain ⟨rfl, rfl⟩ := hc
        cases h
        obtain ⟨v0, rfl, hv0⟩ := args1_of hargs
        obtain ⟨b, hbl, rfl⟩ := hv0.ref_inv
        obtain ⟨hωb, hIb, p, v, hp, hbk, hrow, hblk⟩ := obj_bld hpre hbl hσ
        have hlt := (List.getElem?_eq_some_iff.1 hσ).1
        have emp : Calls Tryz.prog 50 #[.pointer (some ⟨b, 0, none⟩)] w (fun e w' => e = .returned (.string .empty) ∧ Below w.heap.size w w') → CallsIn (FW none) n Tryz.prog 50 #[.pointer (some ⟨b, 0, none⟩)] w fun e w' => ∃ v G', e = .returned v ∧ RepT G'.I G'.bl w' v (.str []) ∧ Aft K G w (σ.set id [.dead]) G' w' := by
          intro hc
          refine calls_wide (hc.mono ?_)
          rintro e w' ⟨rfl, hb⟩
          have hk : ∀ k, k < w.heap.size → w'.heap[k]? = w.heap[k]? := fun k h => hb.block k h
          exact ⟨_, G, rfl, rep_bytes [], aft_obj hpre hlt rfl rfl (fun k tag h _ => h) (fun k tag h => .inl h) (fun k h _ => hk k h) (fun k j x hkk hI => ⟨cell_of_heap (hk k (hpre.lt k x hI)), fun _ => hk k (hpre.lt k x hI)⟩) hb.size hb.os hb.tape hb.output ⟨b, hbl, .inr (.inr (.inl rfl))⟩⟩
        rcases hrow.2 with ⟨hv, hz⟩ | ⟨g, cap, cur, rfl, _, hg, hnc, hcm, hcs, htake⟩
        · obtain rfl := List.length_eq_zero_iff.1 hz
          subst hv
          exact emp (builderNil b w p hbk)
        by_cases hl0 : l = []
        · subst hl0
          by_cases hc0 : cap = 0
          · subst hc0; exact emp (builderView b g w p cur hbk hg)
          · exact emp (builderZero b g cap w p hc0 hbk)
        · obtain ⟨hgb, hωg, hIg⟩ := hblk g rfl
          refine calls_wide ((builderString b g cap w p cur l hl0 hbk hg hnc hcm hcs htake).mono ?_)
          rintro e w' ⟨rfl, rfl⟩
          have hob := oneBlock_freeze w g l.length
          refine ⟨_, G, rfl, rep_bytes l, aft_obj hpre hlt rfl rfl (fun k tag h _ => h) (fun k tag h => .inl h) ?_ ?_ (by rw [hob.size]; exact Nat.le_refl _) hob.os hob.tape hob.output ⟨b, hbl, .inr (.inr (.inl rfl))⟩⟩
          · intro k hk hnt
            exact hob.other k (fun e => by subst e; exact hnt _ hωg)
          · intro k j x hk hI
            have hkg : k ≠ g := fun e => by subst e; exact hIg x hI
            exact ⟨cell_of_heap (hob.other k hkg), fun _ => hob.other k hkg⟩
      · cases h
    · cases h
  · cases h
end Go.Abs.Z

namespace Go.Abs.Z
open Go.Proofs Go.RowKit
set_option linter.unusedVariables false
set_option maxHeartbeats 1000000 in
set_option maxRecDepth 100000 in
theorem indexByteCall (s : ByteArray) (c : Int) (w : World) : Calls Tryz.prog 228 #[.string s, .int .u8 c] w fun e w' => e = .returned (.int .i64 (Lib.indexByte s.data.toList c.toNat.toUInt8)) ∧ w' = w := by
  go_enter Tryz.func228, Tryz.ntmps228
  go_wp2
  rw [run_callFunc_extern Tryz.func279 (by kernel_rfl) (by kernel_rfl) (by kernel_rfl) (e := Extern.BytealgIndexByte.indexByte) (by kernel_rfl)]
  rw [Lib.run_indexByteString]
  simp only [Result.andThen]
  rw [Oper.upon_value]
  go_wp2
  go_ret
  exact ⟨rfl, rfl⟩
set_option maxHeartbeats 1000000 in
set_option maxRecDepth 100000 in
theorem countCall (s : ByteArray) (c : UInt8) (w : World) : Calls Tryz.prog 96 #[.string s, .string ⟨#[c]⟩] w fun e w' => e = .returned (.int .i64 (Lib.countByte s.data.toList c)) ∧ w' = w := by
  have hs : (ByteArray.mk #[c]).size = 1 := rfl
  go_enter Tryz.func96, Tryz.ntmps96
  go_wp2
  rw [run_callFunc_extern Tryz.func154 (by kernel_rfl) (by kernel_rfl) (by kernel_rfl) (e := Extern.BytealgCount.count) (by kernel_rfl)]
  rw [Lib.run_countString]
  simp only [Result.andThen]
  rw [Oper.upon_value]
  go_wp2
  go_ret
  exact ⟨rfl, rfl⟩
theorem ent271 : Enterable Tryz.prog 228 := ⟨Tryz.f228, Tryz.func228, by kernel_rfl, by kernel_rfl⟩
theorem ent142 : Enterable Tryz.prog 96 := ⟨Tryz.f96, Tryz.func96, by kernel_rfl, by kernel_rfl⟩
theorem indexByte_ok : PrimOk Tryz.prog 228 pIndexByte := by
  intro call hSc args σ r σ' hown h
  refine ⟨ent271, fun n vs w G K hargs hpre => ?_⟩
  unfold pIndexByte at h
  split at h
  · split at h
    · cases h
      obtain ⟨v, u, rfl, hv, hu⟩ := args2_of hargs
      obtain ⟨s, rfl, rfl⟩ := hv.str_inv
      have := hu.int_inv
      subst this
      refine calls_wide ((indexByteCall s _ w).mono ?_)
      rintro e w' ⟨rfl, rfl⟩
      exact ⟨_, G, rfl, .one (.inl (.int _ _)), aft_below hpre (Below.refl _ _)⟩
    · cases h
  · cases h
theorem count_ok : PrimOk Tryz.prog 96 pCount := by
  intro call hSc args σ r σ' hown h
  refine ⟨ent142, fun n vs w G K hargs hpre => ?_⟩
  unfold pCount at h
  split at h
  · cases h
    obtain ⟨v, u, rfl, hv, hu⟩ := args2_of hargs
    obtain ⟨s, rfl, rfl⟩ := hv.str_inv
    obtain ⟨⟨⟨l⟩⟩, rfl, hl⟩ := hu.str_inv
    have hl' : l = _ := hl
    subst hl'
    refine calls_wide ((countCall s _ w).mono ?_)
    rintro e w' ⟨rfl, rfl⟩
    exact ⟨_, G, rfl, .one (.inl (.int _ _)), aft_below hpre (Below.refl _ _)⟩
  · cases h
end Go.Abs.Z

namespace Go.Abs.Z
open Go.Proofs Go.RowKit
theorem tab_pow {K : Nat → Prop} {G : Gh} {w : World} {σ : Sto} (hpre : Pre K G w σ) : Lib.TabIs Tryz.prog w "internal/strconv.uint64pow10" .u64 Lib.pow10Tab := by
  obtain ⟨_, t, f, h⟩ := hpre.Klt.tab 0 _ rfl
  unfold Lib.TabIs World.var?
  rw [show Tryz.prog.globalNamed "internal/strconv.uint64pow10" = some 0 by kernel_rfl]
  simp [h]
theorem ent44 : Enterable Tryz.prog 23 := ⟨Tryz.f23, Tryz.func23, by kernel_rfl, by kernel_rfl⟩
theorem itoa_ok : PrimOk Tryz.prog 23 pItoa := by
  intro call hSc args σ r σ' hown h
  refine ⟨ent44, fun n vs w G K hargs hpre => ?_⟩
  unfold pItoa at h
  split at h
  · split at h
    · rename_i x hx
      cases h
      obtain ⟨v, rfl, hv⟩ := args1_of hargs
      have := hv.int_inv
      subst this
      refine calls_wide ((Tryz.strconv_Itoa x hx.1 hx.2 w (tab_pow hpre)).mono ?_)
      rintro e w' ⟨rfl, k, os, rfl⟩
      exact ⟨_, G, rfl, rep_bytes _, aft_below hpre (Lib.below_grow _ w (Nat.le_refl _) k os)⟩
    · cases h
  · cases h
end Go.Abs.Z
