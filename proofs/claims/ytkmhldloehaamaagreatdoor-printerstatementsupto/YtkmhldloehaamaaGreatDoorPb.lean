/- A part of the proof: P4. -/
import Derived.Test.YtkmhldloehaamaaGreatDoorPa
import Derived.Outline
import Derived.RangeFuncNested
import Derived.RangeFuncBound
import Derived.RangeFuncCalls
import Derived.RangeFuncLeaves
import Derived.Shelf.Abstract
import Derived.Shelf.RegionOpen
import Derived.OwnWalkIn
import Derived.TacticsInMore
import Derived.LoopNIn
import Derived.LoopIn

set_option linter.unusedVariables false
set_option linter.unusedSimpArgs false
namespace Go.Abs.Z
open Go.Proofs Go.RowKit Go.Shelf
set_option linter.unusedVariables false
attribute [local go_sem] Oper.semAt_some
inductive Tr where
  | mk (kind : Int) (text : List UInt8) (st en : Int) (none : Bool) (kids : List Tr)
mutual
def Tr.pv : Tr → PV
  | .mk k t a e n ks => .agg [.int .i64 k, .str t, .int .i64 a, .int .i64 e, if n then .nils else .slice false 5 (Tr.pvs ks)]
def Tr.pvs : List Tr → List PV
  | [] => []
  | t :: ts => t.pv :: Tr.pvs ts
end
mutual
def Tr.pre : Tr → List Tr
  | .mk k t a e n ks => .mk k t a e n ks :: Tr.pres ks
def Tr.pres : List Tr → List Tr
  | [] => []
  | t :: ts => t.pre ++ Tr.pres ts
end
mutual
def Tr.wf : Tr → Prop
  | .mk k t a e n ks => (n = true → ks = []) ∧ Tr.wfs ks
def Tr.wfs : List Tr → Prop
  | [] => True
  | t :: ts => t.wf ∧ Tr.wfs ts
end
theorem Tr.AzU : ∀ ks : List Tr, Tr.pvs ks = ks.map Tr.pv
  | [] => rfl
  | t :: ts => by rw [Tr.pvs, Tr.AzU ts]; rfl
theorem Tr.wfs_mem : ∀ {ks : List Tr}, Tr.wfs ks → ∀ k ∈ ks, k.wf
  | [], _, k, h => by cases h
  | t :: ts, hw, k, h => by
    rcases List.mem_cons.1 h with rfl | h
    · exact hw.1
    · exact Tr.wfs_mem hw.2 k h
def Tr.kids : Tr → List Tr
  | .mk _ _ _ _ _ ks => ks
def nodeV (k : Int) (t : ByteArray) (a e : Int) (kv : Value) : Value := .agg #[.int .i64 k, .string t, .int .i64 a, .int .i64 e, kv]
inductive KidsAt (I : Imm) (w : World) : Value → Bool → List Tr → Prop
  | nil : KidsAt I w (.slice none 0 0) true []
  | row {a : Addr} {len cap : Nat} {ks : List Tr} (hl : len = ks.length) (hc : len ≤ cap) (hs : ks ≠ [] → a.spot = none)
      (h : ∀ (i : Nat) (t : Tr), ks[i]? = some t → ∃ (k : Int) (s : ByteArray) (st en : Int) (kv : Value) (n : Bool) (kk : List Tr), t = .mk k s.data.toList st en n kk ∧ (∀ j, j < 5 → I a.block (some (a.off + i * 5 + j))) ∧
        w.cell? ⟨a.block, a.off + i * 5 + 0, none⟩ = some (.int .i64 k) ∧ w.cell? ⟨a.block, a.off + i * 5 + 1, none⟩ = some (.string s) ∧ w.cell? ⟨a.block, a.off + i * 5 + 2, none⟩ = some (.int .i64 st) ∧
        w.cell? ⟨a.block, a.off + i * 5 + 3, none⟩ = some (.int .i64 en) ∧ w.cell? ⟨a.block, a.off + i * 5 + 4, none⟩ = some kv ∧ Rep I w kv (if n then .nils else .slice false 5 (Tr.pvs kk))) : KidsAt I w (.slice (some a) len cap) false ks
theorem kids_of_rep {I : Imm} {w : World} {kv : Value} {n : Bool} {ks : List Tr} (hw : n = true → ks = []) (h : Rep I w kv (if n then .nils else .slice false 5 (Tr.pvs ks))) : KidsAt I w kv n ks := by
  cases n with
  | true =>
    rw [if_pos rfl] at h;obtain rfl := hw rfl;cases h;exact .nil
  | false =>
    rw [if_neg (by simp)] at h
    cases h with
    | slice cv h1 h2 h3 h4 h5 h6 h7 =>
      rw [Tr.AzU] at h1 h3 h4 h5 h6 h7;refine .row (by simpa using h1) h2 (fun hne => h3 (by simpa using hne)) fun i t ht => ?_
      have he : (ks.map Tr.pv)[i]? = some t.pv := by rw [List.getElem?_map, ht]; rfl
      obtain ⟨k, tx, st, en, nn, kk⟩ := t;have g0 := h7 i _ 0 (.int .i64 k) he (by simp [Tr.pv, PV.cells])
      have g1 := h7 i _ 1 (.str tx) he (by simp [Tr.pv, PV.cells])
      have g2 := h7 i _ 2 (.int .i64 st) he (by simp [Tr.pv, PV.cells])
      have g3 := h7 i _ 3 (.int .i64 en) he (by simp [Tr.pv, PV.cells])
      have g4 := h7 i _ 4 (if nn then .nils else .slice false 5 (Tr.pvs kk)) he (by simp [Tr.pv, PV.cells])
      have c0 := h6 i _ 0 (.int .i64 k) he (by simp [Tr.pv, PV.cells])
      have c1 := h6 i _ 1 (.str tx) he (by simp [Tr.pv, PV.cells])
      have c2 := h6 i _ 2 (.int .i64 st) he (by simp [Tr.pv, PV.cells])
      have c3 := h6 i _ 3 (.int .i64 en) he (by simp [Tr.pv, PV.cells])
      have c4 := h6 i _ 4 (if nn then .nils else .slice false 5 (Tr.pvs kk)) he (by simp [Tr.pv, PV.cells])
      have e0 := (RepT.one (bl := []) (.inl g0)).AxV;obtain ⟨s, e1, rfl⟩ := (RepT.one (bl := []) (.inl g1)).Az1;have e2 := (RepT.one (bl := []) (.inl g2)).AxV;have e3 := (RepT.one (bl := []) (.inl g3)).AxV;rw [e0] at c0; rw [e1] at c1; rw [e2] at c2; rw [e3] at c3;refine ⟨k, s, st, en, cv i 4, nn, kk, rfl, fun j hj => ?_, c0, c1, c2, c3, c4, g4⟩
      have hlen : (Tr.mk k s.data.toList st en nn kk).pv.cells.length = 5 := by simp [Tr.pv, PV.cells]
      exact h5 i _ j _ he (List.getElem?_eq_getElem (by rw [hlen]; exact hj))
theorem AjY {I : Imm} {w : World} {v : Value} {T : Tr} (h : Rep I w v T.pv) : ∃ (k : Int) (s : ByteArray) (st en : Int) (kv : Value) (n : Bool) (ks : List Tr), T = .mk k s.data.toList st en n ks ∧ v = nodeV k s st en kv ∧
    Rep I w kv (if n then .nils else .slice false 5 (Tr.pvs ks)) := by
  obtain ⟨k, tx, st, en, n, ks⟩ := T;rw [Tr.pv] at h;cases h with
  | agg hl hr =>
    rename_i cs;have h0 := hr 0 _ rfl;have h1 := hr 1 _ rfl;have h2 := hr 2 _ rfl;have h3 := hr 3 _ rfl;have h4 := hr 4 _ rfl
    match cs, hl, h0, h1, h2, h3, h4 with
    | ⟨[a, b, c, d, e]⟩, _, h0, h1, h2, h3, h4 =>
      have e0 := (RepT.one (bl := []) (.inl h0)).AxV;obtain ⟨s, e1, rfl⟩ := (RepT.one (bl := []) (.inl h1)).Az1;have e2 := (RepT.one (bl := []) (.inl h2)).AxV;have e3 := (RepT.one (bl := []) (.inl h3)).AxV;simp [Array.getD] at e0 e1 e2 e3 h4;subst e0 e1 e2 e3;exact ⟨k, s, st, en, e, n, ks, rfl, rfl, h4⟩
set_option maxHeartbeats 1000000 in
theorem nodes_in (F : Fence) (hF : F.fn 105) (hro : F.round = none) (n : Nat) (k : Int) (s : ByteArray) (st en : Int) (kv : Value) (w : World) :
    CallsIn F n Tryz.prog 105 #[nodeV k s st en kv] w fun e w' => e = .returned (.func (.func 163) #[] #[.pointer (some ⟨w.heap.size, 0, none⟩)]) ∧ w' = w.alloc (.cells #[.int .i64 k, .string s, .int .i64 st, .int .i64 en, kv] 24) := by
  refine callsIn_of_wp Tryz.func105 rfl hF ?_ hro
  simp only [Tryz.ntmps105, List.size_toArray, List.length_cons, List.length_nil, Nat.reduceAdd, Nat.reduceSub, Array.replicate_succ, Array.replicate_zero, List.push_toArray, List.append_toArray, List.nil_append, List.cons_append, nodeV]
  gi_wp2
  go_ret
  exact ⟨rfl, rfl⟩
theorem room_none {F : Fence} (hd : F.depth = none) (k : Nat) : F.room k := fun d h => by rw [hd] at h; cases h
theorem yield_any {F : Fence} (hd : F.depth = none) {m : Nat} (m' : Nat) {P : Program} {l : Nat} {args : Array Value} {W : World} {R : Ending → World → Prop} (h : YieldAt F m P l args W R) : YieldAt F m' P l args W R := by
  obtain ⟨fn, tmps, assign, body, hy, hR⟩ := h;exact ⟨fn, tmps, assign, body, hy, hR.1, fun c cs _ => hR.2 c cs (room_none hd _)⟩
def I4 (B b4 : Nat) : Imm := fun b _ => b < B ∧ b ≠ b4
def Kp4 (B b4 : Nat) (W W' : World) : Prop := W.heap.size ≤ W'.heap.size ∧ ∀ (k : Nat) (o : Obj), W.heap[k]? = some o → k ≠ b4 → (o.isCells = true ∨ k < B) → W'.heap[k]? = some o
theorem Kp4.trans {B b4 : Nat} {a b c : World} (h : Kp4 B b4 a b) (k : Kp4 B b4 b c) : Kp4 B b4 a c := ⟨Nat.le_trans h.1 k.1, fun i o ho hi hc => k.2 i o (h.2 i o ho hi hc) hi hc⟩
theorem Kp4.refl (B b4 : Nat) (a : World) : Kp4 B b4 a a := ⟨Nat.le_refl _, fun _ _ h _ _ => h⟩
theorem Kp4.alloc (B b4 : Nat) (w : World) (o : Obj) : Kp4 B b4 w (w.alloc o) := ⟨by rw [World.size_alloc]; omega, fun k o' h _ _ => by
  have : k < w.heap.size := by
    rcases Nat.lt_or_ge k w.heap.size with h' | h'
    · exact h'
    · rw [Array.getElem?_eq_none h'] at h; cases h
  rw [heap_alloc_old' _ _ _ this]; exact h⟩
structure Nd (Q : Tr → Prop) (B b4 : Nat) (w0 : World) where
  val : Value
  tr : Tr
  rep : Rep (I4 B b4) w0 val tr.pv
  wf : tr.wf
  ok : Q tr
def Lies (B b4 : Nat) (w0 W : World) : Prop := w0.heap.size ≤ W.heap.size ∧ ∀ k, k < B → k ≠ b4 → W.heap[k]? = w0.heap[k]?
theorem Lies.same {B b4 : Nat} {w0 W : World} (h : Lies B b4 w0 W) : Same (I4 B b4) w0 W := ⟨fun k o hk => cell_of_heap (h.2 k hk.1 hk.2), fun k hk => h.2 k hk.1 hk.2⟩
theorem Lies.kp {B b4 : Nat} {w0 W W' : World} (hB : B ≤ w0.heap.size) (h : Lies B b4 w0 W) (hk : Kp4 B b4 W W') : Lies B b4 w0 W' := by
  refine ⟨Nat.le_trans h.1 hk.1, fun k h1 h2 => ?_⟩
  have h3 := h.2 k h1 h2;rw [← h3];have hlt : k < w0.heap.size := by omega
  rw [Array.getElem?_eq_getElem hlt] at h3
  rw [h3];exact hk.2 k _ h3 h2 (.inr h1)
theorem Lies.alloc {B b4 : Nat} {w0 W : World} (hB : B ≤ w0.heap.size) (h : Lies B b4 w0 W) (o : Obj) : Lies B b4 w0 (W.alloc o) := h.kp hB (Kp4.alloc B b4 W o)
def VPost {Q : Tr → Prop} {B b4 : Nat} {w0 : World} (J Jx : List (Nd Q B b4 w0) → World → Prop) (pre : List (Nd Q B b4 w0)) (T : Tr) (W : World) (e : Ending) (W' : World) : Prop :=
  (e = .returned (.bool true) ∧ ∃ xs : List (Nd Q B b4 w0), xs.map Nd.tr = T.pre ∧ J (pre ++ xs) W' ∧ Kp4 B b4 W W') ∨ (e = .returned (.bool false) ∧ ∃ q, Jx q W')
theorem pres_take_succ : ∀ (ks : List Tr) (j : Nat) (t : Tr), ks[j]? = some t → Tr.pres (ks.take (j + 1)) = Tr.pres (ks.take j) ++ t.pre
  | [], j, t, h => by simp at h
  | k :: ks, 0, t, h => by simp at h; subst h; simp [Tr.pres]
  | k :: ks, j + 1, t, h => by
    have := pres_take_succ ks j t (by simpa using h)
    simp only [List.take_succ_cons, Tr.pres];rw [this]; simp
theorem pre_pos : ∀ (t : Tr), 1 ≤ t.pre.length
  | .mk k t a e n ks => by simp [Tr.pre]
theorem AjW : ∀ (ks : List Tr) (t : Tr), t ∈ ks → t.pre.length ≤ (Tr.pres ks).length
  | [], t, h => by cases h
  | k :: ks, t, h => by
    simp only [Tr.pres, List.length_append];rcases List.mem_cons.1 h with rfl | h
    · omega
    · have := AjW ks t h; omega
theorem mem_pres : ∀ (ks : List Tr) (t : Tr), t ∈ ks → ∀ u ∈ t.pre, u ∈ Tr.pres ks
  | [], t, h, u, hu => by cases h
  | k :: ks, t, h, u, hu => by
    simp only [Tr.pres, List.mem_append];rcases List.mem_cons.1 h with rfl | h
    · exact .inl hu
    · exact .inr (mem_pres ks t h u hu)
theorem pres_take_le (ks : List Tr) (j : Nat) : (Tr.pres (ks.take j)).length ≤ (Tr.pres ks).length := by
  induction ks generalizing j with
  | nil => simp
  | cons k ks ih =>
    cases j with
    | zero => simp [Tr.pres]
    | succ j => simp only [List.take_succ_cons, Tr.pres, List.length_append]; have := ih j; omega
theorem AjZ : ∀ (ks : List Tr), ks.length ≤ (Tr.pres ks).length
  | [] => by simp
  | k :: ks => by simp only [Tr.pres, List.length_append, List.length_cons]; have := AjZ ks; have := pre_pos k; omega
theorem rep_node {I : Imm} {w : World} {k : Int} {s : ByteArray} {st en : Int} {kv : Value} {n : Bool} {ks : List Tr} (h : Rep I w kv (if n then .nils else .slice false 5 (Tr.pvs ks))) : Rep I w (nodeV k s st en kv) (Tr.mk k s.data.toList st en n ks).pv := by
  rw [Tr.pv];refine .agg rfl fun i p hp => ?_
  match i with
  | 0 => simp at hp; subst hp; exact .int _ _
  | 1 => simp at hp; subst hp; exact .str _
  | 2 => simp at hp; subst hp; exact .int _ _
  | 3 => simp at hp; subst hp; exact .int _ _
  | 4 => simp at hp; subst hp; exact h
  | i + 5 => simp at hp
set_option maxRecDepth 100000 in
set_option maxHeartbeats 2000000 in
theorem visit_in {Q : Tr → Prop} (F : Fence) (hd : F.depth = none) (h133 : F.fn 164) (hro : F.round = none) (l B b4 N : Nat) (hN62 : N ≤ 4611686018427387904) (w0 : World) (hB : B ≤ w0.heap.size) (J Jx : List (Nd Q B b4 w0) → World → Prop) (hJa : ∀ s W o, J s W → J s (W.alloc o)) (hb4w : b4 < w0.heap.size)
    (hY : ∀ m pre (x : Nd Q B b4 w0) W, J pre W → pre.length < N → YieldAt F m Tryz.prog l #[x.val] W fun e W' => (e = .returned (.bool true) ∧ J (pre ++ [x]) W' ∧ Kp4 B b4 W W') ∨ (e = .returned (.bool false) ∧ Jx (pre ++ [x]) W')) :
    ∀ (sz : Nat) (T : Tr), T.pre.length ≤ sz → ∀ (n : Nat) (v : Value) (pre : List (Nd Q B b4 w0)) (W : World), Rep (I4 B b4) w0 v T.pv → T.wf → (∀ t ∈ T.pre, Q t) → Lies B b4 w0 W → J pre W → pre.length + T.pre.length ≤ N →
      CallsIn F n Tryz.prog 164 #[v, .func (.yield l) #[] #[]] W (VPost J Jx pre T W) := by
  intro sz
  induction sz with
  | zero => intro T hT; have := pre_pos T; omega
  | succ sz ih =>
    intro T hT n v pre W hrep hwf hQ hlies hJ hN;have hdd : ∀ k : Nat, (F.depth.isSome = true → 1 ≤ k) := fun k h => by rw [hd] at h; cases h
    obtain ⟨k, s, st, en, kv, nn, ks, rfl, rfl, hkr⟩ := AjY hrep;have hkids := kids_of_rep hwf.1 hkr;have hQ0 : Q (.mk k s.data.toList st en nn ks) := hQ _ (by simp [Tr.pre])
    obtain ⟨fn, tmps, assign, body, hy, hR⟩ := hY (n - 1) pre ⟨nodeV k s st en kv, .mk k s.data.toList st en nn ks, hrep, hwf, hQ0⟩ (W.alloc (.cells #[.int .i64 k, .string s, .int .i64 st, .int .i64 en, kv] 24)) (hJa _ _ _ hJ) (by simp [Tr.pre] at hN; omega)
    dsimp only [nodeV] at hy;have hb4 : W.heap.size ≠ b4 := by have := hlies.1; omega
    have hR' := RoundIn.mono hR (R' := fun e W2 => (e = .returned (.bool true) ∧ W2.cell? ⟨W.heap.size, 4, none⟩ = some kv ∧ Hid (J (pre ++ [⟨nodeV k s st en kv, .mk k s.data.toList st en nn ks, hrep, hwf, hQ0⟩]) W2 ∧ Kp4 B b4 W W2)) ∨ (e = .returned (.bool false) ∧ ∃ q, Jx q W2)) (by
      rintro e W2 (⟨rfl, hJ2, hK2⟩ | ⟨rfl, hx2⟩)
      · refine .inl ⟨rfl, ?_, hJ2, (Kp4.alloc B b4 W _).trans hK2⟩
        have := hK2.2 W.heap.size _ (heap_alloc_new' W _) hb4 (.inl rfl);simp [World.cell?, this]
      · exact .inr ⟨rfl, _, hx2⟩)
    clear hR;generalize hx0 : (⟨nodeV k s st en kv, .mk k s.data.toList st en nn ks, hrep, hwf, hQ0⟩ : Nd Q B b4 w0) = x0 at hR';have htr0 : x0.tr = .mk k s.data.toList st en nn ks := by rw [← hx0]
    clear hx0;cases hkids with
    | nil =>
      refine callsIn_of_wp Tryz.func164 rfl h133 ?_ hro
      simp only [Tryz.ntmps164, List.size_toArray, List.length_cons, List.length_nil, Nat.reduceAdd, Nat.reduceSub, Array.replicate_succ, Array.replicate_zero, List.push_toArray, List.append_toArray, List.nil_append, List.cons_append, nodeV]
      gi_wp2_with ((try refine ⟨hdd _, ?_⟩); refine hR'.mono ?_; clear hR'; rintro e W2 (⟨rfl, hc4, HJ2⟩ | ⟨rfl, q, hx2⟩))
      · gi_loopw [14] (fun i wr => i = .int .i64 0 ∧ wr = W2) (fun _ _ => 0)
        case atStart => exact ⟨rfl, rfl⟩
        case round =>
          obtain ⟨rfl, rfl⟩ := hrel
          gi_wp2
          go_ret
          exact .inl ⟨rfl, [x0], by simp [htr0, Tr.pre, Tr.pres], HJ2.out.1, HJ2.out.2⟩
      · go_ret
        exact .inr ⟨rfl, q, hx2⟩
    | @row ad len cap _ hl hcc hsp hrow =>
      obtain ⟨ab, ao, asp⟩ := ad;have HL := Lib.hid hl; clear hl;have HROW := Lib.hid hrow; clear hrow;have HSP := Lib.hid hsp; clear hsp;have HT0 := Lib.hid htr0; clear htr0;have HK := Lib.hid hkr; clear hkr;have HREP := Lib.hid hrep; clear hrep;have HWF := Lib.hid hwf; clear hwf;have HLIES := Lib.hid hlies; clear hlies;have HIH := Lib.hid ih; clear ih;have HQ := Lib.hid hQ; clear hQ;have HY := Lib.hid hY; clear hY;have HT := Lib.hid hT; clear hT;have HN := Lib.hid hN; clear hN;have HJA := Lib.hid hJa; clear hJa;refine callsIn_of_wp Tryz.func164 rfl h133 ?_ hro
      simp only [Tryz.ntmps164, List.size_toArray, List.length_cons, List.length_nil, Nat.reduceAdd, Nat.reduceSub, Array.replicate_succ, Array.replicate_zero, List.push_toArray, List.append_toArray, List.nil_append, List.cons_append, nodeV]
      gi_wp2_with ((try refine ⟨hdd _, ?_⟩); refine hR'.mono ?_; clear hR'; rintro e W2 (⟨rfl, hc4, HJ2⟩ | ⟨rfl, q, hx2⟩))
      · gi_loopw [14] (fun i wr => ∃ (j : Nat) (xs : List (Nd Q B b4 w0)), i = .int .i64 j ∧ j ≤ len ∧ Hid (xs.map Nd.tr = .mk k s.data.toList st en false ks :: Tr.pres (ks.take j)) ∧ Hid (J (pre ++ xs) wr ∧ Kp4 B b4 W wr)) (fun i _ => len - (intOf i).toNat)
        case atStart => exact ⟨0, [x0], rfl, Nat.zero_le _, (by simp [Hid, HT0.out, Tr.pres]), HJ2⟩
        case round =>
          obtain ⟨j, xs, rfl, hjl, HX, HJ⟩ := hrel;by_cases hlt : j < len
          · have hjk : j < ks.length := by have := HL.out; omega
            have htk : ks[j]? = some ks[j] := List.getElem?_eq_getElem hjk
            have hne : ks ≠ [] := fun e => by rw [e] at hjk; simp at hjk
            obtain rfl : asp = Option.none := HSP.out hne;obtain ⟨k', s', st', en', kv', n', kk', ht', hI', d0, d1, d2, d3, d4, hkr'⟩ := HROW.out j _ htk
            obtain ⟨ka, kn, kc, rfl⟩ : ∃ ka kn kc, kv' = .slice ka kn kc := by
              cases n' with
              | true => rw [if_pos rfl] at hkr'; cases hkr'; exact ⟨_, _, _, rfl⟩
              | false => rw [if_neg (by simp)] at hkr'; cases hkr'; exact ⟨_, _, _, rfl⟩
            have hlr : Lies B b4 w0 wr := HLIES.out.kp hB HJ.out.2
            have hcell : ∀ i v, i < 5 → w0.cell? ⟨ab, ao + j * 5 + i, Option.none⟩ = some v → wr.cell? ⟨ab, ao + j * 5 + i, Option.none⟩ = some v := fun i v hi hv => by
              rw [hlr.same.cell _ _ (hI' i hi)]; exact hv
            have c0 : wr.cell? ⟨ab, ao + j * 5, Option.none⟩ = some (.int .i64 k') := hcell 0 _ (by decide) d0
            have c1 := hcell 1 _ (by decide) d1
            have c2 := hcell 2 _ (by decide) d2
            have c3 := hcell 3 _ (by decide) d3
            have c4 := hcell 4 _ (by decide) d4
            clear d0 d1 d2 d3 d4 hcell;have hpl := AjW ks _ (List.mem_of_getElem? htk);have hps := pres_take_succ ks j _ htk;have hpt := pres_take_le ks (j + 1);rw [hps, List.length_append] at hpt
            have hxl : xs.length = 1 + (Tr.pres (ks.take j)).length := by
              have := congrArg List.length HX.out;simp at this; omega
            have hTl : (Tr.mk k s.data.toList st en false ks).pre.length = 1 + (Tr.pres ks).length := by simp [Tr.pre]; omega
            have hNl := HN.out;have hTsz := HT.out;have hll := AjZ ks;rw [hTl] at hNl hTsz;have hj62 : j + 1 ≤ 4611686018427387904 := by omega
            have hcall := HIH.out ks[j] (by omega) (n - 1) (nodeV k' s' st' en' (.slice ka kn kc)) (pre ++ xs) (wr.alloc (.cells #[.int .i64 k', .string s', .int .i64 st', .int .i64 en', .slice ka kn kc] 24))
              (by rw [ht']; exact rep_node hkr') (Tr.wfs_mem HWF.out.2 _ (List.mem_of_getElem? htk)) (fun t ht => HQ.out t (by rw [Tr.pre]; exact List.mem_cons_of_mem _ (mem_pres ks _ (List.mem_of_getElem? htk) t ht))) (hlr.alloc hB _) (HJA.out _ _ _ HJ.out.1) (by rw [List.length_append]; omega)
            have hcall' := hcall.mono (R' := fun e W3 => (e = .returned (.bool true) ∧ Hid (∃ ys : List (Nd Q B b4 w0), ys.map Nd.tr = (ks[j]).pre ∧ J (pre ++ xs ++ ys) W3 ∧ Kp4 B b4 W W3)) ∨ (e = .returned (.bool false) ∧ ∃ q, Jx q W3)) (by
              rintro e W3 (⟨rfl, ys, h1, h2, h3⟩ | h)
              · exact .inl ⟨rfl, ys, h1, h2, (HJ.out.2.trans (Kp4.alloc B b4 wr _)).trans h3⟩
              · exact .inr h)
            clear hcall;have HPS := Lib.hid hps;clear hps hpl hpt hxl hTl hNl hTsz hll hkr' hI' hlr htk hne;have HTT := Lib.hid ht'; clear ht';dsimp only [nodeV] at hcall'
            gi_wp2_with ((try refine ⟨hdd _, ?_⟩); gi_at_call 164; refine hcall'.mono ?_; clear hcall'; rintro e W3 (⟨rfl, HY3⟩ | ⟨rfl, q, hx3⟩))
            · obtain ⟨ys, hy1, hy2, hy3⟩ := HY3.out
              go_roundw
              case rel => exact ⟨j + 1, xs ++ ys, by go_num, by omega, (by simp only [Hid, List.map_append, HX.out, hy1, HPS.out, List.cons_append]), (by rw [List.append_assoc] at hy2; exact ⟨hy2, hy3⟩)⟩
              case measure => simp [intOf]; omega
            · go_ret
              exact .inr ⟨rfl, q, hx3⟩
          · gi_wp2
            go_ret
            have hj : j = ks.length := by have := HL.out; omega
            have hx := HX.out;rw [hj, List.take_length] at hx;exact .inl ⟨rfl, xs, by rw [hx]; simp [Tr.pre], HJ.out.1, HJ.out.2⟩
      · go_ret
        exact .inr ⟨rfl, q, hx2⟩
set_option maxHeartbeats 1000000 in
theorem nodes1_in {Q : Tr → Prop} (F : Fence) (hd : F.depth = none) (h132 : F.fn 163) (h133 : F.fn 164) (hro : F.round = none) (l B b4 bx n : Nat) (w0 : World) (hB : B ≤ w0.heap.size) (hb4w : b4 < w0.heap.size) (J Jx : List (Nd Q B b4 w0) → World → Prop) (hJa : ∀ s W o, J s W → J s (W.alloc o))
    (k : Int) (s : ByteArray) (st en : Int) (kv : Value) (T : Tr) (hN : T.pre.length ≤ 4611686018427387904)
    (hY : ∀ pre (x : Nd Q B b4 w0) W, J pre W → pre.length < T.pre.length → YieldAt F (n - 1) Tryz.prog l #[x.val] W fun e W' => (e = .returned (.bool true) ∧ J (pre ++ [x]) W' ∧ Kp4 B b4 W W') ∨ (e = .returned (.bool false) ∧ Jx (pre ++ [x]) W'))
    (W : World) (hbx : W.heap[bx]? = some (.cells #[.int .i64 k, .string s, .int .i64 st, .int .i64 en, kv] 24 (0, 0))) (hrep : Rep (I4 B b4) w0 (nodeV k s st en kv) T.pv) (hwf : T.wf) (hQ : ∀ t ∈ T.pre, Q t) (hlies : Lies B b4 w0 W) (h0 : J [] W) :
    CallsIn F n Tryz.prog 163 #[.func (.yield l) #[] #[], .pointer (some ⟨bx, 0, none⟩)] W fun e W' => (∃ v, e = .returned v) ∧ ((∃ ys, ys.map Nd.tr = T.pre ∧ J ys W') ∨ (∃ pre, True ∧ Jx pre W')) := by
  have hdd : ∀ k : Nat, (F.depth.isSome = true → 1 ≤ k) := fun k h => by rw [hd] at h; cases h
  have hp := visit_in F hd h133 hro l B b4 T.pre.length hN w0 hB J Jx hJa hb4w (fun m pre x W hj hl => yield_any hd m (hY pre x W hj hl)) T.pre.length T (Nat.le_refl _) (n - 1) (nodeV k s st en kv) [] W hrep hwf hQ hlies h0 (by simp)
  have c0 : W.cell? ⟨bx, 0, none⟩ = some (.int .i64 k) := by simp [World.cell?, hbx]
  have c1 : W.cell? ⟨bx, 1, none⟩ = some (.string s) := by simp [World.cell?, hbx]
  have c2 : W.cell? ⟨bx, 2, none⟩ = some (.int .i64 st) := by simp [World.cell?, hbx]
  have c3 : W.cell? ⟨bx, 3, none⟩ = some (.int .i64 en) := by simp [World.cell?, hbx]
  have c4 : W.cell? ⟨bx, 4, none⟩ = some kv := by simp [World.cell?, hbx]
  have hp' := hp.mono (R' := fun e W1 => (e = .returned (.bool true) ∧ Hid (∃ ys : List (Nd Q B b4 w0), ys.map Nd.tr = T.pre ∧ J ys W1)) ∨ (e = .returned (.bool false) ∧ ∃ q, Jx q W1)) (by
    rintro e W1 (⟨rfl, xs, h1, h2, _⟩ | h)
    · exact .inl ⟨rfl, xs, h1, h2⟩
    · exact .inr h)
  clear hp hbx hY hrep hwf hQ hlies;dsimp only [nodeV] at hp';refine callsIn_of_wp Tryz.func163 rfl h132 ?_ hro
  simp only [Tryz.ntmps163, List.size_toArray, List.length_cons, List.length_nil, Nat.reduceAdd, Nat.reduceSub, Array.replicate_succ, Array.replicate_zero, List.push_toArray, List.append_toArray, List.nil_append, List.cons_append]
  gi_wp2_with ((try refine ⟨hdd _, ?_⟩); gi_at_call 164; refine hp'.mono ?_; clear hp'; rintro e W1 (⟨rfl, HJ1⟩ | ⟨rfl, q, hx⟩))
  · go_end0
    exact ⟨⟨_, rfl⟩, .inl HJ1.out⟩
  · go_end0
    exact ⟨⟨_, rfl⟩, .inr ⟨q, trivial, hx⟩⟩
theorem nodes1_stops {Q : Tr → Prop} (F : Fence) (hd : F.depth = none) (h132 : F.fn 163) (h133 : F.fn 164) (hro : F.round = none) (B b4 bx n : Nat) (w0 : World) (hB : B ≤ w0.heap.size) (hb4w : b4 < w0.heap.size)
    (k : Int) (s : ByteArray) (st en : Int) (kv : Value) (T : Tr) (hN : T.pre.length ≤ 4611686018427387904) (hbx : w0.heap[bx]? = some (.cells #[.int .i64 k, .string s, .int .i64 st, .int .i64 en, kv] 24 (0, 0)))
    (hrep : Rep (I4 B b4) w0 (nodeV k s st en kv) T.pv) (hwf : T.wf) (hQ : ∀ t ∈ T.pre, Q t) :
    SeqStopsK F n Tryz.prog 163 #[.pointer (some ⟨bx, 0, none⟩)] (fun x : Nd Q B b4 w0 => #[x.val]) (Kp4 B b4) (fun ys => ys.map Nd.tr = T.pre) (fun _ => True) T.pre.length w0 := by
  intro l J Jx W hW hJ hJx hY h0
  have hlt : bx < w0.heap.size := by
    rcases Nat.lt_or_ge bx w0.heap.size with h' | h'
    · exact h'
    · rw [Array.getElem?_eq_none h'] at hbx; cases hbx
  refine nodes1_in F hd h132 h133 hro l B b4 bx n w0 hB hb4w J Jx (fun s W' o hs => hJ s W' _ none hs (World.grownBy_alloc W' o none) (fun r e => by cases e)) k s st en kv T hN hY W (by rw [hW.block bx hlt]; exact hbx) hrep hwf hQ ⟨hW.size, fun k hk _ => hW.block k (by omega)⟩ h0
end Go.Abs.Z
