/- A part of the proof: R1 R2. -/
import Derived.Test.YtkmhldloehaamaaGreatDoorSa
import Derived.Test.YtkmhldloehaamaaGreatDoorRows
import Derived.WalkKit
import Derived.ProofKit
import Derived.OpenShut
import Derived.JoinedCond
import Derived.Carry

set_option linter.unusedVariables false
set_option linter.unusedSimpArgs false
namespace Go.Abs.Z
open Go.Proofs Go.RowKit Go.ChangeShapes Go.WideShapes Go.ChangeAt
open Go.Proofs.YtkmhldloehaamaaGreatDoor
theorem n24 : Tryz.prog.cellsOf 24 = 5 := by kernel_rfl
theorem n22 : Tryz.prog.cellsOf 22 = 1 := by kernel_rfl
theorem n3 : Tryz.prog.cellsOf 3 = 1 := by kernel_rfl
theorem n9 : Tryz.prog.cellsOf 9 = 1 := by kernel_rfl
theorem len5 {α : Type} {l : List α} (h : l.length = 5) : ∃ a b c d e, l = [a, b, c, d, e] := by
  match l, h with
  | [a, b, c, d, e], _ => exact ⟨a, b, c, d, e, rfl⟩
section
variable {H : Type} {enc : TypeId × Value → H} {W : World} {base : Nat} {sp : Nat → Bool} {held : Bool}
theorem read_node {fuel : Nat} {cs : List Value} {x : DataW H × List MemPlace} (h : DataW.trod enc Tryz.prog W base sp held fuel 24 cs = some x) :
    ∃ (n : Nat) (k : Int) (s : ByteArray) (st en : Int) (kv : Value) (y : DataW H × List MemPlace), fuel = n + 1 ∧ cs = [.int .i64 k, .string s, .int .i64 st, .int .i64 en, kv] ∧
      x.1 = .agg [.lit (.int .i64 k), .lit (.string s.data.toList), .lit (.int .i64 st), .lit (.int .i64 en), y.1] ∧ DataW.trod enc Tryz.prog W base sp held n 22 [kv] = some y := by
  obtain ⟨xs, n, rfl, rfl, hl, hlen, hf⟩ := DataW.trod_struct Tryz.underlying24 h;rw [n24] at hl;obtain ⟨a, b, c, d, e, rfl⟩ := len5 hl;obtain ⟨x0, x1, x2, x3, x4, rfl⟩ := len5 (l := xs) hlen
  · have f0 := hf 0 _ rfl;have f1 := hf 1 _ rfl;have f2 := hf 2 _ rfl;have f3 := hf 3 _ rfl;have f4 := hf 4 _ rfl
    · simp [n3, n9, n22] at f0 f1 f2 f3 f4;obtain ⟨k, h0, rfl, _⟩ := DataW.trod_int Tryz.underlying3 f0;obtain ⟨s, h1, rfl, _⟩ := DataW.trod_string Tryz.underlying9 f1;obtain ⟨st, h2, rfl, _⟩ := DataW.trod_int Tryz.underlying3 f2;obtain ⟨en, h3, rfl, _⟩ := DataW.trod_int Tryz.underlying3 f3;cases h0; cases h1; cases h2; cases h3;exact ⟨n, k, s, st, en, e, x4, rfl, rfl, rfl, f4⟩
end
theorem cell_add {W : World} {a : Addr} {m j : Nat} {v : Value} (h : W.cell? ((a.add m).add j) = some v) : W.cell? ⟨a.block, a.off + m + j, none⟩ = some v ∧ a.block < W.heap.size ∧ (m + j = 0 → a.spot = none) := by
  obtain ⟨b, off, spot⟩ := a
  have hb : ((Addr.mk b off spot).add m).add j = ⟨b, off + m + j, if m + j = 0 then spot else none⟩ := by
    unfold Addr.add;by_cases h1 : m = 0 <;> by_cases h2 : j = 0 <;> simp [h1, h2]
  rw [hb] at h;unfold World.cell? at h ⊢;dsimp only at h ⊢
  split at h
  · rename_i c e f hh
    have hlt : b < W.heap.size := by
      rcases Nat.lt_or_ge b W.heap.size with h' | h'
      · exact h'
      · rw [Array.getElem?_eq_none h'] at hh; cases hh
    refine ⟨?_, hlt, fun h0 => ?_⟩
    · by_cases h0 : (if m + j = 0 then spot else none).isSome = true
      · rw [if_pos h0] at h; cases h
      · rw [if_neg h0] at h;simpa using h
    · rw [if_pos h0] at h;cases spot with
      | none => rfl
      | some s => simp at h
  · cases h
theorem list_of {α : Type} {Q : Nat → α → Prop} : ∀ (n : Nat), (∀ i, i < n → ∃ t, Q i t) → ∃ l : List α, l.length = n ∧ ∀ (i : Nat) (t : α), l[i]? = some t → Q i t
  | 0, _ => ⟨[], rfl, fun i t h => by simp at h⟩
  | n + 1, h => by
    obtain ⟨l, hl, hq⟩ := list_of n fun i hi => h i (by omega)
    obtain ⟨t, ht⟩ := h n (by omega)
    refine ⟨l ++ [t], by simp [hl], fun i u hu => ?_⟩
    rcases Nat.lt_or_ge i n with hi | hi
    · rw [List.getElem?_append_left (by omega)] at hu; exact hq i u hu
    · rw [List.getElem?_append_right (by omega)] at hu
      have : i - l.length = 0 := by
        rcases Nat.eq_zero_or_pos (i - l.length) with h0 | h0
        · exact h0
        · rw [List.getElem?_eq_none (by simp; omega)] at hu; cases hu
      rw [this] at hu;cases hu;have : i = n := by omega
      rw [this]; exact ht
theorem pres_bulk {H : Type} : ∀ (ks : List Tr) (es : List (DataW H)), ks.length = es.length → (∀ (i : Nat) (t : Tr) (e : DataW H), ks[i]? = some t → es[i]? = some e → t.pre.length ≤ Rows.uptoBulk e) → (Tr.pres ks).length ≤ Rows.uptoBulkAll es
  | [], _, _, _ => by simp [Tr.pres]
  | k :: ks, [], h, _ => by simp at h
  | k :: ks, e :: es, h, hq => by
    have h1 := hq 0 k e rfl rfl;have h2 := pres_bulk ks es (by simpa using h) fun i t e' ht he => hq (i + 1) t e' (by simpa using ht) (by simpa using he)
    simp only [Tr.pres, List.length_append, Rows.uptoBulkAll];omega
theorem cellsAt5 {W : World} {base : Nat} {a : Addr} {m : Nat} {vs : List Value} (h : W.cells? base (a.add m) 5 = some vs) : ∀ (j : Nat) (v : Value), vs[j]? = some v → W.cell? ⟨a.block, a.off + m + j, none⟩ = some v ∧ a.block < W.heap.size ∧ (m + j = 0 → a.spot = none) := by
  intro j v hv;unfold World.cells? at h
  split at h
  · have hl := mapM_some_length h
    have hj : j < 5 := by
      rcases Nat.lt_or_ge j 5 with h' | h'
      · exact h'
      · rw [List.getElem?_eq_none (by rw [hl]; simpa using h')] at hv; cases hv
    have := mapM_some_get h j j (by simp [hj])
    rw [hv] at this;exact cell_add this
  · cases h
theorem wfs_of : ∀ {ks : List Tr}, (∀ (i : Nat) (t : Tr), ks[i]? = some t → t.wf) → Tr.wfs ks
  | [], _ => trivial
  | t :: ts, h => ⟨h 0 t rfl, wfs_of fun i u hu => h (i + 1) u (by simpa using hu)⟩
def IW (W : World) : Imm := fun b _ => b < W.heap.size
theorem read_tree {H : Type} {enc : TypeId × Value → H} {W : World} {base : Nat} {sp : Nat → Bool} {held : Bool} : ∀ (fuel : Nat) (cs : List Value) (x : DataW H × List MemPlace), DataW.trod enc Tryz.prog W base sp held fuel 24 cs = some x →
    ∃ (T : Tr) (k : Int) (s : ByteArray) (st en : Int) (kv : Value), cs = [.int .i64 k, .string s, .int .i64 st, .int .i64 en, kv] ∧ Rep (IW W) W (nodeV k s st en kv) T.pv ∧ T.wf ∧ T.pre.length ≤ Rows.uptoBulk x.1 := by
  intro fuel
  induction fuel using Nat.strongRecOn with
  | _ fuel ih =>
    intro cs x h;obtain ⟨n, k, s, st, en, kv, y, hn, rfl, hx, hy⟩ := read_node h;subst hn;rcases DataW.trod_slice Tryz.underlying22 hy with ⟨hkv, rfl⟩ | ⟨a, len, cap, elems, rest, m, rfl, hkv, rfl, _, hcap, _, hlen, hel, _, _⟩
    · cases hkv;refine ⟨.mk k s.data.toList st en true [], k, s, st, en, _, rfl, rep_node (n := true) .nils, ⟨fun _ => rfl, trivial⟩, ?_⟩
      rw [hx];simp [Tr.pre, Tr.pres, Rows.uptoBulk]
    · cases hkv
      have hall : ∀ i, i < len → ∃ t : Tr, ∃ (k : Int) (s : ByteArray) (st en : Int) (kv : Value) (e : DataW H × List MemPlace), elems[i]? = some e ∧ W.cells? base (a.add (i * 5)) 5 = some [.int .i64 k, .string s, .int .i64 st, .int .i64 en, kv] ∧
          Rep (IW W) W (nodeV k s st en kv) t.pv ∧ t.wf ∧ t.pre.length ≤ Rows.uptoBulk e.1 := by
        intro i hi;have hi' := hel i hi;rw [n24] at hi';have hsome : elems[i]? = some (elems[i]'(by omega)) := by simp [hlen, hi]
        rw [hsome] at hi';obtain ⟨cs', hcs, htr⟩ := Option.bind_eq_some_iff.1 hi';obtain ⟨T, k, s, st, en, kv, rfl, h1, h2, h3⟩ := ih m (by omega) cs' _ htr
        exact ⟨T, k, s, st, en, kv, _, hsome, hcs, h1, h2, h3⟩
      obtain ⟨ks, hkl, hks⟩ := list_of len hall
      have hat : ∀ (i : Nat) (t : Tr) (j : Nat) (p : PV), ks[i]? = some t → t.pv.cells[j]? = some p → ∃ v, W.cell? ⟨a.block, a.off + i * 5 + j, none⟩ = some v ∧ Rep (IW W) W v p ∧ a.block < W.heap.size ∧ (i * 5 + j = 0 → a.spot = none) := by
        intro i t j p ht hp;obtain ⟨k, s, st, en, kv, e, _, hcs, hrep, _, _⟩ := hks i t ht;obtain ⟨k', s', st', en', kv', nn, kk, rfl, hv, hkr⟩ := AjY hrep;cases hv;have hc := cellsAt5 hcs;simp only [Tr.pv, PV.cells] at hp
        match j, hp with
        | 0, hp => cases hp; exact ⟨_, (hc 0 _ rfl).1, .int _ _, (hc 0 _ rfl).2.1, (hc 0 _ rfl).2.2⟩
        | 1, hp => cases hp; exact ⟨_, (hc 1 _ rfl).1, .str _, (hc 1 _ rfl).2.1, (hc 1 _ rfl).2.2⟩
        | 2, hp => cases hp; exact ⟨_, (hc 2 _ rfl).1, .int _ _, (hc 2 _ rfl).2.1, (hc 2 _ rfl).2.2⟩
        | 3, hp => cases hp; exact ⟨_, (hc 3 _ rfl).1, .int _ _, (hc 3 _ rfl).2.1, (hc 3 _ rfl).2.2⟩
        | 4, hp => cases hp; exact ⟨_, (hc 4 _ rfl).1, hkr, (hc 4 _ rfl).2.1, (hc 4 _ rfl).2.2⟩
        | j + 5, hp => simp at hp
      have hget : ∀ (i : Nat) (e : PV), (Tr.pvs ks)[i]? = some e → ∃ t, ks[i]? = some t ∧ e = t.pv := by
        intro i e he;rw [Tr.AzU, List.getElem?_map] at he
        obtain ⟨t, ht, rfl⟩ := Option.map_eq_some_iff.1 he;exact ⟨t, ht, rfl⟩
      refine ⟨.mk k s.data.toList st en false ks, k, s, st, en, _, rfl, rep_node (n := false) ?_, ⟨fun h => (by cases h), ?_⟩, ?_⟩
      · refine .slice (fun i j => (W.cell? ⟨a.block, a.off + i * 5 + j, none⟩).getD undef) (by rw [pvs_len, hkl]) hcap ?_ ?_ ?_ ?_ ?_
        · intro hne;cases ks with
          | nil => exact absurd rfl hne
          | cons t ts =>
            have h5 : (0 : Nat) < t.pv.cells.length := by rw [Tr.pv_five]; omega
            obtain ⟨_, _, _, _, hsp⟩ := hat 0 t 0 _ rfl (List.getElem?_eq_getElem h5)
            exact hsp rfl
        · intro i e he;obtain ⟨t, _, rfl⟩ := hget i e he;exact Tr.pv_five t
        · intro i e j p he hp;obtain ⟨t, ht, rfl⟩ := hget i e he;obtain ⟨_, _, _, hlt, _⟩ := hat i t j p ht hp;exact hlt
        · intro i e j p he hp;obtain ⟨t, ht, rfl⟩ := hget i e he;obtain ⟨v, hv, _⟩ := hat i t j p ht hp;rw [hv]; rfl
        · intro i e j p he hp;obtain ⟨t, ht, rfl⟩ := hget i e he;obtain ⟨v, hv, hr, _⟩ := hat i t j p ht hp;rw [hv]; exact hr
      · exact wfs_of fun i t ht => by
          obtain ⟨_, _, _, _, _, _, _, _, _, hw, _⟩ := hks i t ht;exact hw
      · have hb := pres_bulk ks (elems.map (·.1)) (by simp [hkl, hlen]) fun i t e ht he => by
          obtain ⟨_, _, _, _, _, e', he', _, _, _, hl⟩ := hks i t ht;rw [List.getElem?_map, he'] at he
          cases he;exact hl
        rw [hx];simp only [Tr.pre, List.length_cons, Rows.uptoBulk, Rows.uptoBulkAll];omega
end Go.Abs.Z

namespace Go.Abs.Z
open Go.Proofs Go.RowKit Go.ChangeShapes Go.WideShapes Go.ChangeAt
open Go.Proofs.YtkmhldloehaamaaGreatDoor
set_option linter.unusedVariables false
theorem laidOut : laidOutB Tryz.prog = true := by kernel_rfl
theorem own : ownKnob Tryz.prog.godebug = none := by kernel_rfl
theorem readable24 : Tryz.prog.readableRec 24 = true := by kernel_rfl
theorem row24 : 24 < Tryz.prog.types.size := of_decide_eq_true (by kernel_rfl)
theorem wide_eq : FW none = Fence.wide := rfl
theorem post_below {H : Type} {enc : TypeId × Value → H} {P : Program} {f : Func} {s : ChangeSpec} {apart fresh handsOn again : Bool} {W W' : World} {args : Array Value} {v : Value} {ds gs : List (DataW H)} {before : List MemPlace}
    (hW : DataW.Whole enc P f.params.toList s.vars apart W args.toList ds gs before) (hv : s.vars = []) (hfn : (s.fn H (ds ++ gs)).args = ds) (hfv : (s.fn H (ds ++ gs)).vars = [])
    (hres : ∀ (b : Nat) (sp : Nat → Bool) (hd : Bool), DataW.TrodAll enc P W' b sp hd f.resultTypes.toList (v.resultList f.resultTypes.size) (s.fn H (ds ++ gs)).results [])
    (hargs : ∀ sp : Nat → Bool, (∀ p ∈ before, sp p.block = true) → DataW.TrodAll enc P W' 0 sp true f.params.toList args.toList ds before)
    (hb : Below W.heap.size W W')
    (hok : ∀ (j : Nat) (t : TypeId) (r : Value), f.resultTypes[j]? = some t → (v.resultList f.resultTypes.size)[j]? = some r → Value.okWide P W' .any 0 t r) :
    s.post enc P f apart fresh handsOn again W args v W' := by
  have hvar : ∀ sp : Nat → Bool, DataW.TrodVars enc P W' sp s.vars (s.fn H (ds ++ gs)).vars [] := fun sp => by rw [hv, hfv]; rfl
  have hlt : ∀ p ∈ before, p.block < W.heap.size := fun p hp => hW.lt p hp
  have hold : ∀ p ∈ before, (fun b => decide (b < W.heap.size)) p.block = true := fun p hp => by simpa using hlt p hp
  refine ⟨ds, gs, before, [], before, [], hW, hres _ _ _, by rw [hfn]; exact hargs _ hold, hvar _, World.keptBut_mono (fun p hp => ⟨hp, ?_⟩) (hb.frame (· ∈ before)), fun _ => ?_⟩
  · exact Or.inr (.inl hp)
  · obtain ⟨_, _, _, _, _, hz, hn⟩ := hW;refine ⟨hok, _, _, ([] ++ before) ++ [], ⟨[] ++ before, [], trodAll_append (hargs _ (fun _ _ => rfl)) (hres _ _ _), hvar _, rfl, ?_, ?_⟩, ?_⟩
    · intro b off hp;have hp' : MemPlace.cell b off ∈ before := by simpa using hp
      rw [hb.frozen (hlt _ hp')];exact hz b off hp'
    · intro ha;simpa using hn ha
    · intro p hp _;simpa using hp
theorem node_val {v : Value} {k : Int} {s : ByteArray} {st en : Int} {kv : Value} (h : v.cells.toList = [.int .i64 k, .string s, .int .i64 st, .int .i64 en, kv]) : v = nodeV k s st en kv := by
  cases v with
  | agg cs =>
    simp only [Value.cells] at h;rw [nodeV, ← Array.toList_inj.1 (show cs.toList = #[Value.int .i64 k, .string s, .int .i64 st, .int .i64 en, kv].toList from h)]
  | _ => simp [Value.cells] at h
theorem read_arg {H : Type} {enc : TypeId × Value → H} {W : World} {base : Nat} {sp : Nat → Bool} {held : Bool} {v : Value} {d : DataW H} {p : List MemPlace} (h : DataW.Trod enc Tryz.prog W base sp held 24 v d p) :
    ∃ T : Tr, Rep (IW W) W v T.pv ∧ T.wf ∧ T.pre.length ≤ Rows.uptoBulk d := by
  obtain ⟨n, hn⟩ := h;obtain ⟨T, k, s, st, en, kv, hc, hr, hw, hl⟩ := read_tree n _ _ hn;rw [node_val hc];exact ⟨T, hr, hw, hl⟩
theorem arg_stays {H : Type} {enc : TypeId × Value → H} {W W' : World} {v : Value} {d : DataW H} {p : List MemPlace} (h : DataW.Trod enc Tryz.prog W 0 (fun _ => true) true 24 v d p) (hb : Below W.heap.size W W') (hlt : ∀ x ∈ p, x.block < W.heap.size)
    (sp : Nat → Bool) (hs : ∀ x ∈ p, sp x.block = true) : DataW.Trod enc Tryz.prog W' 0 sp true 24 v d p :=
  WideElems.Trod_stays laidOut readable24 row24 h (fun x hx => hb.same (hlt x hx)) hs
theorem pre_of (W : World) : Pre (fun b => b < W.heap.size) ⟨IW W, fun _ => none, []⟩ W [] :=
  ⟨fun b x h => h, fun b h => h, fun b tag h => (by cases h), fun id cs h => (by simp at h), rfl⟩
theorem row_of {n : Nat} (h : n ≤ 1048576) : n ≤ Ax1 := Nat.le_trans h (by decide)
end Go.Abs.Z
