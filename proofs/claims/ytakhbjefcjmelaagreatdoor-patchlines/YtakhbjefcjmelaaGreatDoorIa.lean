/- A part of the proof: I1 I2. -/
import Derived.Test.YtakhbjefcjmelaaGreatDoorPb

set_option linter.unusedVariables false
set_option linter.unusedSimpArgs false
namespace Go.Abs.Z
open Go.Proofs Go.RowKit Go.Shelf
set_option linter.unusedVariables false
attribute [local go_sem] Oper.semAt_some
theorem sl_val {I : Imm} {w : World} {v : Value} {p : PV} (h : Rep I w v p) (hp : isSl' p = true) : ∃ a n c, v = .slice a n c := by
  cases h <;> first | exact ⟨_, _, _, rfl⟩ | cases hp
def editV (a b : Option Addr) (n m : Nat) (c d : Nat) (i1 i2 i3 i4 i5 : Int) : Value := .agg #[.slice a n c, .int .i64 i1, .int .i64 i2, .slice b m d, .int .i64 i3, .int .i64 i4, .int .i64 i5]
theorem edit_cases {e : PV} (h : editP e = true) : ∃ p i1 i2 q i3 i4 i5, e = .agg [p, .int .i64 i1, .int .i64 i2, q, .int .i64 i3, .int .i64 i4, .int .i64 i5] ∧ isSl' p = true ∧ isSl' q = true := by
  unfold editP at h
  split at h
  · rw [Bool.and_eq_true] at h; exact ⟨_, _, _, _, _, _, _, rfl, h.1, h.2⟩
  · cases h
structure EditAt (I : Imm) (w : World) (b o : Nat) (e : PV) (u : Value) : Prop where
  rep : Rep I w u e
  cells : ∃ (x y : Option Addr) (n m c d : Nat) (i1 i2 i3 i4 i5 : Int), u = editV x y n m c d i1 i2 i3 i4 i5 ∧ w.cell? ⟨b, o, none⟩ = some (.slice x n c) ∧ w.cell? ⟨b, o + 1, none⟩ = some (.int .i64 i1) ∧ w.cell? ⟨b, o + 2, none⟩ = some (.int .i64 i2) ∧
    w.cell? ⟨b, o + 3, none⟩ = some (.slice y m d) ∧ w.cell? ⟨b, o + 4, none⟩ = some (.int .i64 i3) ∧ w.cell? ⟨b, o + 5, none⟩ = some (.int .i64 i4) ∧ w.cell? ⟨b, o + 6, none⟩ = some (.int .i64 i5)
  I : ∀ i, i < 7 → I b (some (o + i))
theorem edit_at {I : Imm} {w : World} {a : Addr} {len cap : Nat} {ow : Bool} {es : List PV} (h : Rep I w (.slice (some a) len cap) (.slice ow 7 es)) {j : Nat} {e : PV} (hj : es[j]? = some e) (he : editP e = true) : ∃ u, EditAt I w a.block (a.off + j * 7) e u := by
  obtain ⟨p, i1, i2, q, i3, i4, i5, rfl, hp, hq⟩ := edit_cases he
  cases h with
  | slice cv h1 h2 h3 h4 h5 h6 h7 =>
    have g0 := h7 j _ 0 _ hj rfl
    have g3 := h7 j _ 3 _ hj rfl
    have c0 := h6 j _ 0 _ hj rfl
    have c1 := h6 j _ 1 _ hj rfl
    have c2 := h6 j _ 2 _ hj rfl
    have c3 := h6 j _ 3 _ hj rfl
    have c4 := h6 j _ 4 _ hj rfl
    have c5 := h6 j _ 5 _ hj rfl
    have c6 := h6 j _ 6 _ hj rfl
    have e1 := (RepT.one (bl := Bl.nil) (.inl (h7 j _ 1 _ hj rfl))).int_inv
    have e2 := (RepT.one (bl := Bl.nil) (.inl (h7 j _ 2 _ hj rfl))).int_inv
    have e4 := (RepT.one (bl := Bl.nil) (.inl (h7 j _ 4 _ hj rfl))).int_inv
    have e5 := (RepT.one (bl := Bl.nil) (.inl (h7 j _ 5 _ hj rfl))).int_inv
    have e6 := (RepT.one (bl := Bl.nil) (.inl (h7 j _ 6 _ hj rfl))).int_inv
    obtain ⟨x, n, c, ex⟩ := sl_val g0 hp
    obtain ⟨y, m, d, ey⟩ := sl_val g3 hq
    rw [ex] at c0 g0; rw [ey] at c3 g3
    rw [e1] at c1; rw [e2] at c2; rw [e4] at c4; rw [e5] at c5; rw [e6] at c6
    refine ⟨editV x y n m c d i1 i2 i3 i4 i5, ?_, ⟨x, y, n, m, c, d, i1, i2, i3, i4, i5, rfl, c0, c1, c2, c3, c4, c5, c6⟩, fun i hi => ?_⟩
    · refine .agg rfl fun i r hr => ?_
      match i with
      | 0 => simp at hr; subst hr; exact g0
      | 1 => simp at hr; subst hr; exact .int _ _
      | 2 => simp at hr; subst hr; exact .int _ _
      | 3 => simp at hr; subst hr; exact g3
      | 4 => simp at hr; subst hr; exact .int _ _
      | 5 => simp at hr; subst hr; exact .int _ _
      | 6 => simp at hr; subst hr; exact .int _ _
      | i + 7 => simp at hr
    · have hl : (PV.agg [p, .int .i64 i1, .int .i64 i2, q, .int .i64 i3, .int .i64 i4, .int .i64 i5]).cells.length = 7 := rfl
      exact h5 j _ i _ hj (List.getElem?_eq_getElem (by rw [hl]; exact hi))
set_option maxRecDepth 100000 in
set_option maxHeartbeats 2000000 in
theorem values_in (F : Fence) (hd : F.depth = none) (hfn : ∀ f, F.fn f) (hro : F.round = none) (n l : Nat) (I : Imm) (w0 : World) (bx off : Nat) (a : Addr) (len cap : Nat) (es : List PV) (vs : List Value) (hlen : len = es.length) (hvl : vs.length = len) (hsp : len ≠ 0 → a.spot = none) (h62 : len ≤ 1000000000)
    (hat : ∀ (j : Nat) (e : PV) (u : Value), es[j]? = some e → vs[j]? = some u → EditAt I w0 a.block (a.off + j * 7) e u) (S : List (Array Value) → (Nat → Prop) → World → Prop) (hS : Stg I w0 S)
    (hY : YOk F Tryz.prog l (vs.map fun u => #[u]) S) (W : World) (h0 : S [] (fun b => b < W.heap.size) W) (c0 : W.cell? ⟨bx, off, none⟩ = some (.slice (some a) len cap)) :
    CallsIn F n Tryz.prog 121 #[.func (.yield l) #[] #[], .pointer (some ⟨bx, off, none⟩)] W fun e W' => (∃ v, e = .returned v) ∧ ∃ O, S (vs.map fun u => #[u]) O W' := by
  have hdd : ∀ k : Nat, (F.depth.isSome = true → 1 ≤ k) := fun k h => by rw [hd] at h; cases h
  have h114 : F.fn 121 := hfn 121
  obtain ⟨ab, ao, asp⟩ := a
  have HL := Lib.hid hlen; clear hlen
  have HV := Lib.hid hvl; clear hvl
  have HSP := Lib.hid hsp; clear hsp
  have HAT := Lib.hid hat; clear hat
  have HS := Lib.hid hS; clear hS
  have HY := Lib.hid hY; clear hY
  have H0 := Lib.hid h0; clear h0
  have hlen62 : len < 4611686018427387904 := by omega
  refine callsIn_of_wp Tryz.func121 rfl h114 ?_ hro
  simp only [Tryz.ntmps121, List.size_toArray, List.length_cons, List.length_nil, Nat.reduceAdd, Nat.reduceSub, Array.replicate_succ, Array.replicate_zero, List.push_toArray, List.append_toArray, List.nil_append, List.cons_append]
  gi_wp2
  gi_loopw [7] (fun i wr => ∃ (j : Nat), i = .int .i64 j ∧ j ≤ len ∧ Hid (∃ (O' : Nat → Prop), S ((vs.take j).map fun u => #[u]) O' wr)) (fun i _ => len - (intOf i).toNat)
  case atStart => exact ⟨0, rfl, Nat.zero_le _, Lib.hid ⟨_, H0.out⟩⟩
  case round =>
    obtain ⟨j, rfl, hjl, HJ⟩ := hrel
    by_cases hlt : j < len
    · obtain ⟨O', hs'⟩ := HJ.out
      have hje : j < es.length := by have := HL.out; omega
      have hjv : j < vs.length := by have := HV.out; omega
      obtain rfl : asp = Option.none := HSP.out (by omega)
      obtain ⟨hr, ⟨x, y, n1, m1, q1, q2, i1, i2, i3, i4, i5, eu, d0, d1, d2, d3, d4, d5, d6⟩, hI'⟩ := HAT.out j es[j] vs[j] (List.getElem?_eq_getElem hje) (List.getElem?_eq_getElem hjv)
      have hsm := HS.out.same _ _ _ hs'
      have hcell : ∀ i v, i < 7 → w0.cell? ⟨ab, ao + j * 7 + i, Option.none⟩ = some v → wr.cell? ⟨ab, ao + j * 7 + i, Option.none⟩ = some v := fun i v hi hv => by
        rw [hsm.cell _ _ (hI' i hi)]; exact hv
      have k0 : wr.cell? ⟨ab, ao + j * 7, Option.none⟩ = some (.slice x n1 q1) := hcell 0 _ (by decide) d0
      have k1 := hcell 1 _ (by decide) d1
      have k2 := hcell 2 _ (by decide) d2
      have k3 := hcell 3 _ (by decide) d3
      have k4 := hcell 4 _ (by decide) d4
      have k5 := hcell 5 _ (by decide) d5
      have k6 := hcell 6 _ (by decide) d6
      obtain ⟨fn, tmps, assign, body, hy, hR⟩ := HY.out (n - 1) ((vs.take j).map fun u => #[u]) #[vs[j]] ((vs.drop (j + 1)).map fun u => #[u]) O' (wr.alloc (.cells #[.slice x n1 q1, .int .i64 i1, .int .i64 i2, .slice y m1 q2, .int .i64 i3, .int .i64 i4, .int .i64 i5] 44)) (by
        have := List.take_append_drop j vs
        rw [List.drop_eq_getElem_cons hjv] at this
        have h9 := congrArg (List.map fun u => (#[u] : Array Value)) this
        rw [List.map_append, List.map_cons] at h9
        exact h9.symm) (HS.out.alloc _ _ _ _ hs')
      rw [eu] at hy
      dsimp only [editV] at hy
      have hR' := RoundIn.mono hR (R' := fun e W2 => e = .returned (.bool true) ∧ Hid (∃ O', S ((vs.take (j + 1)).map fun u => #[u]) O' W2)) (by
        rintro e W2 ⟨rfl, O2, h1, _⟩
        refine ⟨rfl, O2, ?_⟩
        rw [List.take_succ_eq_append_getElem hjv, List.map_append]
        exact h1)
      clear hR d0 d1 d2 d3 d4 d5 d6 hcell hsm hr hI' eu hs' hje hjv
      gi_wp2_with ((try refine ⟨hdd _, ?_⟩); refine hR'.mono ?_; clear hR'; rintro e W2 ⟨rfl, HJ2⟩)
      go_roundw
      case rel => exact ⟨j + 1, by go_num, by omega, HJ2⟩
      case measure => simp [intOf]; omega
    · gi_wp2
      go_end0
      obtain ⟨O', hs'⟩ := HJ.out
      have e : vs.take j = vs := List.take_of_length_le (by have := HV.out; omega)
      rw [e] at hs'
      exact ⟨⟨_, rfl⟩, O', hs'⟩
end Go.Abs.Z

namespace Go.Abs.Z
open Go.Proofs Go.RowKit Go.Shelf
set_option linter.unusedVariables false
attribute [local go_sem] Oper.semAt_some
def numbV (a b : Option Addr) (n m : Nat) (c d : Nat) (i1 i2 i3 i4 i5 i6 : Int) : Value := .agg #[.slice a n c, .int .i64 i1, .int .i64 i2, .slice b m d, .int .i64 i3, .int .i64 i4, .int .i64 i5, .int .i64 i6]
theorem numb_cases {e : PV} (h : numbP e = true) : ∃ p i1 i2 q i3 i4 i5 i6, e = .agg [p, .int .i64 i1, .int .i64 i2, q, .int .i64 i3, .int .i64 i4, .int .i64 i5, .int .i64 i6] ∧ isSl' p = true ∧ isSl' q = true := by
  unfold numbP at h
  split at h
  · rw [Bool.and_eq_true] at h; exact ⟨_, _, _, _, _, _, _, _, rfl, h.1, h.2⟩
  · cases h
structure NumbAt (I : Imm) (w : World) (b o : Nat) (e : PV) (u : Value) : Prop where
  rep : Rep I w u e
  cells : ∃ (x y : Option Addr) (n m c d : Nat) (i1 i2 i3 i4 i5 i6 : Int), u = numbV x y n m c d i1 i2 i3 i4 i5 i6 ∧ w.cell? ⟨b, o, none⟩ = some (.slice x n c) ∧ w.cell? ⟨b, o + 1, none⟩ = some (.int .i64 i1) ∧ w.cell? ⟨b, o + 2, none⟩ = some (.int .i64 i2) ∧
    w.cell? ⟨b, o + 3, none⟩ = some (.slice y m d) ∧ w.cell? ⟨b, o + 4, none⟩ = some (.int .i64 i3) ∧ w.cell? ⟨b, o + 5, none⟩ = some (.int .i64 i4) ∧ w.cell? ⟨b, o + 6, none⟩ = some (.int .i64 i5) ∧ w.cell? ⟨b, o + 7, none⟩ = some (.int .i64 i6)
  I : ∀ i, i < 8 → I b (some (o + i))
theorem numb_at {I : Imm} {w : World} {a : Addr} {len cap : Nat} {ow : Bool} {es : List PV} (h : Rep I w (.slice (some a) len cap) (.slice ow 8 es)) {j : Nat} {e : PV} (hj : es[j]? = some e) (he : numbP e = true) : ∃ u, NumbAt I w a.block (a.off + j * 8) e u := by
  obtain ⟨p, i1, i2, q, i3, i4, i5, i6, rfl, hp, hq⟩ := numb_cases he
  cases h with
  | slice cv h1 h2 h3 h4 h5 h6 h7 =>
    have g0 := h7 j _ 0 _ hj rfl
    have g3 := h7 j _ 3 _ hj rfl
    have c0 := h6 j _ 0 _ hj rfl
    have c1 := h6 j _ 1 _ hj rfl
    have c2 := h6 j _ 2 _ hj rfl
    have c3 := h6 j _ 3 _ hj rfl
    have c4 := h6 j _ 4 _ hj rfl
    have c5 := h6 j _ 5 _ hj rfl
    have c6 := h6 j _ 6 _ hj rfl
    have c7 := h6 j _ 7 _ hj rfl
    have e1 := (RepT.one (bl := Bl.nil) (.inl (h7 j _ 1 _ hj rfl))).int_inv
    have e2 := (RepT.one (bl := Bl.nil) (.inl (h7 j _ 2 _ hj rfl))).int_inv
    have e4 := (RepT.one (bl := Bl.nil) (.inl (h7 j _ 4 _ hj rfl))).int_inv
    have e5 := (RepT.one (bl := Bl.nil) (.inl (h7 j _ 5 _ hj rfl))).int_inv
    have e6 := (RepT.one (bl := Bl.nil) (.inl (h7 j _ 6 _ hj rfl))).int_inv
    have e7 := (RepT.one (bl := Bl.nil) (.inl (h7 j _ 7 _ hj rfl))).int_inv
    obtain ⟨x, n, c, ex⟩ := sl_val g0 hp
    obtain ⟨y, m, d, ey⟩ := sl_val g3 hq
    rw [ex] at c0 g0; rw [ey] at c3 g3
    rw [e1] at c1; rw [e2] at c2; rw [e4] at c4; rw [e5] at c5; rw [e6] at c6; rw [e7] at c7
    refine ⟨numbV x y n m c d i1 i2 i3 i4 i5 i6, ?_, ⟨x, y, n, m, c, d, i1, i2, i3, i4, i5, i6, rfl, c0, c1, c2, c3, c4, c5, c6, c7⟩, fun i hi => ?_⟩
    · refine .agg rfl fun i r hr => ?_
      match i with
      | 0 => simp at hr; subst hr; exact g0
      | 1 => simp at hr; subst hr; exact .int _ _
      | 2 => simp at hr; subst hr; exact .int _ _
      | 3 => simp at hr; subst hr; exact g3
      | 4 => simp at hr; subst hr; exact .int _ _
      | 5 => simp at hr; subst hr; exact .int _ _
      | 6 => simp at hr; subst hr; exact .int _ _
      | 7 => simp at hr; subst hr; exact .int _ _
      | i + 8 => simp at hr
    · have hl : (PV.agg [p, .int .i64 i1, .int .i64 i2, q, .int .i64 i3, .int .i64 i4, .int .i64 i5, .int .i64 i6]).cells.length = 8 := rfl
      exact h5 j _ i _ hj (List.getElem?_eq_getElem (by rw [hl]; exact hi))
def backV : Nat → List Value → List (Array Value)
  | _, [] => []
  | n, v :: vs => backV (n + 1) vs ++ [#[.int .i64 (n : Int), v]]
theorem backV_drop {vs : List Value} {i : Nat} (h : i < vs.length) (k : Nat) : backV (k + i) (vs.drop i) = backV (k + i + 1) (vs.drop (i + 1)) ++ [#[.int .i64 ((k + i : Nat) : Int), vs[i]]] := by
  rw [List.drop_eq_getElem_cons h]; rfl
theorem backV_split (vs : List Value) : ∀ i, i ≤ vs.length → ∃ post, backV 0 vs = backV i (vs.drop i) ++ post
  | 0, _ => ⟨[], by simp⟩
  | i + 1, h => by
    obtain ⟨post, hp⟩ := backV_split vs i (by omega)
    have := backV_drop (vs := vs) (i := i) (by omega) 0
    simp only [Nat.zero_add] at this
    exact ⟨[#[.int .i64 (i : Int), vs[i]]] ++ post, by rw [hp, this, List.append_assoc]⟩
set_option maxRecDepth 100000 in
set_option maxHeartbeats 2000000 in
theorem back_in (F : Fence) (hd : F.depth = none) (hfn : ∀ f, F.fn f) (hro : F.round = none) (n l : Nat) (I : Imm) (w0 : World) (bx off : Nat) (a : Addr) (len cap : Nat) (es : List PV) (vs : List Value) (hlen : len = es.length) (hvl : vs.length = len) (hsp : len ≠ 0 → a.spot = none) (h62 : len ≤ 1000000000)
    (hat : ∀ (j : Nat) (e : PV) (u : Value), es[j]? = some e → vs[j]? = some u → NumbAt I w0 a.block (a.off + j * 8) e u) (S : List (Array Value) → (Nat → Prop) → World → Prop) (hS : Stg I w0 S)
    (hY : YOk F Tryz.prog l (backV 0 vs) S) (W : World) (h0 : S [] (fun b => b < W.heap.size) W) (hIb : I bx (some off)) (hw0 : w0.cell? ⟨bx, off, none⟩ = some (.slice (some a) len cap)) :
    CallsIn F n Tryz.prog 127 #[.func (.yield l) #[] #[], .pointer (some ⟨bx, off, none⟩)] W fun e W' => (∃ v, e = .returned v) ∧ ∃ O, S (backV 0 vs) O W' := by
  have hdd : ∀ k : Nat, (F.depth.isSome = true → 1 ≤ k) := fun k h => by rw [hd] at h; cases h
  have h120 : F.fn 127 := hfn 127
  have c0 : W.cell? ⟨bx, off, none⟩ = some (.slice (some a) len cap) := by rw [(hS.same _ _ _ h0).cell _ _ hIb]; exact hw0
  obtain ⟨ab, ao, asp⟩ := a
  have HL := Lib.hid hlen; clear hlen
  have HV := Lib.hid hvl; clear hvl
  have HSP := Lib.hid hsp; clear hsp
  have HAT := Lib.hid hat; clear hat
  have HS := Lib.hid hS; clear hS
  have HY := Lib.hid hY; clear hY
  have H0 := Lib.hid h0; clear h0
  have HB := Lib.hid hIb; clear hIb
  have HW := Lib.hid hw0; clear hw0
  have hlen62 : len < 4611686018427387904 := by omega
  refine callsIn_of_wp Tryz.func127 rfl h120 ?_ hro
  simp only [Tryz.ntmps127, List.size_toArray, List.length_cons, List.length_nil, Nat.reduceAdd, Nat.reduceSub, Array.replicate_succ, Array.replicate_zero, List.push_toArray, List.append_toArray, List.nil_append, List.cons_append]
  gi_wp2
  gi_loopw [3] (fun i wr => ∃ (j : Nat), i = .int .i64 ((j : Int) - 1) ∧ j ≤ len ∧ Hid (∃ (O' : Nat → Prop), S (backV j (vs.drop j)) O' wr)) (fun i _ => (intOf i + 1).toNat)
  case atStart =>
    refine ⟨len, by go_num, Nat.le_refl _, Lib.hid ⟨fun b => b < W.heap.size, ?_⟩⟩
    have : vs.drop len = [] := List.drop_eq_nil_of_le (by have := HV.out; omega)
    rw [this]; exact H0.out
  case round =>
    obtain ⟨j, rfl, hjl, HJ⟩ := hrel
    cases j with
    | succ j =>
      have hji : (((j + 1 : Nat) : Int) - 1) = (j : Int) := by omega
      rw [hji]
      have hlt : j < len := by omega
      obtain ⟨O', hs'⟩ := HJ.out
      have hje : j < es.length := by have := HL.out; omega
      have hjv : j < vs.length := by have := HV.out; omega
      obtain rfl : asp = Option.none := HSP.out (by omega)
      obtain ⟨hr, ⟨x, y, n1, m1, q1, q2, i1, i2, i3, i4, i5, i6, eu, d0, d1, d2, d3, d4, d5, d6, d7⟩, hI'⟩ := HAT.out j es[j] vs[j] (List.getElem?_eq_getElem hje) (List.getElem?_eq_getElem hjv)
      have hsm := HS.out.same _ _ _ hs'
      have hcell : ∀ i v, i < 8 → w0.cell? ⟨ab, ao + j * 8 + i, Option.none⟩ = some v → wr.cell? ⟨ab, ao + j * 8 + i, Option.none⟩ = some v := fun i v hi hv => by
        rw [hsm.cell _ _ (hI' i hi)]; exact hv
      have k0 : wr.cell? ⟨ab, ao + j * 8, Option.none⟩ = some (.slice x n1 q1) := hcell 0 _ (by decide) d0
      have k1 := hcell 1 _ (by decide) d1
      have k2 := hcell 2 _ (by decide) d2
      have k3 := hcell 3 _ (by decide) d3
      have k4 := hcell 4 _ (by decide) d4
      have k5 := hcell 5 _ (by decide) d5
      have k6 := hcell 6 _ (by decide) d6
      have k7 := hcell 7 _ (by decide) d7
      have kb : wr.cell? ⟨bx, off, Option.none⟩ = some (.slice (some ⟨ab, ao, Option.none⟩) len cap) := by rw [hsm.cell _ _ HB.out]; exact HW.out
      obtain ⟨post, hpost⟩ := backV_split vs j (by omega)
      have hbd := backV_drop hjv 0
      simp only [Nat.zero_add] at hbd
      obtain ⟨fn, tmps, assign, body, hy, hR⟩ := HY.out (n - 1) (backV (j + 1) (vs.drop (j + 1))) #[.int .i64 (j : Int), vs[j]] post O' wr (by rw [hpost, hbd]; simp) hs'
      rw [eu] at hy
      dsimp only [numbV] at hy
      have hR' := RoundIn.mono hR (R' := fun e W2 => e = .returned (.bool true) ∧ Hid (∃ O', S (backV j (vs.drop j)) O' W2)) (by
        rintro e W2 ⟨rfl, O2, h1, _⟩
        exact ⟨rfl, O2, by rw [hbd]; exact h1⟩)
      clear hR d0 d1 d2 d3 d4 d5 d6 d7 hcell hsm hr hI' eu hs' hje hjv hpost hbd hji
      gi_wp2_with ((try refine ⟨hdd _, ?_⟩); refine hR'.mono ?_; clear hR'; rintro e W2 ⟨rfl, HJ2⟩)
      go_roundw
      case rel => exact ⟨j, by go_num, by omega, HJ2⟩
      case measure => simp only [intOf]; omega
    | zero =>
      have hji : (((0 : Nat) : Int) - 1) = -1 := by omega
      rw [hji]
      gi_wp2
      go_end0
      obtain ⟨O', hs'⟩ := HJ.out
      rw [List.drop_zero] at hs'
      exact ⟨⟨_, rfl⟩, O', hs'⟩
theorem vals_of {I : Imm} {w : World} {K : Nat → PV → Value → Prop} : ∀ (es : List PV) (k : Nat), (∀ (j : Nat) (e : PV), es[j]? = some e → ∃ u, K (k + j) e u) → ∃ vs : List Value, vs.length = es.length ∧ ∀ (j : Nat) (e : PV) (u : Value), es[j]? = some e → vs[j]? = some u → K (k + j) e u
  | [], k, _ => ⟨[], rfl, fun j e u h => by simp at h⟩
  | e :: es, k, h => by
    obtain ⟨u, hu⟩ := h 0 e rfl
    obtain ⟨vs, h1, h2⟩ := vals_of (I := I) (w := w) es (k + 1) (fun j e' hj => by
      have := h (j + 1) e' (by simpa using hj)
      rwa [show k + (j + 1) = k + 1 + j from by omega] at this)
    refine ⟨u :: vs, by simp [h1], fun j e' u' he hu' => ?_⟩
    cases j with
    | zero => simp at he hu'; subst he hu'; exact hu
    | succ j =>
      have := h2 j e' u' (by simpa using he) (by simpa using hu')
      rwa [show k + 1 + j = k + (j + 1) from by omega] at this
theorem values_ans {ow : Bool} {es : List PV} (he : es.all editP = true) (hsm : small es = true) : ItrAns 121 [.vptr (.slice ow 7 es)] (es.map fun x => [x.disown]) := by
  intro I w cs hI hsz hrep
  have h0 := hrep 0 _ rfl
  obtain ⟨bx, off, cv, ev, i1, i2, i3⟩ := (RepT.one (bl := Bl.nil) (.inl h0)).vptr_inv
  have hcs := one_elem hsz
  rw [ev] at hcs
  subst hcs
  have r0 := i3 0 _ rfl
  have d0 := i2 0 _ rfl
  have j0 := i1 0 _ rfl
  obtain ⟨a, len, cap, cv', e1, hlen, _, hsp, _⟩ := (RepT.one (bl := Bl.nil) (.inl r0)).slice_inv
  rw [e1] at d0 r0
  rw [Nat.add_zero] at d0 j0
  obtain ⟨vs, hv1, hv2⟩ := vals_of (I := I) (w := w) (K := fun j e u => EditAt I w a.block (a.off + j * 7) e u) es 0 (fun j e hj => by rw [Nat.zero_add]; exact edit_at r0 hj (List.all_eq_true.1 he e (List.mem_of_getElem? hj)))
  simp only [Nat.zero_add] at hv2
  have hg : Good I w vs es := ⟨hv1, fun j u x hu hx => (hv2 j x u hx hu).rep⟩
  obtain ⟨a1, a2⟩ := ans_of hg
  have hs := of_decide_eq_true hsm
  refine ⟨_, itOk_of hI fun F hd hfn hro n l S hS hY W hb h0' => ?_, a1, a2⟩
  exact values_in F hd hfn hro n l I w bx off a len cap es vs hlen (by omega) (fun hn => hsp (fun e => by rw [e] at hlen; exact hn hlen)) (by omega) hv2 S hS hY W h0' (by rw [cell_of_heap (hb.block bx (hI _ _ j0))]; exact d0)
theorem back_good {I : Imm} {w : World} : ∀ (es : List PV) (vs : List Value) (n : Nat), Good I w vs es → (backV n vs).length = (backL n es).length ∧
    ∀ (j : Nat) (v : Array Value) (x : List PV), (backV n vs)[j]? = some v → (backL n es)[j]? = some x → v.size = x.length ∧ ∀ (i : Nat) (p : PV), x[i]? = some p → Rep I w (v.getD i undef) p ∧ p.free = true ∧ p.disown = p
  | [], [], n, _ => ⟨rfl, fun j v x h => by simp [backV] at h⟩
  | [], v :: vs, n, h => by have := h.1; simp at this
  | e :: es, [], n, h => by have := h.1; simp at this
  | e :: es, v :: vs, n, h => by
    have hr := h.2 0 v e rfl rfl
    obtain ⟨k1, k2⟩ := back_good es vs (n + 1) ⟨by have := h.1; simpa using this, fun j u x hu hx => h.2 (j + 1) u x (by simpa using hu) (by simpa using hx)⟩
    refine ⟨by simp [backV, backL, k1], fun j u x hu hx => ?_⟩
    simp only [backV, backL] at hu hx
    by_cases hj : j < (backV (n + 1) vs).length
    · rw [List.getElem?_append_left hj] at hu
      rw [List.getElem?_append_left (by rw [← k1]; exact hj)] at hx
      exact k2 j u x hu hx
    · rw [List.getElem?_append_right (by omega)] at hu
      rw [List.getElem?_append_right (by rw [← k1]; omega), ← k1] at hx
      generalize j - (backV (n + 1) vs).length = m at hu hx
      cases m with
      | succ m => simp at hu
      | zero =>
        simp at hu hx
        subst hu hx
        refine ⟨rfl, fun i p hp => ?_⟩
        match i with
        | 0 => simp at hp; subst hp; exact ⟨.int _ _, rfl, rfl⟩
        | 1 => simp at hp; subst hp; exact ⟨hr.disown, by rw [free_disown]; exact rep_free hr, disown_disown e⟩
        | i + 2 => simp at hp
theorem back_ans {ow : Bool} {es : List PV} (he : es.all numbP = true) (hsm : small es = true) : ItrAns 127 [.vptr (.slice ow 8 es)] (backL 0 es) := by
  intro I w cs hI hsz hrep
  have h0 := hrep 0 _ rfl
  obtain ⟨bx, off, cv, ev, i1, i2, i3⟩ := (RepT.one (bl := Bl.nil) (.inl h0)).vptr_inv
  have hcs := one_elem hsz
  rw [ev] at hcs
  subst hcs
  have r0 := i3 0 _ rfl
  have d0 := i2 0 _ rfl
  have j0 := i1 0 _ rfl
  obtain ⟨a, len, cap, cv', e1, hlen, _, hsp, _⟩ := (RepT.one (bl := Bl.nil) (.inl r0)).slice_inv
  rw [e1] at d0 r0
  rw [Nat.add_zero] at d0 j0
  obtain ⟨vs, hv1, hv2⟩ := vals_of (I := I) (w := w) (K := fun j e u => NumbAt I w a.block (a.off + j * 8) e u) es 0 (fun j e hj => by rw [Nat.zero_add]; exact numb_at r0 hj (List.all_eq_true.1 he e (List.mem_of_getElem? hj)))
  simp only [Nat.zero_add] at hv2
  have hg : Good I w vs es := ⟨hv1, fun j u x hu hx => (hv2 j x u hx hu).rep⟩
  obtain ⟨a1, a2⟩ := back_good es vs 0 hg
  have hs := of_decide_eq_true hsm
  refine ⟨_, itOk_of hI fun F hd hfn hro n l S hS hY W hb h0' => ?_, a1, a2⟩
  exact back_in F hd hfn hro n l I w bx off a len cap es vs hlen (by omega) (fun hn => hsp (fun e => by rw [e] at hlen; exact hn hlen)) (by omega) hv2 S hS hY W h0' j0 d0
theorem itr_ok : ItrOk Tryz.prog itr := by
  intro gf caps xs h
  have e237 : Enterable Tryz.prog 249 := ⟨Tryz.f249, Tryz.func249, by kernel_rfl, by kernel_rfl⟩
  have e114 : Enterable Tryz.prog 121 := ⟨Tryz.f121, Tryz.func121, by kernel_rfl, by kernel_rfl⟩
  have e120 : Enterable Tryz.prog 127 := ⟨Tryz.f127, Tryz.func127, by kernel_rfl, by kernel_rfl⟩
  unfold itr at h
  split at h
  · rename_i hg
    subst hg
    split at h
    · split at h
      · rename_i l hl
        split at h
        · rename_i hs
          cases h
          exact ⟨e237, nodes_ans hl hs⟩
        · cases h
      · cases h
    · cases h
  · split at h
    · rename_i hg
      subst hg
      split at h
      · split at h
        · rename_i hc
          cases h
          rw [Bool.and_eq_true] at hc
          exact ⟨e114, values_ans hc.1 hc.2⟩
        · cases h
      · cases h
    · split at h
      · rename_i hg
        subst hg
        split at h
        · split at h
          · rename_i hc
            cases h
            rw [Bool.and_eq_true] at hc
            exact ⟨e120, back_ans hc.1 hc.2⟩
          · cases h
        · cases h
      · cases h
end Go.Abs.Z
