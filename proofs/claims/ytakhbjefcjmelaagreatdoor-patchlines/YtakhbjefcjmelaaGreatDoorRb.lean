/- A part of the proof: HR. -/
import Derived.Test.YtakhbjefcjmelaaGreatDoorRa
import Derived.Test.YtakhbjefcjmelaaGreatDoorGb

set_option linter.unusedVariables false
set_option linter.unusedSimpArgs false
namespace Go.Abs.Z
open Go.Proofs Go.RowKit Go.ChangeShapes Go.WideShapes Go.ChangeAt
open Go.Proofs.YtakhbjefcjmelaaGreatDoor
set_option linter.unusedVariables false
theorem n54 : Tryz.prog.cellsOf 52 = 3 := by kernel_rfl
theorem n30 : Tryz.prog.cellsOf 30 = 1 := by kernel_rfl
theorem n3 : Tryz.prog.cellsOf 3 = 1 := by kernel_rfl
theorem n9 : Tryz.prog.cellsOf 9 = 1 := by kernel_rfl
theorem len3 {α : Type} {l : List α} (h : l.length = 3) : ∃ a b c, l = [a, b, c] := by
  match l, h with
  | [a, b, c], _ => exact ⟨a, b, c, rfl⟩
theorem cell_add {W : World} {a : Addr} {m j : Nat} {v : Value} (h : W.cell? ((a.add m).add j) = some v) : W.cell? ⟨a.block, a.off + m + j, none⟩ = some v ∧ a.block < W.heap.size ∧ (m + j = 0 → a.spot = none) := by
  obtain ⟨b, off, spot⟩ := a
  have hb : ((Addr.mk b off spot).add m).add j = ⟨b, off + m + j, if m + j = 0 then spot else none⟩ := by
    unfold Addr.add
    by_cases h1 : m = 0 <;> by_cases h2 : j = 0 <;> simp [h1, h2]
  rw [hb] at h
  unfold World.cell? at h ⊢
  dsimp only at h ⊢
  split at h
  · rename_i c e f hh
    have hlt : b < W.heap.size := by
      rcases Nat.lt_or_ge b W.heap.size with h' | h'
      · exact h'
      · rw [Array.getElem?_eq_none h'] at hh; cases hh
    refine ⟨?_, hlt, fun h0 => ?_⟩
    · by_cases h0 : (if m + j = 0 then spot else none).isSome = true
      · rw [if_pos h0] at h; cases h
      · rw [if_neg h0] at h
        simpa using h
    · rw [if_pos h0] at h
      cases spot with
      | none => rfl
      | some s => simp at h
  · cases h
theorem list_of {α : Type} {Q : Nat → α → Prop} : ∀ (n : Nat), (∀ i, i < n → ∃ t, Q i t) → ∃ l : List α, l.length = n ∧ ∀ (i : Nat) (t : α), l[i]? = some t → Q i t
  | 0, _ => ⟨[], rfl, fun i t h => by simp at h⟩
  | n + 1, h => by
    obtain ⟨l, hl, hq⟩ := list_of n fun i hi => h i (by omega)
    obtain ⟨t, ht⟩ := h n (by omega)
    refine ⟨l ++ [t], by simp [hl], fun i u hu => ?_⟩
    rcases Nat.lt_or_ge i n with hi | hi
    · rw [List.getElem?_append_left (by omega)] at hu; exact hq i u hu
    · rw [List.getElem?_append_right (by omega)] at hu
      have : i - l.length = 0 := by
        rcases Nat.eq_zero_or_pos (i - l.length) with h0 | h0
        · exact h0
        · rw [List.getElem?_eq_none (by simp; omega)] at hu; cases hu
      rw [this] at hu
      cases hu
      have : i = n := by omega
      rw [this]; exact ht
theorem cellsAt {W : World} {base n : Nat} {a : Addr} {m : Nat} {vs : List Value} (h : W.cells? base (a.add m) n = some vs) : ∀ (j : Nat) (v : Value), vs[j]? = some v → W.cell? ⟨a.block, a.off + m + j, none⟩ = some v ∧ a.block < W.heap.size ∧ (m + j = 0 → a.spot = none) := by
  intro j v hv
  unfold World.cells? at h
  split at h
  · have hl := mapM_some_length h
    have hj : j < n := by
      rcases Nat.lt_or_ge j n with h' | h'
      · exact h'
      · rw [List.getElem?_eq_none (by rw [hl]; simpa using h')] at hv; cases hv
    have := mapM_some_get h j j (by simp [hj])
    rw [hv] at this
    exact cell_add this
  · cases h
theorem rep_slice {W : World} {a : Addr} {len cap size : Nat} {es : List PV} (hl : es.length = len) (hcap : len ≤ cap) (h0 : 0 < size) (hsz : ∀ (i : Nat) (e : PV), es[i]? = some e → e.cells.length = size)
    (hat : ∀ (i : Nat) (e : PV) (j : Nat) (p : PV), es[i]? = some e → e.cells[j]? = some p → ∃ v, W.cell? ⟨a.block, a.off + i * size + j, none⟩ = some v ∧ Rep (IW W) W v p ∧ a.block < W.heap.size ∧ (i * size + j = 0 → a.spot = none)) :
    Rep (IW W) W (.slice (some a) len cap) (.slice false size es) := by
  refine .slice (fun i j => (W.cell? ⟨a.block, a.off + i * size + j, none⟩).getD undef) hl.symm hcap ?_ hsz ?_ ?_ ?_
  · intro hne
    cases es with
    | nil => exact absurd rfl hne
    | cons t ts =>
      have h5 : (0 : Nat) < t.cells.length := by rw [hsz 0 t rfl]; exact h0
      obtain ⟨_, _, _, _, hsp⟩ := hat 0 t 0 _ rfl (List.getElem?_eq_getElem h5)
      exact hsp (by omega)
  · intro i e j p he hp
    obtain ⟨_, _, _, hlt, _⟩ := hat i e j p he hp
    exact hlt
  · intro i e j p he hp
    obtain ⟨v, hv, _⟩ := hat i e j p he hp
    rw [hv]; rfl
  · intro i e j p he hp
    obtain ⟨v, hv, hr, _⟩ := hat i e j p he hp
    rw [hv]; exact hr
section
variable {H : Type} {enc : TypeId × Value → H} {W : World} {base : Nat} {sp : Nat → Bool} {held : Bool}
theorem read_texts {fuel : Nat} {cs : List Value} {x : DataW H × List MemPlace} (h : DataW.trod enc Tryz.prog W base sp held fuel 30 cs = some x) : ∃ (v : Value) (nv : PV) (ws : List Str), cs = [v] ∧ Rep (IW W) W v nv ∧ RowS nv ws ∧ ws.length ≤ maxLen := by
  rcases DataW.trod_slice Tryz.underlying30 h with ⟨rfl, rfl⟩ | ⟨a, len, cap, elems, rest, m, rfl, rfl, rfl, _, hcap, hml, hlen, hel, _, _⟩
  · exact ⟨_, .nils, [], rfl, .nils, .inl ⟨rfl, rfl⟩, Nat.zero_le _⟩
  · have hall : ∀ i, i < len → ∃ s : ByteArray, W.cells? base (a.add (i * 1)) 1 = some [.string s] := by
      intro i hi
      have hi' := hel i hi
      rw [n9] at hi'
      have hsome : elems[i]? = some (elems[i]'(by omega)) := List.getElem?_eq_getElem (by omega)
      rw [hsome] at hi'
      obtain ⟨cs', hcs, htr⟩ := Option.bind_eq_some_iff.1 hi'
      obtain ⟨s, rfl, _⟩ := DataW.trod_string Tryz.underlying9 htr
      exact ⟨s, hcs⟩
    obtain ⟨ks, hkl, hks⟩ := list_of len hall
    refine ⟨_, .slice false 1 ((ks.map fun s => s.data.toList).map PV.str), ks.map fun s => s.data.toList, rfl, ?_, .inr rfl, by rw [List.length_map]; omega⟩
    have hget : ∀ (i : Nat) (e : PV), ((ks.map fun s => s.data.toList).map PV.str)[i]? = some e → ∃ s, ks[i]? = some s ∧ e = .str s.data.toList := by
      intro i e he
      rw [List.map_map, List.getElem?_map] at he
      obtain ⟨t, ht, rfl⟩ := Option.map_eq_some_iff.1 he
      exact ⟨t, ht, rfl⟩
    refine rep_slice (by simp [hkl]) hcap (by decide) (fun i e he => ?_) fun i e j p he hp => ?_
    · obtain ⟨s, _, rfl⟩ := hget i e he; rfl
    · obtain ⟨s, hs, rfl⟩ := hget i e he
      have hc := cellsAt (hks i s hs)
      match j, hp with
      | 0, hp => cases hp; exact ⟨_, (hc 0 _ rfl).1, .str _, (hc 0 _ rfl).2.1, (hc 0 _ rfl).2.2⟩
      | j + 1, hp => simp [PV.cells] at hp
theorem read_hunk {fuel : Nat} {cs : List Value} {x : DataW H × List MemPlace} (h : DataW.trod enc Tryz.prog W base sp held fuel 52 cs = some x) : ∃ (f t : Int) (v : Value) (nv : PV) (ws : List Str), cs = [.int .i64 f, .int .i64 t, v] ∧ Rep (IW W) W v nv ∧ RowS nv ws ∧ ws.length ≤ maxLen := by
  obtain ⟨xs, n, rfl, rfl, hl, hlen, hf⟩ := DataW.trod_struct Tryz.underlying52 h
  rw [n54] at hl
  obtain ⟨a, b, c, rfl⟩ := len3 hl
  obtain ⟨x0, x1, x2, rfl⟩ := len3 (l := xs) hlen
  have f0 := hf 0 _ rfl
  have f1 := hf 1 _ rfl
  have f2 := hf 2 _ rfl
  simp [n3, n30] at f0 f1 f2
  obtain ⟨k, h0, rfl, _⟩ := DataW.trod_int Tryz.underlying3 f0
  obtain ⟨st, h2, rfl, _⟩ := DataW.trod_int Tryz.underlying3 f1
  cases h0; cases h2
  obtain ⟨v, nv, ws, h4, h5, h6, h7⟩ := read_texts f2
  cases h4
  exact ⟨k, st, _, nv, ws, rfl, h5, h6, h7⟩
theorem read_hunks {v : Value} {d : DataW H} {p : List MemPlace} (hna : ∀ cs, v ≠ .agg cs) (h : DataW.Trod enc Tryz.prog W base sp held 22 v d p) : ∃ (dv : PV) (l : List Hg), Rep (IW W) W v dv ∧ RowG dv l ∧ l.length ≤ maxLen ∧ ∀ (i : Nat) (g : Hg), l[i]? = some g → g.nw.length ≤ maxLen := by
  obtain ⟨fuel, h⟩ := h
  rcases DataW.trod_slice Tryz.underlying22 h with ⟨e, _⟩ | ⟨a, len, cap, elems, rest, m, rfl, e, _, _, hcap, hml, hlen, hel, _, _⟩
  · cases v with
    | slice a len cap =>
      simp only [Value.cells] at e
      cases e
      exact ⟨.nils, [], .nils, .inl ⟨rfl, rfl⟩, Nat.zero_le _, fun i g hg => by simp at hg⟩
    | agg cs => exact absurd rfl (hna cs)
    | _ => simp [Value.cells] at e
  · have hall : ∀ i, i < len → ∃ g : Hg, ∃ v : Value, W.cells? base (a.add (i * 3)) 3 = some [.int .i64 g.fr, .int .i64 g.to, v] ∧ Rep (IW W) W v g.nv ∧ g.nw.length ≤ maxLen := by
      intro i hi
      have hi' := hel i hi
      rw [n54] at hi'
      have hsome : elems[i]? = some (elems[i]'(by omega)) := List.getElem?_eq_getElem (by omega)
      rw [hsome] at hi'
      obtain ⟨cs', hcs, htr⟩ := Option.bind_eq_some_iff.1 hi'
      obtain ⟨f, t, v, nv, ws, rfl, h5, h6, h7⟩ := read_hunk htr
      exact ⟨⟨f, t, nv, ws, h6⟩, v, hcs, h5, h7⟩
    obtain ⟨ks, hkl, hks⟩ := list_of len hall
    have hv : v = .slice (some a) len cap := by
      cases v with
      | slice a len cap => simp only [Value.cells] at e; cases e; rfl
      | agg cs => exact absurd rfl (hna cs)
      | _ => simp [Value.cells] at e
    subst hv
    refine ⟨.slice false 3 (ks.map Hg.pv), ks, ?_, .inr rfl, by omega, fun i g hg => ?_⟩
    · have hget : ∀ (i : Nat) (e : PV), (ks.map Hg.pv)[i]? = some e → ∃ g, ks[i]? = some g ∧ e = g.pv := by
        intro i e he
        rw [List.getElem?_map] at he
        obtain ⟨t, ht, rfl⟩ := Option.map_eq_some_iff.1 he
        exact ⟨t, ht, rfl⟩
      refine rep_slice (by simp [hkl]) hcap (by decide) (fun i e he => ?_) fun i e j p he hp => ?_
      · obtain ⟨g, _, rfl⟩ := hget i e he; rfl
      · obtain ⟨g, hg, rfl⟩ := hget i e he
        obtain ⟨v, hcs, hrep, _⟩ := hks i g hg
        have hc := cellsAt hcs
        simp only [Hg.pv, PV.cells] at hp
        match j, hp with
        | 0, hp => cases hp; exact ⟨_, (hc 0 _ rfl).1, .int _ _, (hc 0 _ rfl).2.1, (hc 0 _ rfl).2.2⟩
        | 1, hp => cases hp; exact ⟨_, (hc 1 _ rfl).1, .int _ _, (hc 1 _ rfl).2.1, (hc 1 _ rfl).2.2⟩
        | 2, hp => cases hp; exact ⟨_, (hc 2 _ rfl).1, hrep, (hc 2 _ rfl).2.1, (hc 2 _ rfl).2.2⟩
        | j + 3, hp => simp at hp
    · obtain ⟨_, _, _, h7⟩ := hks i g hg
      exact h7
end
end Go.Abs.Z
