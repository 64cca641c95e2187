/- A part of the proof: K1 K2 K3 K4. -/
import Derived.Test.YtakhbjefcjmelaaGreatDoorWa
import Derived.Test.YtakhbjefcjmelaaGreatDoorWb

set_option linter.unusedVariables false
set_option linter.unusedSimpArgs false
namespace Go.Abs.Z
open Go.Proofs Go.RowKit
set_option linter.unusedVariables false
theorem op_ok {k : AK} {vs : List PV} {σ σ' : Sto} {rs : List (Option PV)} (h : ∀ n, sem pur (run n) k vs σ = some (rs, σ')) : OpEv pur run k vs σ rs σ' := ⟨0, fun n _ => h n⟩
theorem mks_ok {z : PV} {n : Nat} {σ : Sto} (hn : n ≤ 4294967296) (hz : z.cells.length = 1 ∧ z.ones = true) : OpEv pur run (.w (.mks 1 z)) [N n, N n] σ [some (.arr σ.length 0 0 n 1)] (σ ++ [[.arrv 0 1 (List.replicate n z)]]) := by
  refine op_ok fun m => ?_
  simp only [sem, semW]
  rw [if_pos ⟨trivial, by omega, by simp only [maxRow]; omega, hz.1, hz.2⟩]
  simp
theorem st_arr {id i : Nat} {es : List PV} {e v : PV} {σ : Sto} (h : σ[id]? = some [.arrv 0 1 es]) (hi : es[i]? = some e) (he : e.isAgg = false) (hv : v.cells.length = 1 ∧ v.okc = true ∧ v.ones = true ∧ v.disown = v ∧ v.isAgg = false) : OpEv pur run (.w (.st 1)) [.aptr id 0 1 i 0, v] σ [] (σ.set id [.arrv 0 1 (es.set i v)]) := by
  refine op_ok fun m => ?_
  have hu : upd e 0 v = some v := by
    unfold upd
    cases e <;> first | (simp [PV.isAgg] at he; done) | (cases v <;> first | rfl | (simp [PV.isAgg] at hv))
  simp only [sem, semW, h, arrOf, and_self, if_true, hi, hv.1, hv.2.1, hv.2.2.1, hv.2.2.2.1, hu, Option.map_some]
theorem ix_cases : ∀ (s : Str), ((10 : UInt8) ∉ s ∧ Lib.indexByte s 10 = -1) ∨ ∃ p q : Str, s = p ++ 10 :: q ∧ (10 : UInt8) ∉ p ∧ Lib.indexByte s 10 = (p.length : Nat)
  | [] => .inl ⟨by simp, rfl⟩
  | b :: s => by
    by_cases hb : b = 10
    · subst hb
      exact .inr ⟨[], s, rfl, by simp, by simp [Lib.indexByte]⟩
    · have hb' : (b == 10) = false := by simpa using hb
      rcases ix_cases s with ⟨h1, h2⟩ | ⟨p, q, rfl, h1, h2⟩
      · refine .inl ⟨by simp [h1, Ne.symm hb], ?_⟩
        simp [Lib.indexByte, hb', h2]
      · refine .inr ⟨b :: p, q, rfl, by simp [h1, Ne.symm hb], ?_⟩
        have : ((p.length : Int) == -1) = false := by rw [beq_eq_false_iff_ne]; omega
        simp only [Lib.indexByte, hb', h2, this]
        simp
theorem lf10 : (((10 : UInt8).toNat : Nat) : Int) = 10 := by decide
theorem pix (c : Caller) (s : Str) : pIndexByte c [.str s, .int .u8 10] [] = some (.int .i64 (Lib.indexByte s 10), []) := by
  show (if (0 : Int) ≤ 10 ∧ (10 : Int) < 256 then some (PV.int .i64 (Lib.indexByte s (10 : Int).toNat.toUInt8), ([] : Sto)) else none) = _
  rw [if_pos (by decide), show (10 : Int).toNat.toUInt8 = 10 from by decide]
theorem e271 (s : Str) : E 228 [.str s, .int .u8 (((10 : UInt8).toNat : Nat) : Int)] [] (.int .i64 (Lib.indexByte s 10)) [] := by
  rw [lf10]
  exact ev_of_run 0 fun n _ => (show run (n + 1) 228 [.str s, .int .u8 10] [] = pIndexByte (run n) [.str s, .int .u8 10] [] by kernel_rfl).trans (pix _ s)
theorem e142 (s : Str) : E 96 [.str s, .str [10]] [] (N (s.count 10)) [] := ev_of_run 0 fun n _ => by
  have h : run (n + 1) 96 [.str s, .str [10]] [] = pCount (run n) [.str s, .str [10]] [] := by kernel_rfl
  exact h.trans rfl
theorem e143 (s : Str) : ((10 : UInt8) ∉ s ∧ E 97 [.str s, .str [10]] [] (I (-1)) []) ∨ ∃ p q : Str, s = p ++ 10 :: q ∧ (10 : UInt8) ∉ p ∧ E 97 [.str s, .str [10]] [] (N p.length) [] := by
  by_cases h10 : [10] = s
  · subst h10
    exact .inr ⟨[], [], rfl, by simp, r143_1 (r219_1 rfl)⟩
  have h := e271 s
  rcases ix_cases s with ⟨h1, h2⟩ | ⟨p, q, h0, h1, h2⟩
  · rw [h2] at h
    exact .inl ⟨h1, r143_2 (r219_3 (c2 := 10) h10 rfl h)⟩
  · rw [h2] at h
    exact .inr ⟨p, q, h0, h1, r143_1 (r219_2 (c2 := 10) h10 rfl h)⟩
theorem spA_no : ∀ (s c : Str), (10 : UInt8) ∉ s → spA c s = [c ++ s]
  | [], c, _ => by simp [spA]
  | b :: s, c, h => by
    have hb : b ≠ 10 := fun e => h (by simp [e])
    rw [spA, if_neg hb, spA_no s _ (fun h' => h (List.mem_cons_of_mem _ h'))]
    simp
theorem spA_lf : ∀ (p c q : Str), (10 : UInt8) ∉ p → spA c (p ++ 10 :: q) = (c ++ p) :: spA [] q
  | [], c, q, _ => by simp [spA]
  | b :: p, c, q, h => by
    have hb : b ≠ 10 := fun e => h (by simp [e])
    rw [List.cons_append, spA, if_neg hb, spA_lf p _ q (fun h' => h (List.mem_cons_of_mem _ h'))]
    simp
theorem spA_len : ∀ (s c : Str), (spA c s).length = s.count 10 + 1
  | [], c => rfl
  | b :: s, c => by
    by_cases hb : b = 10
    · subst hb
      rw [spA, if_pos rfl, List.length_cons, spA_len s []]
      simp
    · rw [spA, if_neg hb, spA_len s _, List.count_cons_of_ne hb]
theorem count_le (s : Str) : s.count 10 ≤ s.length := List.count_le_length
theorem cut_to {p q : Str} : semP (.ssl false true) [.str (p ++ q), N p.length] = some [some (.str p)] := by
  simp only [semP, cutB]
  rw [if_pos (by simp only [List.length_append]; omega)]
  simp
theorem cut_from {p q : Str} {b : UInt8} : semP (.ssl true false) [.str (p ++ b :: q), N (p.length + 1)] = some [some (.str q)] := by
  simp only [semP, cutB]
  rw [if_pos (by simp only [List.length_append, List.length_cons]; omega)]
  have e : (((p.length + 1 : Nat) : Int)).toNat = p.length + 1 := by omega
  simp only [Option.map_some, e]
  have e2 : (p ++ b :: q).drop (p.length + 1) = q := by rw [show p ++ b :: q = (p ++ [b]) ++ q from by simp, List.drop_left' (by simp)]
  rw [e2, List.take_of_length_le (by simp; omega)]
end Go.Abs.Z

namespace Go.Abs.Z
open Go.Proofs Go.RowKit
set_option linter.unusedVariables false
theorem split_loop {s : Str} {C : Nat} (σ : Sto) (hC : (min (C + 1) (s.length + 1)) = C + 1) (hC2 : C < 4000000000) : ∀ (k : Nat) (done : List Str) (s1 : Str), s1.count 10 = k → done.length + k = C → s1.length < 4000000000 →
    ∃ last : Str, spA [] s1 = (spA [] s1).dropLast ++ [last] ∧
    LE m52_0 l52_0 [(0, some (.str s1)), (1, some (.str [10])), (2, some (I 0)), (3, some (N ((min (C + 1) (s.length + 1)) - 1))), (9, some (.arr σ.length 0 0 (min (C + 1) (s.length + 1)) 1)), (10, some (N done.length))]
      (σ ++ [[PV.arrv 0 1 (done.map PV.str ++ List.replicate (k + 1) (PV.str []))]]) (.exit 0)
      [(0, some (PV.str last)), (1, some (.str [10])), (3, some (N ((min (C + 1) (s.length + 1)) - 1))), (9, some (.arr σ.length 0 0 (min (C + 1) (s.length + 1)) 1)), (10, some (N C))]
      (σ ++ [[PV.arrv 0 1 ((done ++ (spA [] s1).dropLast).map PV.str ++ [PV.str []])]]) := by
  intro k
  induction k with
  | zero =>
    intro done s1 hk hd hl
    have hno : (10 : UInt8) ∉ s1 := List.count_eq_zero.1 hk
    have hsp := spA_no s1 [] hno
    rw [List.nil_append] at hsp
    have hdl : done.length = C := by omega
    rw [hsp]
    refine ⟨s1, rfl, ?_⟩
    rw [← hdl]
    rw [hdl]
    have := r89_l0_out1 (s := s) (m1 := C) (r1 := σ.length) (s1 := s1) (m2 := C) (σ2 := σ ++ [[PV.arrv 0 1 (done.map PV.str ++ [PV.str []])]]) (by omega)
    simpa using this
  | succ k ih =>
    intro done s1 hk hd hl
    rcases e143 s1 with ⟨h1, _⟩ | ⟨p, q, h0, h1, h2⟩
    · have := List.count_eq_zero.2 h1; omega
    · subst h0
      have hq : q.count 10 = k := by
        rw [List.count_append, List.count_cons_self, List.count_eq_zero.2 h1] at hk; omega
      simp only [List.length_append, List.length_cons] at hl
      obtain ⟨last, e1, e2⟩ := ih (done ++ [p]) q hq (by simp; omega) (by omega)
      have hsp := spA_lf p [] q h1
      rw [List.nil_append] at hsp
      have hne : spA [] q ≠ [] := by
        have := spA_len q []
        intro e; rw [e] at this; simp at this
      have hdl : (spA [] (p ++ 10 :: q)).dropLast = p :: (spA [] q).dropLast := by rw [hsp, List.dropLast_cons_of_ne_nil hne]
      refine ⟨last, by rw [hdl, hsp, List.cons_append, ← e1], ?_⟩
      rw [hdl]
      have hlen : (done.map PV.str).length = done.length := List.length_map ..
      have hst := st_arr (σ := σ ++ [[PV.arrv 0 1 (done.map PV.str ++ List.replicate (k + 1 + 1) (PV.str []))]]) (id := σ.length) (i := 0 + done.length) (es := done.map PV.str ++ List.replicate (k + 1 + 1) (PV.str [])) (e := PV.str []) (v := PV.str p) (by simp) (by
        rw [Nat.zero_add, List.getElem?_append_right (by omega), hlen, Nat.sub_self]; rfl) rfl ⟨rfl, rfl, rfl, rfl, rfl⟩
      have hset : (σ ++ [[PV.arrv 0 1 (done.map PV.str ++ List.replicate (k + 1 + 1) (PV.str []))]]).set σ.length [PV.arrv 0 1 ((done.map PV.str ++ List.replicate (k + 1 + 1) (PV.str [])).set (0 + done.length) (PV.str p))] = σ ++ [[PV.arrv 0 1 ((done ++ [p]).map PV.str ++ List.replicate (k + 1) (PV.str []))]] := by
        have e3 : (done.map PV.str ++ List.replicate (k + 1 + 1) (PV.str [])).set (0 + done.length) (PV.str p) = (done ++ [p]).map PV.str ++ List.replicate (k + 1) (PV.str []) := by
          rw [Nat.zero_add, List.set_append_right _ _ (by omega), hlen, Nat.sub_self, List.replicate_succ, List.set_cons_zero]
          simp
        rw [e3]
        simp
      rw [hset] at hst
      have hl2 : (done ++ [p]).length = done.length + 1 := by simp
      rw [hl2] at e2
      have e4 : done ++ [p] ++ (spA [] q).dropLast = done ++ p :: (spA [] q).dropLast := by simp
      rw [e4] at e2
      refine r89_l0_next1 (s := s) (m1 := C) (r1 := σ.length) (m3 := p.length) (s2 := p) (s3 := q) (σ3 := σ ++ [[PV.arrv 0 1 ((done ++ [p]).map PV.str ++ List.replicate (k + 1) (PV.str []))]]) (by omega) h2 (by omega) (by omega) cut_to (by omega) hst ?_ (by omega) e2
      exact cut_from
theorem e45 (s : Str) (σ : Sto) (hs : s.length < 4000000000) : E 25 [.str s, .str [10]] σ (.arr σ.length 0 0 (spA [] s).length 1) (σ ++ [[PV.arrv 0 1 ((spA [] s).map PV.str)]]) := by
  have hc := count_le s
  have hmin : min (s.count 10 + 1) (s.length + 1) = s.count 10 + 1 := by omega
  have hn := spA_len s []
  obtain ⟨last, e1, e2⟩ := split_loop (s := s) σ hmin (by omega) (s.count 10) [] s rfl (by simp) hs
  have hdl : ((spA [] s).dropLast).length = s.count 10 := by rw [List.length_dropLast, hn]; rfl
  have hm := mks_ok (z := PV.str []) (n := min (s.count 10 + 1) (s.length + 1)) (σ := σ) (by omega) ⟨rfl, rfl⟩
  have hst := st_arr (σ := σ ++ [[PV.arrv 0 1 (((spA [] s).dropLast).map PV.str ++ [PV.str []])]]) (id := σ.length) (i := 0 + s.count 10) (es := ((spA [] s).dropLast).map PV.str ++ [PV.str []]) (e := PV.str []) (v := PV.str last) (by simp) (by
    rw [Nat.zero_add, List.getElem?_append_right (by rw [List.length_map]; omega), List.length_map, hdl, Nat.sub_self]; rfl) rfl ⟨rfl, rfl, rfl, rfl, rfl⟩
  have hset : (σ ++ [[PV.arrv 0 1 (((spA [] s).dropLast).map PV.str ++ [PV.str []])]]).set σ.length [PV.arrv 0 1 ((((spA [] s).dropLast).map PV.str ++ [PV.str []]).set (0 + s.count 10) (PV.str last))] = σ ++ [[PV.arrv 0 1 ((spA [] s).map PV.str)]] := by
    have e3 : (((spA [] s).dropLast).map PV.str ++ [PV.str []]).set (0 + s.count 10) (PV.str last) = (spA [] s).map PV.str := by
      rw [Nat.zero_add, List.set_append_right _ _ (by rw [List.length_map]; omega), List.length_map, hdl, Nat.sub_self, List.set_cons_zero]
      conv => rhs; rw [e1]
      simp
    rw [e3]; simp
  rw [hset] at hst
  rw [hn]
  refine r45 ?_
  have := r89 (e142 s) (by omega) (by omega) hm (by omega) (by omega) (s1 := last) (m2 := s.count 10) (by
    have h := e2
    simp only [List.map_nil, List.nil_append, List.length_nil] at h
    rw [hmin] at h ⊢
    exact h) (by omega) hst (by omega) (by omega)
  exact this
theorem frz45 (s : Str) (hs : s.length < 4000000000) : ∃ σ', OpEv pur run (.w (.callz 25)) [.str s, .str [10]] [] [some (.slice false 1 ((spA [] s).map PV.str))] σ' := by
  obtain ⟨N0, H⟩ := e45 s [] hs
  refine ⟨[[.dead]], N0, fun n hn => ?_⟩
  have h := H n hn
  have hall : ((spA [] s).map PV.str).all (fun e => e.flat && e.cells.all PV.flat) = true := by
    rw [List.all_eq_true]; intro e he; obtain ⟨x, _, rfl⟩ := List.mem_map.1 he; rfl
  simp only [sem, semW, List.map_cons, List.map_nil, PV.disown, h, Option.bind_some]
  have ht : List.take (spA [] s).length (List.map PV.str (spA [] s)) = List.map PV.str (spA [] s) := List.take_of_length_le (by simp)
  simp [frzV, rowA, arrOf, PV.free, ht]
  intro e _
  first
    | exact fun x hx => by simp [PV.cells] at hx; subst hx; rfl
    | exact ⟨rfl, fun x hx => by simp [PV.cells] at hx; subst hx; rfl⟩
end Go.Abs.Z

namespace Go.Abs.Z
open Go.Proofs Go.RowKit
set_option linter.unusedVariables false
theorem drop_last {s : Str} (h : s ≠ []) : s.drop (s.length - 1) = [s.getLast h] := by
  obtain ⟨t, b, rfl⟩ : ∃ t b, s = t ++ [b] := ⟨s.dropLast, s.getLast h, (List.dropLast_concat_getLast h).symm⟩
  have e : (t ++ [b]).length - 1 = t.length := by simp
  rw [e, List.drop_left' rfl]
  simp
theorem e144 (s : Str) (hs : s.length < 4000000000) : E 98 [.str s, .str [10]] [] (.bool (decide (s.getLast? = some 10))) [] := by
  by_cases h0 : s = []
  · subst h0
    exact r144_2 (by simp)
  · have hl : 0 < s.length := List.length_pos_iff.2 h0
    have h1 : semP (.ssl true false) [.str s, N (s.length - ([10] : Str).length)] = some [some (.str [s.getLast h0])] := by
      simp only [semP, cutB, List.length_cons, List.length_nil]
      rw [if_pos (by omega)]
      simp only [Option.map_some, Int.toNat_natCast, Nat.zero_add]
      rw [drop_last h0, List.take_of_length_le (by simp; omega)]
    have := r144_1 (s := s) (p := [10]) (s1 := [s.getLast h0]) (by simp only [List.length_cons, List.length_nil]; omega) (by simp; omega) (by omega) h1
    have e : ([s.getLast h0] == ([10] : Str)) = decide (s.getLast? = some 10) := by
      rw [List.getLast?_eq_some_getLast h0]
      by_cases hb : s.getLast h0 = 10
      · simp [hb]
      · simp [hb]
    rw [e] at this
    exact this
theorem e90 (s : Str) (hs : s.length < 4000000000) : E 53 [.str s, .str [10]] [] (.str (trim s)) [] := by
  have h := e144 s hs
  unfold trim
  by_cases hl : s.getLast? = some 10
  · rw [decide_eq_true hl] at h
    rw [if_pos hl]
    obtain ⟨t, rfl⟩ := List.getLast?_eq_some_iff.1 hl
    refine r90_1 h (by simp) (by omega) ?_
    rw [List.dropLast_concat]
    have := cut_to (p := t) (q := [10])
    have e : (t ++ [10]).length - ([10] : List UInt8).length = t.length := by simp
    rw [e]
    exact this
  · rw [decide_eq_false hl] at h
    rw [if_neg hl]
    exact r90_2 h
theorem e46 (s : Str) (hs : s.length < 4000000000) : E 26 [.str s, .str [10]] [] (.str (trim s)) [] := r46 (e90 s hs)
theorem trim_len (s : Str) : (trim s).length ≤ s.length := by
  unfold trim; split
  · simp
  · exact Nat.le_refl _
theorem e19 (s : Str) (hs : s.length < 4000000000) : ∃ v σ, RowS v (lnA [] s) ∧ E 11 [.str s] [] v σ := by
  by_cases h0 : s = []
  · subst h0
    exact ⟨.nils, [], .inl ⟨rfl, rfl⟩, r19_1 rfl⟩
  · obtain ⟨σ', hz⟩ := frz45 (trim s) (by have := trim_len s; omega)
    rw [trim_lines h0] at hz
    exact ⟨_, σ', row_strs _, r19_2 h0 (e46 s hs) (row_strs _) hz⟩
theorem lines_loop {s : Str} (hs : s.length < 4000000000) : ∀ (k : Nat) (ws : List Str) (m i : Nat), s.length - i = k → i ≤ s.length → m ≤ i → ws.length ≤ i → ∃ (us : List Str) (j : Nat), us.length ≤ s.length ∧ j ≤ s.length ∧
    ws ++ lnA ((s.drop m).take (i - m)) (s.drop i) = us ++ (if j < s.length then [s.drop j] else []) ∧
    LE m12_0 l12_0 [(0, some (.str s)), (3, some (.slice true 1 (ws.map PV.str))), (4, some (N m)), (5, some (N i))] [] (.exit 0) [(0, some (.str s)), (3, some (.slice true 1 (us.map PV.str))), (4, some (N j))] [] := by
  intro k
  induction k with
  | zero =>
    intro ws m i hk hi hm hw
    have hi' : i = s.length := by omega
    subst hi'
    refine ⟨ws, m, hw, hm, ?_, r9_l0_out1 (by omega)⟩
    rw [List.drop_length]
    have ht : (s.drop m).take (s.length - m) = s.drop m := List.take_of_length_le (by simp)
    rw [ht, lnA]
    by_cases hlt : m < s.length
    · rw [if_pos hlt, if_neg (by intro e; have := congrArg List.length e; simp at this; omega)]
    · rw [if_neg hlt, if_pos (List.drop_eq_nil_of_le (by omega))]
  | succ k ih =>
    intro ws m i hk hi hm hw
    have hlt : i < s.length := by omega
    have hd : s.drop i = s[i] :: s.drop (i + 1) := List.drop_eq_getElem_cons hlt
    by_cases hb : s[i] = 10
    · obtain ⟨us, j, h1, h2, h3, h4⟩ := ih (ws ++ [(s.drop m).take (i - m)]) (i + 1) (i + 1) (by omega) (by omega) (Nat.le_refl _) (by simp; omega)
      refine ⟨us, j, h1, h2, ?_, ?_⟩
      · rw [← h3, hd, lnA, if_pos hb]
        simp
      · refine r9_l0_next1 (c2 := s[i]) (s1 := (s.drop m).take (i - m)) (by omega) (List.getElem?_eq_getElem hlt) (by rw [hb]; exact lf10) ?_ (by simp only [maxRow]; omega) (by omega) h4
        simp only [semP, cutB]
        rw [if_pos (by omega)]
        simp
    · obtain ⟨us, j, h1, h2, h3, h4⟩ := ih ws m (i + 1) (by omega) (by omega) (by omega) (by omega)
      refine ⟨us, j, h1, h2, ?_, ?_⟩
      · rw [← h3, hd, lnA, if_neg hb]
        congr 2
        have hlt' : i - m < (s.drop m).length := by simp; omega
        rw [show i + 1 - m = (i - m) + 1 from by omega, List.take_succ_eq_append_getElem hlt', List.getElem_drop]
        congr 3
        omega
      · refine r9_l0_next2 (c2 := s[i]) (by omega) (List.getElem?_eq_getElem hlt) (fun e => hb ?_) (by omega) h4
        have : s[i].toNat = 10 := by omega
        exact UInt8.toNat_inj.1 this
theorem e9 (s : Str) (hs : s.length < 4000000000) : E 12 [.str s] [] (.slice false 1 ((lnA [] s).map PV.str)) [] := by
  obtain ⟨us, j, h1, h2, h3, h4⟩ := lines_loop hs s.length [] 0 0 (by omega) (by omega) (by omega) (by simp)
  simp only [List.nil_append, Nat.sub_self, List.take_zero, List.drop_zero] at h3
  rw [h3]
  have h5 : LE m12_0 l12_0 [(0, some (.str s)), (3, some (.slice true 1 [])), (4, some (I 0)), (5, some (I 0))] [] (.exit 0) [(0, some (.str s)), (3, some (.slice true 1 (us.map PV.str))), (4, some (N j))] [] := h4
  by_cases hlt : j < s.length
  · rw [if_pos hlt]
    refine r9_1 h5 (by omega) ?_ (by simp only [maxRow]; omega)
    simp only [semP, cutB]
    rw [if_pos (by omega)]
    simp
    exact List.take_of_length_le (by simp)
  · rw [if_neg hlt, List.append_nil]
    exact r9_2 h5 (by omega)
theorem texts_loop (a : List Str) (ha : a.length < 4000000000) : ∀ (k i : Nat), a.length - i = k → i ≤ a.length → LE m10_0 l10_0 [(0, some (.slice false 1 (a.map PV.str))), (1, some (.slice false 1 (a.map PV.str))), (5, some (N i))] [] (.exit 0) [(0, some (.slice false 1 (a.map PV.str))), (1, some (.slice false 1 (a.map PV.str)))] []
  | 0, i, hk, hi => r10_l0_out1 (by omega)
  | k + 1, i, hk, hi => by
    have hlt : i < a.length := by omega
    exact r10_l0_next1 (by omega) (List.getElem?_eq_getElem hlt) (List.getElem?_eq_getElem hlt) rfl (by omega) (texts_loop a ha k (i + 1) (by omega) (by omega))
theorem e10 (a : List Str) (ha : a.length < 4000000000) : E 10 [.slice false 1 (a.map PV.str), .slice false 1 (a.map PV.str)] [] (.bool true) [] :=
  r10_2 rfl (texts_loop a ha a.length 0 rfl (by omega))
end Go.Abs.Z

namespace Go.Abs.Z
open Go.Proofs Go.RowKit
set_option linter.unusedVariables false
theorem e47 (σ : Sto) (l s : Str) (h : l.length + s.length ≤ 4294967296) : E 49 [.ref σ.length 0, .str s] (σ ++ [[.bld 93 5 l]]) (.tuple [N s.length, .nili]) (σ ++ [[.bld 93 5 (l ++ s)]]) := by
  refine ev_of_run 0 fun n _ => ?_
  have e : run (n + 1) 49 [.ref σ.length 0, .str s] (σ ++ [[.bld 93 5 l]]) = pWrite (run n) [.ref σ.length 0, .str s] (σ ++ [[.bld 93 5 l]]) := by kernel_rfl
  rw [e]
  simp [pWrite, h]
theorem e48 (σ : Sto) (l : Str) : E 50 [.ref σ.length 0] (σ ++ [[.bld 93 5 l]]) (.str l) (σ ++ [[.dead]]) := by
  refine ev_of_run 0 fun n _ => ?_
  have e : run (n + 1) 50 [.ref σ.length 0] (σ ++ [[.bld 93 5 l]]) = pString (run n) [.ref σ.length 0] (σ ++ [[.bld 93 5 l]]) := by kernel_rfl
  rw [e]
  simp [pString]
theorem joinL_drop (l : List Str) (i : Nat) (h : i < l.length) : joinL (l.drop i) = (l[i] ++ [10]) ++ joinL (l.drop (i + 1)) := by
  rw [List.drop_eq_getElem_cons h]; rfl
theorem written_loop {v : PV} {l : List Str} (hv : RowS v l) (hl : l.length < 4000000000) (σ : Sto) : ∀ (k i : Nat) (bs : Str), l.length - i = k → i ≤ l.length → bs.length + (joinL (l.drop i)).length ≤ 4000000000 →
    LE m21_0 l21_0 [(0, some (.str [])), (5, some (.ref σ.length 0)), (8, some v), (9, some (N l.length)), (10, some (N i))] (σ ++ [[.bld 93 5 bs]]) (.exit 0) [(5, some (.ref σ.length 0)), (8, some v)] (σ ++ [[.bld 93 5 (bs ++ joinL (l.drop i))]])
  | 0, i, bs, hk, hi, hb => by
    have e : l.drop i = [] := List.drop_eq_nil_of_le (by omega)
    rw [e]
    show LE m21_0 l21_0 _ _ _ _ (σ ++ [[.bld 93 5 (bs ++ [])]])
    rw [List.append_nil]
    exact r22_l0_out1 hv (by omega)
  | k + 1, i, bs, hk, hi, hb => by
    have hlt : i < l.length := by omega
    rw [joinL_drop l i hlt] at hb ⊢
    simp only [List.length_append, List.length_cons, List.length_nil] at hb
    have ih := written_loop hv hl σ k (i + 1) (bs ++ (l[i] ++ [10])) (by omega) (by omega) (by simp only [List.length_append, List.length_cons, List.length_nil]; omega)
    rw [List.append_assoc] at ih
    have h47 := e47 σ bs (([] ++ l[i]) ++ [10]) (by simp only [List.length_append, List.length_cons, List.length_nil]; omega)
    simp only [List.nil_append] at h47
    exact r22_l0_next1 hv (by omega) (List.getElem?_eq_getElem hlt) (by simp only [maxStr, List.length_nil]; omega) (by simp only [maxStr, List.length_append, List.length_cons, List.length_nil]; omega) h47 (by omega) ih
theorem e22 {v : PV} {l : List Str} (hv : RowS v l) (h : (joinL l).length < 4000000000) : ∃ σ', E 21 [.str [], v] [] (.str (joinL l)) σ' := by
  have hj := joinL_len l
  have h0 := written_loop hv (by omega) [] l.length 0 [] (by omega) (by omega) (by simpa using Nat.le_of_lt h)
  simp only [List.drop_zero, List.nil_append] at h0
  exact ⟨_, r22 hv h0 (e48 [] (joinL l))⟩
theorem joinL_append (a b : List Str) : joinL (a ++ b) = joinL a ++ joinL b := by simp [joinL]
end Go.Abs.Z
