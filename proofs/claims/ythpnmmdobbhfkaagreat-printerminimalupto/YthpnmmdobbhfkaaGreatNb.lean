/- A part of the proof: N5 N6 N7 N8 N9. -/
import Derived.Test.YthpnmmdobbhfkaaGreatNa

set_option linter.unusedVariables false
set_option linter.unusedSimpArgs false
namespace Go.Abs.Z
open Go.Proofs Go.RowKit
set_option linter.unusedVariables false
set_option linter.unusedSimpArgs false
def Pin (S : List Nat) (a a' : Act) : Prop := ∀ t ∈ S, at' a' t = at' a t
theorem Pin.trans {S : List Nat} {a b c : Act} (h : Pin S a b) (k : Pin S b c) : Pin S a c := fun t ht => (k t ht).trans (h t ht)
theorem stepP (S : List Nat) {K : Nat → Prop} {G : Gh} {W0 : World} {c : Code} {ac : ACode} (hS : (S.all fun t => spares t c) = true) (hc : comp Tryz.prog pur fi6 c = some ac ∧ okCode 118 ac = true) {ff ff' : FF} {e : AExit} (h : CodeEv pur runA ac ff [] e ff' []) {a : Act} {W : World} (hs : SimF (cxW K G W0) ff a W) {n : Nat} {Q : Exit → Act → World → Prop}
    (hq : ∀ a' W', SimF (cxW K G W0) ff' a' W' → Pin S a a' → Q e.ex a' W') : c.wpIn (FW none) n Tryz.prog Q a W :=
  step hc h hs fun a' W' hs' hf => hq a' W' hs' fun t ht => hf t (List.all_eq_true.1 hS t ht)
structure Lp (W1 : World) (v1 : Value) (sB : ByteArray) (a : Act) (W : World) (i : Nat) (l : List Nat) : Prop where
  sz : a.tmps.size = 118
  df : a.defers = []
  h1 : at' a 1 = v1
  h3 : at' a 3 = .string sB
  h28 : at' a 28 = .int .i64 sB.data.toList.length
  h29 : at' a 29 = .int .i64 i
  stk : Stk W1.heap.size W (at' a 5) l
  bel : Below W1.heap.size W1 W
abbrev cxA (W : World) : Cx := cxW (fun b => b < W.heap.size) ⟨IW W, fun _ => none, []⟩ W
theorem fresh0 {a : Act} {W : World} (hsz : a.tmps.size = 118) (hdf : a.defers = []) (ff : List (Nat × PV)) (h : ∀ x ∈ ff, x.1 < 118 ∧ (fi6.kind x.1).val = true ∧ x.2.free = true ∧ RepT (IW W) [] W (at' a x.1) x.2 ∧ ∀ s e, x.2 ≠ .slice true s e) : SimF (cxA W) (ff.map fun x => (x.1, some x.2)) a W := by
  refine fresh hsz hdf (fun b x h => h) (fun b tag h => by cases h) (fun b h => h) rfl fun t p hp => ?_
  obtain ⟨x, hx, e⟩ := List.mem_map.1 (getK_mem hp)
  cases e
  obtain ⟨g1, g2, g3, g4, g5⟩ := h x hx
  exact ⟨g1, g2, g3, g4, own_none fun s e => g5 s e⟩
section
variable {W1 : World} {v1 : Value} {sB : ByteArray} {a a' : Act} {W W' : World} {i : Nat} {l : List Nat} {T : Tr} {I1 : Imm}
theorem Lp.next (h : Lp W1 v1 sB a W i l) {ff : FF} (hs : SimF (cxA W) ff a' W') (hp : Pin [1, 3, 5, 28, 29] a a') : Lp W1 v1 sB a' W' i l := by
  have hb := hs.below
  have hw := h.bel.size
  refine ⟨hs.sz.1, hs.sz.2, (hp 1 (by simp)).trans h.h1, (hp 3 (by simp)).trans h.h3, (hp 28 (by simp)).trans h.h28, (hp 29 (by simp)).trans h.h29, ?_, h.bel.trans (hb.mono hw)⟩
  rw [hp 5 (by simp)]
  exact h.stk.stays hb
theorem Lp.rep1 (h : Lp W1 v1 sB a W i l) (hI : ∀ b x, I1 b x → b < W1.heap.size) (hT : Rep I1 W1 v1 (.vptr T.pv)) : Rep (IW W) W (at' a 1) (.vptr T.pv) := by
  rw [h.h1]
  have hw := h.bel.size
  exact hT.mono (fun b x hb => Nat.lt_of_lt_of_le (hI b x hb) hw) ⟨fun b o hb => cell_of_heap (h.bel.block b (hI _ _ hb)), fun b hb => h.bel.block b (hI _ _ hb)⟩
theorem Lp.base (h : Lp W1 v1 sB a W i l) (hI : ∀ b x, I1 b x → b < W1.heap.size) (hT : Rep I1 W1 v1 (.vptr T.pv)) {x : Nat × PV} (hx : x ∈ [(1, PV.vptr T.pv), (3, PV.str sB.data.toList), (28, N sB.data.toList.length), (29, N i)]) :
    x.1 < 118 ∧ (fi6.kind x.1).val = true ∧ x.2.free = true ∧ RepT (IW W) [] W (at' a x.1) x.2 ∧ ∀ s e, x.2 ≠ .slice true s e := by
  simp only [List.mem_cons, List.not_mem_nil, or_false] at hx
  rcases hx with rfl | rfl | rfl | rfl
  · exact ⟨by simp, rfl, rfl, .one (.inl (h.rep1 hI hT)), by simp⟩
  · exact ⟨by simp, rfl, rfl, by rw [h.h3]; exact .one (.inl (.str _)), by simp⟩
  · exact ⟨by simp, rfl, rfl, by rw [h.h28]; exact .one (.inl (.int _ _)), by simp⟩
  · exact ⟨by simp, rfl, rfl, by rw [h.h29]; exact .one (.inl (.int _ _)), by simp⟩
theorem fin22 (h : Lp W1 v1 sB a W i l) (hI : ∀ b x, I1 b x → b < W1.heap.size) (hT : Rep I1 W1 v1 (.vptr T.pv)) (hi : i < 5000) {n : Nat} {Q : Exit → Act → World → Prop} (hR : ∀ a' W', Lp W1 v1 sB a' W' (i + 1) l → Q .normal a' W') : g22.wpIn (FW none) n Tryz.prog Q a W := by
  have hf := fresh0 h.sz h.df [(1, PV.vptr T.pv), (3, PV.str sB.data.toList), (28, N sB.data.toList.length), (29, N i)] fun x hx => h.base hI hT hx
  refine stepP [1, 3, 5, 28] (by kernel_rfl) q22 (p22 (by omega)) hf fun a' W' hs hp => hR a' W' ?_
  have hb := hs.below
  refine ⟨hs.sz.1, hs.sz.2, (hp 1 (by simp)).trans h.h1, (hp 3 (by simp)).trans h.h3, (hp 28 (by simp)).trans h.h28, hs.int (t := 29) rfl rfl, ?_, h.bel.trans (hb.mono h.bel.size)⟩
  rw [hp 5 (by simp)]
  exact h.stk.stays hb
end
def dp : Nat → List UInt8 → Option Nat
  | n, [] => some n
  | n, c :: r => if c = 40 then dp (n + 1) r else if c = 41 then (match n with | 0 => none | m + 1 => dp m r) else dp n r
def cut2 (s : List UInt8) (o i : Nat) : List UInt8 := s.take o ++ [32] ++ (s.drop (o + 1)).take (i - (o + 1)) ++ [32] ++ s.drop (i + 1)
theorem pU_any {T : Tr} {sb : List UInt8} {i o : Nat} (ho : o < sb.length) (hl : sb.length < 5000) : ∃ e : AExit, (e = .normal ∨ e = .exit 1) ∧ CodeEv pur runA kU [(1, some (.vptr T.pv)), (3, some (.str sb)), (28, some (N sb.length)), (29, some (N i)), (6, some (N i)), (7, some (N o))] [] e [(1, some (.vptr T.pv)), (3, some (.str sb)), (28, some (N sb.length)), (29, some (N i)), (6, some (N i)), (7, some (N o))] [] := by
  by_cases c1 : ((o : Nat) : Int) > 0
  · obtain ⟨c, hc⟩ : ∃ c, (sb : List UInt8)[(o - 1)]? = some c := ⟨_, List.getElem?_eq_getElem (by omega)⟩
    by_cases c3 : ((c.toNat : Nat) : Int) = 32
    · exact ⟨_, .inl rfl, pU_2 c1 (by omega) (by omega) hc c3⟩
    by_cases c5 : ((c.toNat : Nat) : Int) = 40
    · exact ⟨_, .inl rfl, pU_3 c1 (by omega) (by omega) hc c3 (by omega) (by omega) hc c5⟩
    by_cases c7 : ((c.toNat : Nat) : Int) = 45
    · exact ⟨_, .inl rfl, pU_4 c1 (by omega) (by omega) hc c3 (by omega) (by omega) hc c5 (by omega) (by omega) hc c7⟩
    by_cases c9 : ((c.toNat : Nat) : Int) = 91
    · exact ⟨_, .inl rfl, pU_6 c1 (by omega) (by omega) hc c3 (by omega) (by omega) hc c5 (by omega) (by omega) hc c7 (by omega) (by omega) hc c9⟩
    · exact ⟨_, .inr rfl, pU_5 c1 (by omega) (by omega) hc c3 (by omega) (by omega) hc c5 (by omega) (by omega) hc c7 (by omega) (by omega) hc c9⟩
  · exact ⟨_, .inl rfl, pU_1 c1⟩
theorem pV_any {T U : Tr} {sb : List UInt8} {i o : Nat} {dl : List Dg} {z : Int} {σ : Sto} (ho : o < i) (hi : i < sb.length) (hl : sb.length < 5000) (h1 : Ev runA 21 [.str (cut2 sb o i)] [] (.tuple [U.pv, .slice false 5 (dl.map Dg.pv), I z]) σ)
    (h2 : dl ≠ [] ∨ Ev runA 18 [U.pv, T.pv] [] (.bool false) []) : CodeEv pur runA kV [(1, some (.vptr T.pv)), (3, some (.str sb)), (28, some (N sb.length)), (29, some (N i)), (6, some (N i)), (7, some (N o))] [] .normal [(1, some (.vptr T.pv)), (3, some (.str sb)), (28, some (N sb.length)), (29, some (N i))] [] := by
  have hm : 20000 ≤ maxStr := by decide
  have x1 := p_ssl0 sb (o : Int) (by omega) (by omega)
  have x2 := p_ssl sb ((o + 1 : Nat) : Int) (i : Int) (by omega) (by omega) (by omega)
  have x3 := p_ssl1 sb ((i + 1 : Nat) : Int) (by omega) (by omega)
  simp only [Int.toNat_natCast] at x1 x2 x3
  have l1 : (sb.take o).length ≤ 5000 := by rw [List.length_take]; omega
  have l2 : ((sb.drop (o + 1)).take (i - (o + 1))).length ≤ 5000 := by rw [List.length_take, List.length_drop]; omega
  have l3 : (sb.drop (i + 1)).length ≤ 5000 := by rw [List.length_drop]; omega
  by_cases hd : dl = []
  · have h2' := h2.resolve_left (fun h => h hd)
    exact pV_3 x1 (by simp only [List.length_append, List.length_cons, List.length_nil]; omega) (by omega) x2 (by simp only [List.length_append, List.length_cons, List.length_nil]; omega) (by simp only [List.length_append, List.length_cons, List.length_nil]; omega) (by omega) x3 (by simp only [List.length_append, List.length_cons, List.length_nil]; omega) h1 (by rw [hd]; rfl) h2'
  · have : dl.length ≠ 0 := fun h => hd (List.length_eq_zero_iff.1 h)
    exact pV_1 x1 (by simp only [List.length_append, List.length_cons, List.length_nil]; omega) (by omega) x2 (by simp only [List.length_append, List.length_cons, List.length_nil]; omega) (by simp only [List.length_append, List.length_cons, List.length_nil]; omega) (by omega) x3 (by simp only [List.length_append, List.length_cons, List.length_nil]; omega) h1 (by omega)
end Go.Abs.Z

namespace Go.Abs.Z
open Go.Proofs Go.RowKit
set_option linter.unusedVariables false
set_option linter.unusedSimpArgs false
theorem getK_pre : ∀ (A B : FF) (t : Nat) (v : PV), getK A t = some v → getK (A ++ B) t = some v
  | (s, q) :: A, B, t, v, h => by
    have h' : cond (Nat.beq s t) q (getK A t) = some v := h
    show cond (Nat.beq s t) q (getK (A ++ B) t) = some v
    cases hb : Nat.beq s t with
    | true => rw [hb] at h'; exact h'
    | false => rw [hb] at h'; exact getK_pre A B t v h'
theorem SimF.pre {cx : Cx} {A B : FF} {a : Act} {W : World} (hs : SimF cx (A ++ B) a W) : SimF cx A a W := by
  obtain ⟨F, hr, h⟩ := hs
  exact ⟨F, ⟨hr.len, fun t v hv => hr.get t v (getK_pre A B t v hv)⟩, h⟩
def Jn (sb : List UInt8) (i : Nat) (l : List Nat) : Prop := (∀ x ∈ l, x < i ∧ sb[x]? = some 40) ∧ (dp l.length (sb.drop i)).isSome = true
section
variable {W1 : World} {v1 : Value} {sB : ByteArray} {T : Tr} {I1 : Imm}
theorem round6 (hI : ∀ b x, I1 b x → b < W1.heap.size) (hT : Rep I1 W1 v1 (.vptr T.pv)) (hlen : sB.data.toList.length < 5000) (hpar : ∀ o i, o < i → i < sB.data.toList.length → sB.data.toList[o]? = some 40 → sB.data.toList[i]? = some 41 → ∃ (U : Tr) (dl : List Dg) (z : Int) (σ : Sto), Ev runA 21 [.str (cut2 sB.data.toList o i)] [] (.tuple [U.pv, .slice false 5 (dl.map Dg.pv), I z]) σ ∧ (dl ≠ [] ∨ Ev runA 18 [U.pv, T.pv] [] (.bool false) [])) {a : Act} {W : World} {i : Nat} {l : List Nat} (h : Lp W1 v1 sB a W i l) (hi : i ≤ sB.data.toList.length) (hJ : Jn sB.data.toList i l) (hlI : l.length ≤ i) {n : Nat} {Rn : Act → World → Prop} {Qx : Exit → Act → World → Prop}
    (hR : ∀ a' W' l', i < sB.data.toList.length → Lp W1 v1 sB a' W' (i + 1) l' → Jn sB.data.toList (i + 1) l' → l'.length ≤ i + 1 → Rn a' W') (hX : ∀ a' W', Lp W1 v1 sB a' W' i l → i = sB.data.toList.length → Qx (.exit 0) a' W') :
    gL.wpIn (FW none) n Tryz.prog (Exit.then Rn Qx) a W := by
  have hm : 20000 ≤ maxRow := by decide
  have hf0 := fresh0 h.sz h.df [(1, PV.vptr T.pv), (3, PV.str sB.data.toList), (28, N sB.data.toList.length), (29, N i)] fun x hx => h.base hI hT hx
  rw [shapeL]
  refine wpIn_seq (stepP [1, 3, 5, 28, 29] (by kernel_rfl) q8 p8 hf0 fun a1 U1 hs1 hp1 => ?_)
  change (Code.seq (.cond (.tmp 30) .skip (.exit 0)) _).wpIn _ _ _ _ a1 U1
  refine wpIn_seq ?_
  have e30 : a1.eval (.tmp 30) = .bool (decide (((i : Nat) : Int) < ((sB.data.toList.length : Nat) : Int))) := hs1.bool (t := 30) rfl rfl
  by_cases hlt : i < sB.data.toList.length
  · rw [decide_eq_true (by omega)] at e30
    refine wpIn_cond_true e30 (wpIn_skip ?_)
    change (Code.seq (.block 1 _) g22).wpIn _ _ _ _ a1 U1
    refine wpIn_seq (wpIn_block ?_)
    obtain ⟨c, hc⟩ : ∃ c, sB.data.toList[i]? = some c := ⟨_, List.getElem?_eq_getElem hlt⟩
    have hdrop : sB.data.toList.drop i = c :: sB.data.toList.drop (i + 1) := by
      rw [List.drop_eq_getElem_cons hlt]
      rw [List.getElem?_eq_getElem hlt] at hc
      rw [Option.some.inj hc]
    have hJ2 := hJ.2
    rw [hdrop] at hJ2
    have hs1' := SimF.pre (A := [(1, some (.vptr T.pv)), (3, some (.str sB.data.toList)), (28, some (N sB.data.toList.length)), (29, some (N i))]) (B := [_]) hs1
    refine wpIn_seq (stepP [1, 3, 5, 28, 29] (by kernel_rfl) q9 p9 hs1' fun a2 U2 hs2 hp2 => ?_)
    change (Code.seq g10 _).wpIn _ _ _ _ a2 U2
    refine wpIn_seq (stepP [1, 3, 5, 28, 29] (by kernel_rfl) q10 (p10 hc) hs2 fun a3 U3 hs3 hp3 => ?_)
    change (Code.block 2 _).wpIn _ _ _ _ a3 U3
    refine wpIn_block (wpIn_seq (stepP [1, 3, 5, 28, 29] (by kernel_rfl) q11 (p11 (c := c)) hs3 fun a4 U4 hs4 hp4 => ?_))
    change (Code.cond (.tmp 35) _ _).wpIn _ _ _ _ a4 U4
    have hP4 : Pin [1, 3, 5, 28, 29] a a4 := ((hp1.trans hp2).trans hp3).trans hp4
    have L4 := h.next hs4 hP4
    have e6 : at' a4 6 = .int .i64 i := hs4.int (t := 6) rfl rfl
    have e35 : a4.eval (.tmp 35) = .bool ((((c.toNat : Nat) : Int)) == 40) := hs4.bool (t := 35) rfl rfl
    by_cases h40 : c = 40
    · subst h40
      refine wpIn_cond_true e35 (push12 L4.sz L4.df L4.bel.size L4.stk e6 (by omega) fun a5 U5 z5 d5 hf5 hk5 hb5 => ?_)
      change g22.wpIn _ _ _ _ a5 U5
      have hsp : ([1, 3, 28, 29].all fun t => spares t g12) = true := by kernel_rfl
      have hq : ∀ t ∈ [1, 3, 28, 29], at' a5 t = at' a4 t := fun t ht => hf5 t (List.all_eq_true.1 hsp t ht)
      have L5 : Lp W1 v1 sB a5 U5 i (l ++ [i]) := ⟨z5, d5, (hq 1 (by simp)).trans L4.h1, (hq 3 (by simp)).trans L4.h3, (hq 28 (by simp)).trans L4.h28, (hq 29 (by simp)).trans L4.h29, hk5, L4.bel.trans hb5⟩
      refine fin22 L5 hI hT (by omega) fun a6 U6 L6 => hR a6 U6 _ hlt L6 ⟨fun x hx => ?_, ?_⟩ (by simp; omega)
      · rcases List.mem_append.1 hx with hx | hx
        · have := hJ.1 x hx; exact ⟨by omega, this.2⟩
        · simp at hx; subst hx; exact ⟨by omega, hc⟩
      · rw [List.length_append]
        exact hJ2
    · have h40' : ((c.toNat : Nat) : Int) ≠ 40 := fun e => h40 (UInt8.toNat_inj.1 (by rw [show (40 : UInt8).toNat = 40 from rfl]; omega))
      rw [beq_eq_false_iff_ne.2 h40'] at e35
      refine wpIn_cond_false e35 ?_
      have hs4' := SimF.pre (A := [(1, some (.vptr T.pv)), (3, some (.str sB.data.toList)), (28, some (N sB.data.toList.length)), (29, some (N i)), (6, some (N i)), (34, some (.int .u8 ((c.toNat : Nat) : Int)))]) (B := [_]) hs4
      refine wpIn_seq (stepP [1, 3, 5, 28, 29] (by kernel_rfl) q13 (p13 (c := c)) hs4' fun a5 U5 hs5 hp5 => ?_)
      change (Code.cond (.tmp 41) _ _).wpIn _ _ _ _ a5 U5
      have L5 := h.next hs5 (hP4.trans hp5)
      have e6 : at' a5 6 = .int .i64 i := hs5.int (t := 6) rfl rfl
      have e41 : a5.eval (.tmp 41) = .bool ((((c.toNat : Nat) : Int)) == 41) := hs5.bool (t := 41) rfl rfl
      by_cases h41 : c = 41
      · subst h41
        refine wpIn_cond_true e41 ?_
        obtain ⟨m, hlm⟩ : ∃ m, l.length = m + 1 := by
          cases hl0 : l.length with
          | zero => rw [hl0] at hJ2; simp [dp] at hJ2
          | succ m => exact ⟨m, rfl⟩
        rw [hlm] at hJ2
        have hl1 : (l.map pN).length = m + 1 := by rw [List.length_map, hlm]
        obtain ⟨o, ho⟩ : ∃ o, l[m]? = some o := ⟨_, List.getElem?_eq_getElem (by omega)⟩
        obtain ⟨ho1, ho2⟩ := hJ.1 o (List.mem_of_getElem? ho)
        have hr5 : RepT (IW U5) [] U5 (at' a5 5) (.slice false 1 (l.map pN)) := by
          rcases L5.stk with ⟨_, e⟩ | ⟨b, off, cap, cs, elem, k1, k2, k3, k4, k5, k6, k7⟩
          · rw [e] at hlm; simp at hlm
          · rw [k1]; exact .one (.inl (rep_stk (fun j hj => k3) rfl k6 k4 k7))
        have hf5 := fresh0 L5.sz L5.df [(1, PV.vptr T.pv), (3, PV.str sB.data.toList), (28, N sB.data.toList.length), (29, N i), (6, N i), (5, PV.slice false 1 (l.map pN))] fun x hx => by
          by_cases hx' : x ∈ [(1, PV.vptr T.pv), (3, PV.str sB.data.toList), (28, N sB.data.toList.length), (29, N i)]
          · exact L5.base hI hT hx'
          · have : x = (6, N i) ∨ x = (5, PV.slice false 1 (l.map pN)) := by
              simp only [List.mem_cons, List.not_mem_nil, or_false] at hx hx'
              rcases hx with hx | hx | hx | hx | hx | hx
              · exact absurd (.inl hx) hx'
              · exact absurd (.inr (.inl hx)) hx'
              · exact absurd (.inr (.inr (.inl hx))) hx'
              · exact absurd (.inr (.inr (.inr hx))) hx'
              · exact .inl hx
              · exact .inr hx
            rcases this with rfl | rfl
            · exact ⟨by simp, rfl, rfl, by rw [e6]; exact .one (.inl (.int _ _)), by simp⟩
            · exact ⟨by simp, rfl, rfl, hr5, by simp⟩
        refine wpIn_seq (stepP [1, 3, 5, 28, 29] (by kernel_rfl) q14 (p14 (by rw [hl1]; omega)) hf5 fun a6 U6 hs6 hp6 => ?_)
        change (Code.seq g16 _).wpIn _ _ _ _ a6 U6
        refine wpIn_seq (stepP [1, 3, 5, 28, 29] (by kernel_rfl) q16 (p16 (o := o) (by omega) (by omega) (by rw [hl1, List.getElem?_map]; simp [ho, pN])) hs6 fun a7 U7 hs7 hp7 => ?_)
        change (Code.seq g17 _).wpIn _ _ _ _ a7 U7
        have L7 := L5.next hs7 (hp6.trans hp7)
        have e6 : at' a7 6 = .int .i64 i := hs7.int (t := 6) rfl rfl
        have e7 : at' a7 7 = .int .i64 o := hs7.int (t := 7) rfl rfl
        refine wpIn_seq (pop17 L7.sz L7.stk hlm (by omega) fun a8 z8 d8 hf8 hk8 => ?_)
        change (Code.seq gU gV).wpIn _ _ _ _ a8 U7
        have hsp : ([1, 3, 28, 29, 6, 7].all fun t => spares t g17) = true := by kernel_rfl
        have hq : ∀ t ∈ [1, 3, 28, 29, 6, 7], at' a8 t = at' a7 t := fun t ht => hf8 t (List.all_eq_true.1 hsp t ht)
        have L8 : Lp W1 v1 sB a8 U7 i (l.take m) := ⟨z8, d8.trans L7.df, (hq 1 (by simp)).trans L7.h1, (hq 3 (by simp)).trans L7.h3, (hq 28 (by simp)).trans L7.h28, (hq 29 (by simp)).trans L7.h29, hk8, L7.bel⟩
        have hf8 := fresh0 L8.sz L8.df [(1, PV.vptr T.pv), (3, PV.str sB.data.toList), (28, N sB.data.toList.length), (29, N i), (6, N i), (7, N o)] fun x hx => by
          by_cases hx' : x ∈ [(1, PV.vptr T.pv), (3, PV.str sB.data.toList), (28, N sB.data.toList.length), (29, N i)]
          · exact L8.base hI hT hx'
          · have : x = (6, N i) ∨ x = (7, N o) := by
              simp only [List.mem_cons, List.not_mem_nil, or_false] at hx hx'
              rcases hx with hx | hx | hx | hx | hx | hx
              · exact absurd (.inl hx) hx'
              · exact absurd (.inr (.inl hx)) hx'
              · exact absurd (.inr (.inr (.inl hx))) hx'
              · exact absurd (.inr (.inr (.inr hx))) hx'
              · exact .inl hx
              · exact .inr hx
            rcases this with rfl | rfl
            · exact ⟨by simp, rfl, rfl, by rw [(hq 6 (by simp)).trans e6]; exact .one (.inl (.int _ _)), by simp⟩
            · exact ⟨by simp, rfl, rfl, by rw [(hq 7 (by simp)).trans e7]; exact .one (.inl (.int _ _)), by simp⟩
        have hJ' : Jn sB.data.toList (i + 1) (l.take m) := by
          refine ⟨fun x hx => ?_, ?_⟩
          · have := hJ.1 x (List.mem_of_mem_take hx); exact ⟨by omega, this.2⟩
          · rw [List.length_take, hlm, Nat.min_eq_left (by omega)]
            exact hJ2
        have hl' : (l.take m).length ≤ i + 1 := by rw [List.length_take]; omega
        obtain ⟨e, he, hU⟩ := pU_any (T := T) (sb := sB.data.toList) (i := i) (o := o) (by omega) hlen
        refine wpIn_seq (stepP [1, 3, 5, 28, 29] (by kernel_rfl) qU hU hf8 fun a9 U9 hs9 hp9 => ?_)
        have L9 := L8.next hs9 hp9
        rcases he with rfl | rfl
        · change gV.wpIn _ _ _ _ a9 U9
          obtain ⟨V, dl, z, σ, hv1, hv2⟩ := hpar o i ho1 hlt ho2 hc
          refine stepP [1, 3, 5, 28, 29] (by kernel_rfl) qV (pV_any ho1 hlt hlen hv1 hv2) hs9 fun a10 U10 hs10 hp10 => ?_
          have L10 := L8.next hs10 (hp9.trans hp10)
          change g22.wpIn _ _ _ _ a10 U10
          exact fin22 L10 hI hT (by omega) fun a' W' L => hR a' W' _ hlt L hJ' hl'
        · change g22.wpIn _ _ _ _ a9 U9
          exact fin22 L9 hI hT (by omega) fun a' W' L => hR a' W' _ hlt L hJ' hl'
      · have h41' : ((c.toNat : Nat) : Int) ≠ 41 := fun e => h41 (UInt8.toNat_inj.1 (by rw [show (41 : UInt8).toNat = 41 from rfl]; omega))
        rw [beq_eq_false_iff_ne.2 h41'] at e41
        refine wpIn_cond_false e41 (wpIn_skip ?_)
        change g22.wpIn _ _ _ _ a5 U5
        refine fin22 L5 hI hT (by omega) fun a' W' L => hR a' W' _ hlt L ⟨fun x hx => ?_, ?_⟩ (by omega)
        · have := hJ.1 x hx; exact ⟨by omega, this.2⟩
        · simp only [dp, if_neg h40, if_neg h41] at hJ2
          exact hJ2
  · rw [decide_eq_false (by omega)] at e30
    refine wpIn_cond_false e30 (wpIn_exit ?_)
    exact hX a1 U1 (h.next hs1 hp1) (by omega)
theorem loop6 (hI : ∀ b x, I1 b x → b < W1.heap.size) (hT : Rep I1 W1 v1 (.vptr T.pv)) (hlen : sB.data.toList.length < 5000) (hpar : ∀ o i, o < i → i < sB.data.toList.length → sB.data.toList[o]? = some 40 → sB.data.toList[i]? = some 41 → ∃ (U : Tr) (dl : List Dg) (z : Int) (σ : Sto), Ev runA 21 [.str (cut2 sB.data.toList o i)] [] (.tuple [U.pv, .slice false 5 (dl.map Dg.pv), I z]) σ ∧ (dl ≠ [] ∨ Ev runA 18 [U.pv, T.pv] [] (.bool false) [])) {a : Act} {W : World} (h : Lp W1 v1 sB a W 0 []) (hd : (dp 0 sB.data.toList).isSome = true) {n : Nat} {Q : Exit → Act → World → Prop} (hX : ∀ a' W' l, Lp W1 v1 sB a' W' sB.data.toList.length l → Q .normal a' W') : (Code.block 0 (.loop gL)).wpIn (FW none) n Tryz.prog Q a W := by
  refine wpIn_block (wpIn_loop (fun a W => ∃ i l, i ≤ sB.data.toList.length ∧ Lp W1 v1 sB a W i l ∧ Jn sB.data.toList i l ∧ l.length ≤ i) (fun a _ => match at' a 29 with | .int _ x => (sB.data.toList.length - x.toNat) | _ => 0)
    ⟨0, [], Nat.zero_le _, h, ⟨by simp, by simpa using hd⟩, Nat.le_refl _⟩ ?_)
  rintro a W ⟨i, l, hi, hL, hJ, hl⟩
  refine round6 hI hT hlen hpar hL hi hJ hl (fun a' W' l' hlt L hJ' hl' => ⟨⟨i + 1, l', by omega, L, hJ', hl'⟩, ?_⟩) (fun a' W' L e => ?_)
  · rw [L.h29, hL.h29]
    show sB.data.toList.length - ((i + 1 : Nat) : Int).toNat < sB.data.toList.length - ((i : Nat) : Int).toNat
    omega
  · subst e
    show (if (0 : Nat) = 0 then Q .normal a' W' else Q (.exit 0) a' W')
    rw [if_pos rfl]
    exact hX a' W' l L
end
end Go.Abs.Z

namespace Go.Abs.Z
open Go.Proofs Go.RowKit
set_option linter.unusedVariables false
set_option linter.unusedSimpArgs false
theorem seq_n {x y : Code} {n : Nat} {Q : Exit → Act → World → Prop} {a : Act} {W : World} (h : x.wpIn (FW none) n Tryz.prog (Exit.then (y.wpIn (FW none) n Tryz.prog Q) Q) a W) : (Code.seq x y).wpIn (FW none) n Tryz.prog Q a W := wpIn_seq h
def MinOk (T : Tr) (sb : List UInt8) : Prop :=
  Ev runA 20 [T.pv] [] (.tuple [.str sb, I 0]) [] ∧ sb.length < 5000 ∧ (dp 0 sb).isSome = true ∧
    ∀ o i, o < i → i < sb.length → sb[o]? = some 40 → sb[i]? = some 41 → ∃ (U : Tr) (dl : List Dg) (z : Int) (σ : Sto), Ev runA 21 [.str (cut2 sb o i)] [] (.tuple [U.pv, .slice false 5 (dl.map Dg.pv), I z]) σ ∧ (dl ≠ [] ∨ Ev runA 18 [U.pv, T.pv] [] (.bool false) [])
theorem minimal_ok (T : Tr) (h : Ev runA 8 [T.pv, I 60] [] (.bool false) [] ∨ (Ev runA 8 [T.pv, I 60] [] (.bool true) [] ∧ Ev runA 19 [T.pv] [] (.bool false) []) ∨ (Ev runA 8 [T.pv, I 60] [] (.bool true) [] ∧ Ev runA 19 [T.pv] [] (.bool true) [] ∧ ∃ sb, MinOk T sb)) :
    CallOk Tryz.prog 6 [T.pv] [] (.bool true) [] := by
  refine ⟨⟨Tryz.f6, Tryz.func6, by kernel_rfl, by kernel_rfl⟩, fun m vs w G K hargs hpre => ?_⟩
  have hinit := inv_init (fi := fi6) ok6i hpre hargs (fun p hp => by simp at hp; subst hp; exact Tr.pv_disown _) (by show (1 : Nat) ≤ 118; decide) (fun t ht => by
    have : t = 0 := by simpa using ht
    subst this; rfl) 0
  have hvs : vs.size = 1 := by simpa using hargs.1
  have hs : SimF (cxW K G w) [(0, some T.pv)] { tmps := vs ++ Array.replicate (fi6.nt - vs.size) undef, defers := [] } w := by
    refine ⟨_, ⟨rfl, fun t v hv => ?_⟩, G, hinit⟩
    have := getK_mem hv
    simp at this
    obtain ⟨rfl, rfl⟩ := this
    rfl
  refine callsIn_of_wp (c := code6) Tryz.func6 rfl trivial ?_
  rw [shape6]
  have early : ∀ a' W', SimF (cxW K G w) [(2, some (.bool true))] a' W' → a'.defers = [] ∧ ∃ v, (results Tryz.f6 a'.tmps).run Tryz.prog W' = .ok v W' ∧ ∃ v_1 G', Ending.returned v = Ending.returned v_1 ∧ RepT G'.I G'.bl W' v_1 (.bool true) ∧ Aft K G w [] G' W' := by
    intro a' W' hs'
    have h2 := hs'.bool (t := 2) rfl rfl
    obtain ⟨A, _, G', hi⟩ := hs'
    have hb := hi.base
    refine ⟨hi.defers, .bool true, ?_, .bool true, G', rfl, .one (.inl (.bool _)), ⟨hb.keep, hb.same, hb.sub, hb.new, hb.lt, hb.own, hb.grow, hb.bl, hb.os, hb.tape, hb.output, hi.obj, hi.len⟩⟩
    rw [results_tmp (t := 2) rfl]
    rw [show a'.tmps.getD 2 undef = .bool true from h2]
  refine seq_n (step q0 p0 hs fun a1 U1 hs1 _ => ?_)
  change (Code.seq gB _).wpIn _ _ _ _ a1 U1
  rcases h with h8 | ⟨h8, h19⟩ | ⟨h8, h19, sb, h20, hlen, hd, hpar⟩
  · exact seq_n (step qB (pB_1 h8 evA9) hs1 fun a2 U2 hs2 _ => early a2 U2 hs2)
  · exact seq_n (step qB (pB_3 h8 h19 evA9) hs1 fun a2 U2 hs2 _ => early a2 U2 hs2)
  refine seq_n (step qB (pB_2 h8 h19) hs1 fun a2 U2 hs2 _ => ?_)
  change (Code.seq g3 _).wpIn _ _ _ _ a2 U2
  refine seq_n (step q3 (p3 h20) hs2 fun a3 U3 hs3 _ => ?_)
  change (Code.seq gD _).wpIn _ _ _ _ a3 U3
  refine seq_n (step qD pD hs3 fun a4 U4 hs4 _ => ?_)
  change (Code.seq g5 _).wpIn _ _ _ _ a4 U4
  refine seq_n (step q5 p5 hs4 fun a5 U5 hs5 _ => ?_)
  change (Code.seq (.seq g7 _) _).wpIn _ _ _ _ a5 U5
  refine seq_n (seq_n (step q7 p7 hs5 fun a6 U6 hs6 _ => ?_))
  change (Code.block 0 (.loop gL)).wpIn _ _ _ _ a6 U6
  obtain ⟨sB, e3, rfl⟩ : ∃ sB : ByteArray, at' a6 3 = .string sB ∧ sB.data.toList = sb := by
    obtain ⟨_, _, _, h3, _⟩ := hs6.rep (t := 3) rfl rfl rfl
    exact h3.str_inv
  have e28 := hs6.int (t := 28) rfl rfl
  have e29 := hs6.int (t := 29) rfl rfl
  have e5 : at' a6 5 = .slice none 0 0 := by
    obtain ⟨_, _, _, h3, _⟩ := hs6.rep (t := 5) rfl rfl rfl
    exact h3.nils_inv
  have hz := hs6.sz
  obtain ⟨G1, A1, hi1, hr1, _⟩ := hs6.rep (t := 1) (p := .vptr T.pv) rfl rfl rfl
  have hT := hr1.flat rfl
  have hb1 := hi1.base
  have L0 : Lp U6 (at' a6 1) sB a6 U6 0 [] := ⟨hz.1, hz.2, rfl, e3, e28, e29, .inl ⟨e5, rfl⟩, Below.refl _ _⟩
  refine loop6 hb1.lt hT hlen hpar L0 hd fun a7 U7 l L7 => ?_
  change (Code.seq g23 .ret).wpIn _ _ _ _ a7 U7
  have hf7 := fresh0 L7.sz L7.df [(1, PV.vptr T.pv)] fun x hx => L7.base hb1.lt hT (by simp at hx; simp [hx])
  refine seq_n (step q23 (p23 evA9) hf7 fun a8 U8 hs8 _ => wpIn_ret ?_)
  have h2 := hs8.bool (t := 2) rfl rfl
  have hbel := L7.bel.trans (hs8.below.mono L7.bel.size)
  have hg : w.heap.size ≤ U6.heap.size := hb1.grow
  refine ⟨hs8.sz.2, .bool true, ?_, .bool true, ⟨G1.I, fun _ => none, []⟩, rfl, .one (.inl (.bool _)), ?_⟩
  · rw [results_tmp (t := 2) rfl]
    rw [show a8.tmps.getD 2 undef = .bool true from h2]
  · refine ⟨fun b hk => ?_, ?_, hb1.sub, hb1.new, fun b x hb => Nat.lt_of_lt_of_le (hb1.lt b x hb) hbel.size, (fun b tag hb => by cases hb), Nat.le_trans hg hbel.size, ?_, hbel.os.trans hb1.os, hbel.tape.trans hb1.tape, hbel.output.trans hb1.output, (fun id cs hc => by simp at hc), rfl⟩
    · have : b < w.heap.size := hpre.Klt b hk
      rw [hbel.block b (by omega)]; exact hb1.keep b hk
    · have hs0 : Same G.I w U6 := hb1.same
      refine ⟨fun b o hb => ?_, fun b hb => ?_⟩
      · rw [cell_of_heap (hbel.block b (hb1.lt b _ (hb1.sub b _ hb)))]; exact hs0.cell b o hb
      · rw [hbel.block b (hb1.lt b _ (hb1.sub b _ hb))]; exact hs0.blk b hb
    · have : G.bl = [] := List.length_eq_zero_iff.1 hpre.len
      rw [this]; exact List.prefix_rfl
end Go.Abs.Z

namespace Go.Abs.Z
open Go.Proofs Go.RowKit
set_option linter.unusedVariables false
set_option linter.unusedSimpArgs false
theorem dp_app : ∀ (a b : List UInt8) (n : Nat), dp n (a ++ b) = (dp n a).bind fun m => dp m b
  | [], b, n => rfl
  | c :: a, b, n => by
    rw [List.cons_append]
    by_cases h1 : c = 40
    · simp only [dp, if_pos h1]; exact dp_app a b (n + 1)
    · by_cases h2 : c = 41
      · simp only [dp, if_neg h1, if_pos h2]
        cases n with
        | zero => rfl
        | succ m => exact dp_app a b m
      · simp only [dp, if_neg h1, if_neg h2]; exact dp_app a b n
def Bal (s : List UInt8) : Prop := ∀ n, dp n s = some n
theorem Bal.app {a b : List UInt8} (ha : Bal a) (hb : Bal b) : Bal (a ++ b) := fun n => by rw [dp_app, ha n]; exact hb n
theorem bal_plain : ∀ {s : List UInt8}, (s.all fun c => c != 40 && c != 41) = true → Bal s
  | [], _, n => rfl
  | c :: s, h, n => by
    simp only [List.all_cons, Bool.and_eq_true, bne_iff_ne, ne_eq] at h
    simp only [dp, if_neg h.1.1, if_neg h.1.2]
    exact bal_plain (by simpa using h.2) n
theorem Bal.par {s : List UInt8} (h : Bal s) : Bal ([40] ++ (s ++ [41])) := fun n => by
  show dp (n + 1) (s ++ [41]) = some n
  rw [dp_app, h (n + 1)]; rfl
theorem bal_par {k : Int} {t : List UInt8} {i : Nat} {U : Tr} {s : List UInt8} (h : Bal s) : Bal (par k t i U s) := by
  unfold Z.par
  split
  · rw [List.append_assoc]; exact h.par
  · exact h
theorem word_plain {c : UInt8} (h : wordB c = true) : (c != 40 && c != 41) = true := by
  simp only [Bool.and_eq_true, bne_iff_ne, ne_eq]
  refine ⟨?_, ?_⟩ <;> (rintro rfl; revert h; decide)
theorem bal_name {x : List UInt8} (h : nameB x = true) : Bal x := by
  simp only [nameB, Bool.and_eq_true, decide_eq_true_eq] at h
  have := (span_all wordB x).1 h.2
  exact bal_plain (List.all_eq_true.2 fun c hc => word_plain (List.all_eq_true.1 this c hc))
theorem bal_commas {k : Int} {t : List UInt8} {d : Nat} : ∀ (ks : List Tr) (i : Nat), (∀ U ∈ ks, Bal (prt U d)) → Bal (commasT (prts ks k t i d))
  | [], i, _ => by rw [prts]; simp [commasT, Lib.join_nil]; exact bal_plain rfl
  | [U], i, h => by
    have : commasT (prts [U] k t i d) = par k t i U (prt U d) := by rw [prts, prts]; simp [commasT, Lib.join_one]
    rw [this]; exact bal_par (h U (by simp))
  | U :: V :: us, i, h => by
    have : commasT (prts (U :: V :: us) k t i d) = par k t i U (prt U d) ++ ([44] ++ ([32] ++ commasT (prts (V :: us) k t (i + 1) d))) := by
      rw [prts, prts, commas2]
    rw [this]
    exact (bal_par (h U (by simp))).app ((bal_plain rfl).app ((bal_plain rfl).app (bal_commas (V :: us) (i + 1) fun W hW => h W (List.mem_cons_of_mem _ hW))))
theorem expr_bal : ∀ (n : Nat) (T : Tr) (d : Nat), T.pre.length ≤ n → Good T d → 20 ≤ T.kind ∧ T.kind ≤ 29 → Bal (prt T d)
  | 0, T, d, h, _, _ => by obtain ⟨k, t, a, e, n, ks⟩ := T; simp [Tr.pre] at h
  | n + 1, T, d, h, hg, h20 => by
    have ih : ∀ U ∈ T.kids, 20 ≤ U.kind ∧ U.kind ≤ 29 → Bal (prt U d) := fun U hU h20 => expr_bal n U d (by have := kid_lt T U hU; omega) (hg.kid hU d (by omega)) h20
    obtain ⟨_, _, _, htx, _, _, hkk⟩ := loc_parts hg.loc
    have : T.kind = 20 ∨ T.kind = 21 ∨ T.kind = 22 ∨ T.kind = 23 ∨ T.kind = 24 ∨ T.kind = 25 ∨ T.kind = 26 ∨ T.kind = 27 ∨ T.kind = 28 ∨ T.kind = 29 := by omega
    rcases this with hk | hk | hk | hk | hk | hk | hk | hk | hk | hk
    · rw [hk] at htx
      have he : prt T d = T.text := by rw [prt_eq]; simp [prts, nodeT, at2, hk]
      rw [he]; exact bal_name (by simpa [textOk] using htx)
    · obtain ⟨U, V, hks, c0, c1⟩ := inv2 hg.loc hk rfl rfl
      simp [kidOk] at c0
      simp [kidOk, isExpB] at c1
      have he : prt T d = (par T.kind T.text 0 U (prt U d) ++ ([91] ++ (par T.kind T.text 1 V (prt V d) ++ ([93] ++ [])))) := by rw [prt_eq, hks]; simp [prts, nodeT, at2, hk]
      rw [he]
      exact (bal_par (ih U (by rw [hks]; simp) (by omega))).app ((bal_plain rfl).app ((bal_par (ih V (by rw [hks]; simp) c1)).app (bal_plain rfl)))
    · obtain ⟨U, hks, c0⟩ := inv1 hg.loc hk rfl rfl
      simp [kidOk] at c0
      rw [hk] at htx
      have he : prt T d = (par T.kind T.text 0 U (prt U d) ++ ([46] ++ T.text)) := by rw [prt_eq, hks]; simp [prts, nodeT, at2, hk]
      rw [he]
      exact (bal_par (ih U (by rw [hks]; simp) (by omega))).app ((bal_plain rfl).app (bal_name (by simpa [textOk] using htx)))
    · obtain ⟨U, hks, c0⟩ := inv1 hg.loc hk rfl rfl
      simp [kidOk] at c0
      have he : prt T d = ([108, 101, 110] ++ ([40] ++ (par T.kind T.text 0 U (prt U d) ++ [41]))) := by rw [prt_eq, hks]; simp [prts, nodeT, at2, hk]
      rw [he]
      exact (bal_plain rfl).app (bal_par (ih U (by rw [hks]; simp) (by omega))).par
    · rw [hk] at htx
      have he : prt T d = T.text := by rw [prt_eq]; simp [prts, nodeT, at2, hk]
      have hn : numberB T.text = true := by simpa [textOk] using htx
      simp only [numberB, numOk, Bool.and_eq_true, decide_eq_true_eq] at hn
      rw [he]
      exact bal_plain (List.all_eq_true.2 fun c hc => word_plain (by unfold wordB; rw [List.all_eq_true.1 hn.1.2 c hc]; simp))
    · rw [hk] at htx
      have he : prt T d = T.text := by rw [prt_eq]; simp [nodeT, hk]
      simp [textOk] at htx
      rcases htx with h | h <;> rw [he, h] <;> exact bal_plain rfl
    · rw [hk] at hkk
      have he : prt T d = ([91] ++ (commasT (prts T.kids T.kind T.text 0 d) ++ ([93] ++ []))) := by rw [prt_eq]; simp [prts, nodeT, at2, hk]
      rw [he]
      exact (bal_plain rfl).app ((bal_commas T.kids 0 fun U hU => ih U hU (kids_exp (.inl rfl) hkk U hU)).app (bal_plain rfl))
    · rw [hk] at htx hkk
      have he : prt T d = (T.text ++ ([40] ++ (commasT (prts T.kids T.kind T.text 0 d) ++ [41]))) := by rw [prt_eq]; simp [prts, nodeT, at2, hk]
      rw [he]
      exact (bal_name (by simpa [textOk] using htx)).app (bal_commas T.kids 0 fun U hU => ih U hU (kids_exp (.inr rfl) hkk U hU)).par
    · obtain ⟨U, hks, c0⟩ := inv1 hg.loc hk rfl rfl
      simp [kidOk, isExpB] at c0
      rw [hk] at htx
      have h1 := bal_par (k := T.kind) (t := T.text) (i := 0) (U := U) (ih U (by rw [hks]; simp) c0)
      by_cases hn : T.text = [110, 111, 116]
      · have he : prt T d = [110, 111, 116] ++ ([32] ++ par T.kind T.text 0 U (prt U d)) := by rw [prt_eq, hks]; simp [prts, nodeT, at2, hk, hn]
        rw [he]; exact (bal_plain rfl).app ((bal_plain rfl).app h1)
      · have ht2 : T.text = [45] := by simpa [textOk, hn] using htx
        have he : prt T d = [45] ++ par T.kind T.text 0 U (prt U d) := by rw [prt_eq, hks]; simp [prts, nodeT, at2, hk, ht2]
        rw [he]; exact (bal_plain rfl).app h1
    · obtain ⟨U, V, hks, c0, c1⟩ := inv2 hg.loc hk rfl rfl
      simp [kidOk, isExpB] at c0 c1
      rw [hk] at htx
      have hop : binOps.contains T.text = true := by simpa [textOk] using htx
      have h5 : Bal T.text := by
        simp [binOps] at hop
        rcases hop with h | h | h | h | h | h | h | h | h | h | h | h | h <;> rw [h] <;> exact bal_plain rfl
      have he : prt T d = (par T.kind T.text 0 U (prt U d) ++ ([32] ++ (T.text ++ ([32] ++ par T.kind T.text 1 V (prt V d))))) := by rw [prt_eq, hks]; simp [prts, nodeT, at2, hk]
      rw [he]
      exact (bal_par (ih U (by rw [hks]; simp) c0)).app ((bal_plain rfl).app (h5.app ((bal_plain rfl).app (bal_par (ih V (by rw [hks]; simp) c1)))))
theorem span_eq {p : UInt8 → Bool} : ∀ {x rest : List UInt8}, spanB p (x ++ rest) = x.length → x.all p = true ∧ ∀ c, rest.head? = some c → p c = false
  | [], rest, h => by
    refine ⟨rfl, fun c hc => ?_⟩
    cases rest with
    | nil => cases hc
    | cons d r =>
      cases hc
      cases hp : p c with
      | false => rfl
      | true => simp [spanB, List.takeWhile_cons, hp] at h
  | c :: x, rest, h => by
    unfold spanB at h
    rw [List.cons_append, List.takeWhile_cons] at h
    cases hp : p c with
    | false => rw [hp] at h; simp at h
    | true =>
      rw [hp, if_pos rfl, List.length_cons, List.length_cons] at h
      obtain ⟨h1, h2⟩ := span_eq (p := p) (x := x) (rest := rest) (by unfold spanB; omega)
      exact ⟨by simp [hp, h1], h2⟩
theorem tok_parts {kd : Nat} {x rest : List UInt8} (hx : x ≠ []) (hk : kd ≤ 3) (h : tokOk kd x rest) :
    (letterB (x.getD 0 0) = true ∧ (if keywordB x then (1 : Nat) else 0) = kd ∧ x.all wordB = true ∧ ∀ c, rest.head? = some c → wordB c = false) ∨
    (letterB (x.getD 0 0) = false ∧ digitB (x.getD 0 0) = true ∧ kd = 2 ∧ x.all digitB = true ∧ ∀ c, rest.head? = some c → digitB c = false) ∨
    (letterB (x.getD 0 0) = false ∧ digitB (x.getD 0 0) = false ∧ kd = 3 ∧ (if 2 ≤ (x ++ rest).length ∧ sym2.contains ((x ++ rest).take 2) = true then 2 else if sym1.contains ((x ++ rest).take 1) = true then 1 else 0) = x.length) := by
  have h0 := h []
  unfold tokenB at h0
  have hd : ([] ++ (x ++ rest)).getD ([] : List UInt8).length 0 = x.getD 0 0 := by rw [getD_pre, getD_app hx]
  have hdr : ([] ++ (x ++ rest)).drop ([] : List UInt8).length = x ++ rest := drop_pre _ _
  simp only [hd, hdr] at h0
  have hl0 : ([] : List UInt8).length = 0 := rfl
  have hxl : 0 < x.length := List.length_pos_iff.2 hx
  cases h1 : letterB (x.getD 0 0) with
  | true =>
    rw [h1, if_pos rfl] at h0
    injection h0 with e1 e2
    rw [hl0] at e2
    have hs : spanB wordB (x ++ rest) = x.length := by omega
    obtain ⟨g1, g2⟩ := span_eq hs
    have ht : (x ++ rest).take x.length = x := by simp
    rw [hs, ht] at e1
    refine .inl ⟨rfl, ?_, g1, g2⟩
    cases hkw : keywordB x with
    | true => rw [hkw] at e1; simp at e1 ⊢; omega
    | false => rw [hkw] at e1; simp at e1 ⊢; omega
  | false =>
    rw [h1, if_neg (by simp)] at h0
    cases h2 : digitB (x.getD 0 0) with
    | true =>
      rw [h2, if_pos rfl] at h0
      injection h0 with e1 e2
      rw [hl0] at e2
      have hs : spanB digitB (x ++ rest) = x.length := by omega
      obtain ⟨g1, g2⟩ := span_eq hs
      exact .inr (.inl ⟨rfl, rfl, by omega, g1, g2⟩)
    | false =>
      rw [h2, if_neg (by simp), sym_pre] at h0
      generalize (if 2 ≤ (x ++ rest).length ∧ sym2.contains ((x ++ rest).take 2) = true then 2 else if sym1.contains ((x ++ rest).take 1) = true then 1 else 0) = v at h0 ⊢
      split at h0
      · injection h0 with e1 e2
        rw [hl0] at e2
        exact .inr (.inr ⟨rfl, rfl, by omega, by omega⟩)
      · injection h0 with e1 e2
        omega
theorem tok_rest {kd : Nat} {x rest rest' : List UInt8} (hx : x ≠ []) (hk : kd ≤ 3) (h : tokOk kd x rest) (hr : rest'.head? = rest.head? ∨ rest'.head? = some 32) : tokOk kd x rest' := by
  have hh : ∀ (p : UInt8 → Bool), p 32 = false → (∀ c, rest.head? = some c → p c = false) → ∀ c, rest'.head? = some c → p c = false := by
    intro p hp h c hc
    rcases hr with e | e
    · exact h c (by rw [← e]; exact hc)
    · rw [e] at hc; cases hc; exact hp
  intro pre
  unfold tokenB
  simp only [getD_pre, drop_pre, getD_app hx]
  rcases tok_parts hx hk h with ⟨h1, h2, h3, h4⟩ | ⟨h1, h2, rfl, h3, h4⟩ | ⟨h1, h2, rfl, h3⟩
  · have := span_app wordB x rest' h3 (hh wordB (by decide) h4)
    have ht : (x ++ rest').take x.length = x := by simp
    rw [if_pos h1, this, ht, ← h2]
    cases keywordB x <;> rfl
  · have := span_app digitB x rest' h3 (hh digitB (by decide) h4)
    rw [if_neg (by rw [h1]; decide), if_pos h2, this]; rfl
  · have hxl : 0 < x.length := List.length_pos_iff.2 hx
    have hs : symB (pre ++ (x ++ rest')) pre.length = x.length := by
      rw [sym_pre]
      match x, hx, h3 with
      | [c], _, h3 =>
        have n2 : ¬ (2 ≤ ([c] ++ rest).length ∧ sym2.contains (([c] ++ rest).take 2) = true) := by
          intro h; rw [if_pos h] at h3; simp at h3
        rw [if_neg n2] at h3
        have n1 : sym1.contains [c] = true := by
          cases h : sym1.contains [c] with
          | true => rfl
          | false =>
            have : ([c] ++ rest).take 1 = [c] := by simp
            rw [this, h] at h3; simp at h3
        have n3 : ¬ (2 ≤ ([c] ++ rest').length ∧ sym2.contains (([c] ++ rest').take 2) = true) := by
          rintro ⟨g1, g2⟩
          cases rest' with
          | nil => simp at g1
          | cons d r =>
            rcases hr with e | e
            · cases rest with
              | nil => simp at e
              | cons d' r' =>
                simp at e
                subst e
                exact n2 ⟨by simp, by simpa using g2⟩
            · simp at e
              subst e
              simp [sym2] at g2
        rw [if_neg n3, if_pos (by simpa using n1)]; rfl
      | [c, d], _, h3 =>
        have : sym2.contains [c, d] = true := by
          cases h : sym2.contains [c, d] with
          | true => rfl
          | false =>
            have e : ([c, d] ++ rest).take 2 = [c, d] := by simp
            rw [e, h, if_neg (by simp)] at h3
            split at h3 <;> simp at h3
        rw [if_pos ⟨by simp, by simpa using this⟩]; rfl
      | c :: d :: e :: r, _, h3 =>
        exfalso
        split at h3
        · simp at h3
        · split at h3 <;> simp at h3
    rw [if_neg (by rw [h1]; decide), if_neg (by rw [h2]; decide), hs, if_pos hxl]; rfl
theorem tok_par {kd : Nat} {x rest : List UInt8} (hx : x ≠ []) (hk : kd ≤ 3) (h : tokOk kd x rest) {j : Nat} {c : UInt8} (hj : x[j]? = some c) (hc : c = 40 ∨ c = 41) : x = [c] := by
  have nw : wordB c = false := by rcases hc with rfl | rfl <;> decide
  have nd : digitB c = false := by rcases hc with rfl | rfl <;> decide
  have hm := List.mem_of_getElem? hj
  rcases tok_parts hx hk h with ⟨_, _, h3, _⟩ | ⟨_, _, _, h3, _⟩ | ⟨_, _, _, h3⟩
  · rw [List.all_eq_true.1 h3 c hm] at nw; cases nw
  · rw [List.all_eq_true.1 h3 c hm] at nd; cases nd
  · match x, hx, h3 with
    | [d], _, _ =>
      simp at hm; rw [hm]
    | [d, e], _, h3 =>
      exfalso
      have : sym2.contains [d, e] = true := by
        cases h : sym2.contains [d, e] with
        | true => rfl
        | false =>
          have e' : ([d, e] ++ rest).take 2 = [d, e] := by simp
          rw [e', h, if_neg (by simp)] at h3
          split at h3 <;> simp at h3
      simp [sym2] at this
      simp at hm
      rcases hc with rfl | rfl <;> rcases this with ⟨rfl, rfl⟩ | ⟨rfl, rfl⟩ | ⟨rfl, rfl⟩ | ⟨rfl, rfl⟩ <;> simp at hm
    | d :: e :: g :: r, _, h3 =>
      exfalso
      split at h3
      · simp at h3
      · split at h3 <;> simp at h3
theorem lx_blanks : ∀ {b s : List UInt8} {ws : List Wd}, b.all blankB = true → Lx s ws → Lx (b ++ s) ws
  | [], s, ws, _, h => h
  | c :: b, s, ws, hb, h => by
    simp only [List.all_cons, Bool.and_eq_true] at hb
    exact lx_blank hb.1 (lx_blanks hb.2 h)
theorem lx_set {s : List UInt8} {ws : List Wd} (h : Lx s ws) : ∀ (o : Nat) (c : UInt8), c = 40 ∨ c = 41 → s[o]? = some c → ∃ ws', Lx (s.set o 32) ws' ∧ cw ws' + (if c = 40 then 1 else 0) = cw ws := by
  induction h with
  | @nil b hb =>
    intro o c hc ho
    have := List.all_eq_true.1 hb c (List.mem_of_getElem? ho)
    rcases hc with rfl | rfl <;> exact absurd this (by decide)
  | @cons b x rest ws kd hb hx hst ho' h ih =>
    intro o c hc ho
    have hk : kd ≤ 3 := by simp only [wdOk, Bool.and_eq_true, decide_eq_true_eq] at ho'; exact ho'.1.1
    have hx0 : x ≠ [] := by rintro rfl; cases hst
    rcases Nat.lt_or_ge o b.length with h1 | h1
    · rw [List.getElem?_append_left h1] at ho
      have := List.all_eq_true.1 hb c (List.mem_of_getElem? ho)
      rcases hc with rfl | rfl <;> exact absurd this (by decide)
    · rw [List.getElem?_append_right h1] at ho
      rw [List.set_append, if_neg (by omega)]
      rcases Nat.lt_or_ge (o - b.length) x.length with h2 | h2
      · rw [List.getElem?_append_left h2] at ho
        have hxc := tok_par hx0 hk hx ho hc
        subst hxc
        have e0 : o - b.length = 0 := by simp at h2; omega
        rw [e0]
        refine ⟨ws, ?_, ?_⟩
        · exact lx_blanks hb (lx_blank (by decide) h)
        · rw [cw_cons]
          rcases hc with rfl | rfl <;> simp
      · rw [List.getElem?_append_right h2] at ho
        rw [List.set_append, if_neg (by omega)]
        obtain ⟨ws', g1, g2⟩ := ih _ c hc ho
        refine ⟨(kd, x) :: ws', .cons hb (tok_rest hx0 hk hx ?_) hst ho' g1, by rw [cw_cons, cw_cons]; simp only; omega⟩
        cases hr : rest with
        | nil => rw [hr] at ho; simp at ho
        | cons d r =>
          cases o - b.length - x.length with
          | zero => right; rfl
          | succ m => left; rfl
end Go.Abs.Z

namespace Go.Abs.Z
open Go.Proofs Go.RowKit
set_option linter.unusedVariables false
set_option linter.unusedSimpArgs false
mutual
theorem tks_bare : ∀ T : Tr, tks (bare T) = tks T
  | .mk k t a e n ks => by rw [bare, tks, tks, tkss_bare ks k t 0]
theorem tkss_bare : ∀ (ks : List Tr) (k : Int) (t : List UInt8) (i : Nat), tkss (bares ks) k t i = tkss ks k t i
  | [], _, _, _ => by rw [bares]
  | U :: us, k, t, i => by
    rw [bares, tkss, tkss, tkss_bare us k t (i + 1), tks_bare U]
    obtain ⟨k', t', a, e, n, ks⟩ := U
    rw [bare]; rfl
end
theorem pf_take (ws : List Wd) : ∀ k, k ≤ ws.length → pf (fun k => (ws[k]?).getD (5, [])) k = cw (ws.take k)
  | 0, _ => by simp [pf, cw_nil]
  | k + 1, h => by
    have hk : ws[k]? = some ws[k] := List.getElem?_eq_getElem (by omega)
    rw [pf, pf_take ws k (by omega), List.take_add_one, cw_app, hk]
    show _ = _ + cw [ws[k]]
    rw [cw_cons, cw_nil]
    simp
theorem parse_any {s : List UInt8} (hlen : s.length ≤ 4096) {ws : List Wd} (hx : Lx s ws) : ∃ (U : Tr) (es : List Dg) (σ : Sto), U.wf ∧ E 21 [.str s] [] (.tuple [U.pv, .slice false 5 (es.map Dg.pv), I 0]) σ ∧ (es = [] → cw (tks U) ≤ cw ws) := by
  obtain ⟨ls, h1, h2, h3⟩ := start_ev s hlen hx
  have hc := lx_count hx
  obtain ⟨g1, g2, t, g3, g4⟩ := spelt_get h3
  have hw : Wx s ls ws.length (fun k => (ws[k]?).getD (5, [])) := by
    have hin : ∀ k, k < ws.length → ∃ v, ws[k]? = some v ∧ wdOk v.1 v.2 = true := fun k hk => ⟨_, List.getElem?_eq_getElem hk, lx_ok hx _ (List.getElem_mem hk)⟩
    refine ⟨fun k hk => ?_, fun k hk hn => ?_, by simp, fun k hk => ?_⟩
    · rcases Nat.lt_or_ge k ws.length with h | h
      · obtain ⟨v, hv, ho⟩ := hin k h
        obtain ⟨t', q1, q2⟩ := g2 k v hv
        rw [hv]
        refine ⟨⟨t', q1, q2⟩, fun h5 => ?_, by omega⟩
        simp only [wdOk, Bool.and_eq_true, decide_eq_true_eq, Option.getD_some] at ho h5
        omega
      · have : k = ws.length := by omega
        subst this
        simp only [List.getElem?_eq_none (Nat.le_refl _), Option.getD_none]
        exact ⟨⟨t, g3, g4⟩, fun _ => rfl, by omega⟩
    · obtain ⟨v, hv, ho⟩ := hin k hk
      rw [hv] at hn ⊢
      simp only [Option.getD_some] at hn ⊢
      simpa [wdOk, hn] using ho
    · obtain ⟨v, hv, ho⟩ := hin k hk
      rw [hv]
      simp only [wdOk, Bool.and_eq_true, decide_eq_true_eq, Option.getD_some] at ho ⊢
      omega
  obtain ⟨U, j, es, p1, p2, p3, p4⟩ := total hw ws.length 0 (by omega) (Nat.zero_le _) 1 (by omega) (by omega) [] (.inl (Nat.zero_le _))
  have hj := p3.ln
  have hes : es.length ≤ 5001 := by rcases p3.dk with h | h <;> omega
  have hmx : 5010 ≤ maxRow := by decide
  have hcount : es = [] → cw (tks U) ≤ cw ws := fun e => by
    have a1 := p4 e
    have a2 := pf_mono (fun k => (ws[k]?).getD (5, [])) hj
    have a3 := pf_take ws ws.length (Nat.le_refl _)
    rw [List.take_length] at a3
    have a4 := le_cL ((1 : Nat) : Int) U
    omega
  have e39j := e39 (D := es.map Dg.pv) (hw.at' j hj)
  have hlx := lexical_ev s hlen hx
  obtain ⟨fs, D', q1, q2⟩ : ∃ (fs : List Dg) (D' : List PV), E 50 [.ref 0 0] [pc s ls j (en ls j) (es.map Dg.pv)] (.slice false 5 (fs.map Dg.pv)) [pc s ls j (en ls j) D'] ∧ (fs = [] → es = []) := by
    by_cases h5 : ((((fun k => (ws[k]?).getD (5, [])) j).1 : Nat) : Int) = 5
    · cases hee : es with
      | nil =>
        rw [hee] at e39j
        exact ⟨[], _, r50_2 (dl1 := []) (dl2 := []) e39j h5 hlx (r46e r46e_l0_out1), fun _ => rfl⟩
      | cons d r =>
        rw [hee] at e39j hes
        exact ⟨d :: r, _, r50_2 (dl1 := []) (dl2 := d :: r) e39j h5 hlx (merge_ev (d :: r) (by omega)), fun h => by cases h⟩
    · obtain ⟨t', ht', _⟩ := (hw.at' j hj).t
      have hm := merge_ev (es ++ [⟨4, t'.a, t'.e, [101, 110, 100]⟩]) (by simp; omega)
      refine ⟨es ++ [⟨4, t'.a, t'.e, [101, 110, 100]⟩], _, r50_1 (dl1 := []) (dl2 := es ++ [⟨4, t'.a, t'.e, [101, 110, 100]⟩]) e39j h5 ht' (by simp; omega) hlx ?_, fun h => by simp at h⟩
      rw [List.map_append] at hm ⊢
      cases hee : es with
      | nil => rw [hee] at hm; exact hm
      | cons d r => rw [hee] at hm; exact hm
  refine ⟨U, fs, _, p1, r21_2 (dl1 := fs) (by omega) h1 p2 q1, fun e => hcount (q2 e)⟩
theorem cut2_eq {sb : List UInt8} {o i : Nat} (ho : o < i) (hi : i < sb.length) : cut2 sb o i = (sb.set o 32).set i 32 := by
  have h1 : sb.set o 32 = sb.take o ++ 32 :: sb.drop (o + 1) := by
    rw [List.set_eq_take_append_cons_drop, if_pos (by omega)]
  have hl : (sb.set o 32).length = sb.length := by simp
  rw [List.set_eq_take_append_cons_drop, if_pos (by omega), h1]
  have e1 : (sb.take o).length = o := by rw [List.length_take]; omega
  obtain ⟨m, hm⟩ : ∃ m, i = o + (m + 1) := ⟨i - o - 1, by omega⟩
  subst hm
  have e2 : (sb.take o ++ 32 :: sb.drop (o + 1)).take (o + (m + 1)) = sb.take o ++ (32 :: (sb.drop (o + 1)).take m) := by
    rw [List.take_append, e1, List.take_of_length_le (by omega), show o + (m + 1) - o = m + 1 by omega, List.take_succ_cons]
  have e3 : (sb.take o ++ 32 :: sb.drop (o + 1)).drop (o + (m + 1) + 1) = sb.drop (o + (m + 1) + 1) := by
    rw [List.drop_append, e1, List.drop_of_length_le (by omega), show o + (m + 1) + 1 - o = (m + 1) + 1 by omega, List.drop_succ_cons, List.drop_drop, List.nil_append]
    congr 1; omega
  rw [e2, e3]
  unfold cut2
  rw [show o + (m + 1) - (o + 1) = m by omega]
  simp
theorem min_true (T : Tr) (hw : T.wf) (hr : T.pre.length ≤ maxRow) : CallOk Tryz.prog 6 [T.pv] [] (.bool true) [] := by
  have a8 := e8 T 60 hw hr
  have a19 := e19 T hw hr
  refine minimal_ok T ?_
  cases hs : smallV T 60 with
  | false => rw [hs] at a8; exact .inl (evA a8)
  | true =>
    rw [hs] at a8
    cases he : (isExpB T.kind && shapeB T) with
    | false => rw [he] at a19; exact .inr (.inl ⟨evA a8, evA a19⟩)
    | true =>
      rw [he] at a19
      simp only [Bool.and_eq_true] at he
      obtain ⟨t1, p1⟩ := small_parts hs
      have q1 : T.pre.length ≤ 60 := by omega
      have g1 := good_of hw t1 (by omega) he.2 0 (by omega)
      have k1 := exp_rng he.1
      have s1 := expr_short _ T 0 (Nat.le_refl _) g1 (by omega)
      unfold Sh at s1
      have hx := (lxs_prt _ T 0 (Nat.le_refl _) g1).all
      refine .inr (.inr ⟨evA a8, evA a19, prt T 0, evA (e20 g1 q1 he.1), by omega, by rw [expr_bal _ T 0 (Nat.le_refl _) g1 (by omega) 0]; rfl, fun o i hoi hi ho hc => ?_⟩)
      obtain ⟨ws1, b1, b2⟩ := lx_set hx o 40 (.inl rfl) ho
      obtain ⟨ws2, b3, b4⟩ := lx_set b1 i 41 (.inr rfl) (by rw [List.getElem?_set_ne (by omega)]; exact hc)
      rw [← cut2_eq hoi hi] at b3
      have hl2 : (cut2 (prt T 0) o i).length ≤ 4096 := by
        rw [cut2_eq hoi hi, List.length_set, List.length_set]; omega
      obtain ⟨U, es, σ, c1, c2, c3⟩ := parse_any hl2 b3
      obtain ⟨b, d1, d2⟩ := same_ev _ U T (Nat.le_refl _) (.inr hr) c1 hw
      refine ⟨U, es, 0, σ, evA c2, ?_⟩
      cases hb : b with
      | false => rw [hb] at d1; exact .inr (evA d1)
      | true =>
        left
        intro hes
        have e1 := d2.1 hb
        have e2 := c3 hes
        rw [← tks_bare U, e1, tks_bare T] at e2
        rw [if_pos rfl] at b2
        rw [if_neg (by decide)] at b4
        omega
end Go.Abs.Z
