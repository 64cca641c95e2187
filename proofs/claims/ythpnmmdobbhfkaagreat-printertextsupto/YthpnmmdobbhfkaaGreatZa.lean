/- A part of the proof: G4 W7 Z1. -/
import Derived.Test.YthpnmmdobbhfkaaGreatGa
import Derived.Test.YthpnmmdobbhfkaaGreatYa

set_option linter.unusedVariables false
set_option linter.unusedSimpArgs false
/- Laws: a run with awake known. -/
namespace Go.Abs.Z
open Go.Proofs Go.RowKit

def Runs (af : AFunc) (args : List PV) (σ : Sto) (r : PV) (σ' : Sto) : Prop := ∃ N, ∀ n, N ≤ n → runFnK pur (runA n) n af args σ = some (r, σ')
theorem ruleL {af : AFunc} {args : List PV} {σ σ' : Sto} {r : PV} (l : List Stp) (h : runT pur runA af args σ (tapeOf l) = some (r, σ', qOf l True)) : Runs af args σ r σ' := by
  have hq := qOf_ok l trivial
  revert hq h
  generalize qOf l True = q
  generalize tapeOf l = tp
  intro h hq
  unfold runT at h
  cases hb : (Nat.beq args.length af.nargs && Nat.ble args.length af.ntmps) with
  | false => rw [hb] at h; cases h
  | true =>
    rw [hb] at h
    cases hx : tRun pur runA af.code (initK args 0) σ tp True with
    | none => rw [hx] at h; cases h
    | some o =>
      rw [hx] at h
      obtain ⟨_, hs⟩ := tRun_sound af.code hx
      obtain ⟨e, f1, s1, t1, q1⟩ := o
      dsimp only [cond_true] at h hs
      have fin : ∀ {e}, e = .normal ∨ e = .ret → CodeEv pur runA af.code (initK args 0) σ e f1 s1 →
          (Option.rec (motive := fun _ => Option (PV × Sto × Prop)) none (fun vs => Option.rec (motive := fun _ => Option (PV × Sto × Prop)) none (fun r => some (r, s1, q1)) (packR vs)) (resK f1 af.results)) = some (r, σ', q) → Runs af args σ r σ' := by
        intro e he hc hh
        cases hv : resK f1 af.results with
        | none => rw [hv] at hh; cases hh
        | some vs =>
          rw [hv] at hh
          dsimp only at hh
          cases hp : packR vs with
          | none => rw [hp] at hh; cases hh
          | some p =>
            rw [hp] at hh
            cases hh
            obtain ⟨N, H⟩ := hc
            refine ⟨N, fun n hn => ?_⟩
            obtain ⟨ff1, a1, a2⟩ := H n (by omega) _ (Sub.refl _)
            unfold runFnK
            rw [hb, a1]
            have hv' := resK_sub a2 _ _ hv
            rcases he with rfl | rfl
            · dsimp only [cond_true]
              rw [hv']; simp [hp]
            · dsimp only [cond_true]
              rw [hv']; simp [hp]
      have hq' : ∀ {x}, outE e (Option.rec (motive := fun _ => Option (PV × Sto × Prop)) none (fun vs => Option.rec (motive := fun _ => Option (PV × Sto × Prop)) none (fun r => some (r, s1, q1)) (packR vs)) (resK f1 af.results)) = some x → x.2.2 = q → q1 := by
        intro x hx hxq
        cases e with
        | exit i => cases hx
        | normal =>
          cases hv : resK f1 af.results with
          | none => simp only [outE, hv] at hx; cases hx
          | some vs =>
            simp only [outE, hv] at hx
            cases hp : packR vs with
            | none => rw [hp] at hx; cases hx
            | some p => rw [hp] at hx; cases hx; exact (show q1 = q from hxq) ▸ hq
        | ret =>
          cases hv : resK f1 af.results with
          | none => simp only [outE, hv] at hx; cases hx
          | some vs =>
            simp only [outE, hv] at hx
            cases hp : packR vs with
            | none => rw [hp] at hx; cases hx
            | some p => rw [hp] at hx; cases hx; exact (show q1 = q from hxq) ▸ hq
      have h1 := hq' h rfl
      cases e with
      | exit i => cases h
      | normal => exact fin (.inl rfl) (hs h1) h
      | ret => exact fin (.inr rfl) (hs h1) h
theorem evA {f : FuncId} {x : PV} {xs : List PV} {r : PV} {s : Sto} (h : E f (x :: xs) [] r s) : Ev runA f (x :: xs) [] r s := by
  obtain ⟨N, H⟩ := h
  exact ⟨N, fun n hn => H n hn⟩
theorem evA9 : Ev runA 9 [] [] (.bool true) [] := ⟨0, fun n _ => runA9 n⟩
/-- the law's function answers true in the program -/
theorem PA {k : PK} {vs : List PV} {rs : List (Option PV)} (h : semP k vs = some rs) : OpEv pur runA (.p k) vs [] rs [] := op_p h
theorem QA {k : RK} {vs : List PV} {rs : List (Option PV)} (h : semR k vs [] = some rs) : OpEv pur runA (.r k) vs [] rs [] := op_r h
theorem oCA {f : FuncId} {xs : List PV} {r : PV} (h : Ev runA f xs [] r []) (hs : (xs.all PV.free && xs.all PV.flat) = true ∧ xs.map PV.disown = xs ∧ r.flat = true ∧ r.disown = r := by first | exact ⟨rfl, rfl, rfl, rfl⟩ | simp) : OpEv pur runA (.c f) xs [] [some r] [] := op_c h hs.2.1 hs.1 hs.2.2.1 hs.2.2.2
theorem law_ok {f : FuncId} {af : AFunc} {args : List PV} (hok : FnOk f af) (ha : ∀ p ∈ args, p.disown = p) (h : Runs af args [] (.bool true) []) : CallOk Tryz.prog f args [] (.bool true) [] := by
  obtain ⟨fn, fi, h1, h2, h3, h4⟩ := hok
  obtain ⟨N, H⟩ := h
  exact fn_sound mixed h1 h2 h3 (runA_sound N) ha (runFnK_sim h4 (H N (Nat.le_refl _)))
end Go.Abs.Z

/- Rules of the law of texts, printed by a program (wip/gen_w1.py). -/
namespace Go.Abs.Z
open Go.Proofs Go.RowKit
theorem R7 : Rn 7 a7 := fun _ _ _ => rfl
theorem r7_1 {d : Int} {T : Tr} {b1 : Bool} (h1 : Ev runA 8 [T.pv, (I 150)] [] (.bool false) []) (h2 : Ev runA 9 [] [] (.bool b1) []) : Runs a7 [T.pv, (I d)] [] (.bool b1) [] :=
  ruleL [st 0 (PA (bx_tr T)), st 1 (QA (ld_tr T)), st 0 (oCA h1), st 10 (oCA h2)] (by kernel_rfl)
theorem r7_2 {d : Int} {T : Tr} {s1 : List UInt8} {z1 : Int} {s2 : List UInt8} {z2 : Int} {s3 : List UInt8} {z3 : Int} {s4 : List UInt8} {z4 : Int} {s5 : List UInt8} {z5 : Int} {s6 : List UInt8} {z6 : Int} {b1 : Bool} (h1 : Ev runA 8 [T.pv, (I 150)] [] (.bool true) []) (c1 : ¬ d > 20) (h2 : Ev runA 15 [T.pv] [] (.tuple [(.str s1), (I z1)]) []) (h3 : Ev runA 14 [T.pv] [] (.tuple [(.str s2), (I z2)]) []) (h4 : Ev runA 20 [T.pv] [] (.tuple [(.str s3), (I z3)]) []) (h5 : Ev runA 22 [T.pv] [] (.tuple [(.str s4), (I z4)]) []) (h6 : Ev runA 23 [T.pv, (I d)] [] (.tuple [(.str s5), (I z5)]) []) (h7 : Ev runA 24 [T.pv, (I d)] [] (.tuple [(.str s6), (I z6)]) []) (c2 : s1 = s2) (c3 : z1 = z2) (c4 : s3 = s4) (c5 : z3 = z4) (c6 : s5 = s6) (c7 : z5 = z6) (h8 : Ev runA 9 [] [] (.bool b1) []) : Runs a7 [T.pv, (I d)] [] (.bool b1) [] :=
  ruleL [st 0 (PA (bx_tr T)), st 1 (QA (ld_tr T)), st 0 (oCA h1), sg 3 (PA (b_gtrF .i64 c1)), st 6 (QA (ld_tr T)), st 0 (oCA h2), st 5 (QA (ld_tr T)), st 0 (oCA h3), st 5 (QA (ld_tr T)), st 0 (oCA h4), st 5 (QA (ld_tr T)), st 0 (oCA h5), st 5 (QA (ld_tr T)), st 1 (oCA h6), st 5 (QA (ld_tr T)), st 1 (oCA h7), st 7 (PA (s_eqlT c2)), sg 3 (PA (b_eqlT .i64 c3)), sg 4 (PA (s_eqlT c4)), sg 4 (PA (b_eqlT .i64 c5)), sg 4 (PA (s_eqlT c6)), sg 4 (PA (b_eqlT .i64 c7)), sg 2 (oCA h8)] (by kernel_rfl)
theorem r7_3 {d : Int} {T : Tr} {b1 : Bool} (h1 : Ev runA 8 [T.pv, (I 150)] [] (.bool true) []) (c1 : d > 20) (c2 : d ≤ 128) (h2 : Ev runA 9 [] [] (.bool b1) []) : Runs a7 [T.pv, (I d)] [] (.bool b1) [] :=
  ruleL [st 0 (PA (bx_tr T)), st 1 (QA (ld_tr T)), st 0 (oCA h1), sg 3 (PA (b_gtrT .i64 c1)), sg 2 (PA (b_leqT .i64 c2)), st 3 (oCA h2)] (by kernel_rfl)
theorem r7_4 {d : Int} {T : Tr} {s1 : List UInt8} {z1 : Int} {s2 : List UInt8} {z2 : Int} {s3 : List UInt8} {z3 : Int} {s4 : List UInt8} {z4 : Int} {s5 : List UInt8} {z5 : Int} {s6 : List UInt8} {z6 : Int} {b1 : Bool} (h1 : Ev runA 8 [T.pv, (I 150)] [] (.bool true) []) (c1 : d > 20) (c2 : ¬ d ≤ 128) (h2 : Ev runA 15 [T.pv] [] (.tuple [(.str s1), (I z1)]) []) (h3 : Ev runA 14 [T.pv] [] (.tuple [(.str s2), (I z2)]) []) (h4 : Ev runA 20 [T.pv] [] (.tuple [(.str s3), (I z3)]) []) (h5 : Ev runA 22 [T.pv] [] (.tuple [(.str s4), (I z4)]) []) (h6 : Ev runA 23 [T.pv, (I d)] [] (.tuple [(.str s5), (I z5)]) []) (h7 : Ev runA 24 [T.pv, (I d)] [] (.tuple [(.str s6), (I z6)]) []) (c3 : s1 = s2) (c4 : z1 = z2) (c5 : s3 = s4) (c6 : z3 = z4) (c7 : s5 = s6) (c8 : z5 = z6) (h8 : Ev runA 9 [] [] (.bool b1) []) : Runs a7 [T.pv, (I d)] [] (.bool b1) [] :=
  ruleL [st 0 (PA (bx_tr T)), st 1 (QA (ld_tr T)), st 0 (oCA h1), sg 3 (PA (b_gtrT .i64 c1)), sg 2 (PA (b_leqF .i64 c2)), st 3 (QA (ld_tr T)), st 0 (oCA h2), st 5 (QA (ld_tr T)), st 0 (oCA h3), st 5 (QA (ld_tr T)), st 0 (oCA h4), st 5 (QA (ld_tr T)), st 0 (oCA h5), st 5 (QA (ld_tr T)), st 1 (oCA h6), st 5 (QA (ld_tr T)), st 1 (oCA h7), st 7 (PA (s_eqlT c3)), sg 3 (PA (b_eqlT .i64 c4)), sg 4 (PA (s_eqlT c5)), sg 4 (PA (b_eqlT .i64 c6)), sg 4 (PA (s_eqlT c7)), sg 4 (PA (b_eqlT .i64 c8)), sg 2 (oCA h8)] (by kernel_rfl)
end Go.Abs.Z

/- The law of texts holds for all trees that are not huge. -/
namespace Go.Abs.Z
open Go.Proofs Go.RowKit

theorem fin_ev (s : List UInt8) : ∃ u z, E 35 [.str s] [] (.tuple [.str u, .int .i64 z]) [] ∧ E 33 [.str s] [] (.tuple [.str u, .int .i64 z]) [] := by
  by_cases h : ((s.length : Nat) : Int) > 4096
  · exact ⟨_, _, r35_1 h, r33_1 h⟩
  · exact ⟨_, _, r35_2 h, r33_2 h⟩
theorem small_parts {T : Tr} {x : Int} (h : smallV T x = true) : (∀ U ∈ T.pre, U.text.length ≤ 60) ∧ (T.pre.length : Int) ≤ x := by
  unfold smallV at h
  simp only [Bool.and_eq_true, List.all_eq_true, decide_eq_true_eq] at h
  exact h
section
variable {T : Tr}
theorem good_of (hw : T.wf) (ht : ∀ U ∈ T.pre, U.text.length ≤ 60) (hp : T.pre.length ≤ 150) (hs : shapeB T = true) (d : Nat) (hd : d ≤ 200) : Good T d := ⟨hw, hs, ht, by omega⟩
theorem format_ev (hw : T.wf) (ht : ∀ U ∈ T.pre, U.text.length ≤ 60) (hp : T.pre.length ≤ 150) : ∃ s z, E 15 [T.pv] [] (.tuple [.str s, .int .i64 z]) [] ∧ E 14 [T.pv] [] (.tuple [.str s, .int .i64 z]) [] := by
  have h37 := e37 _ T (Nat.le_refl _) hw (by simp [maxRow]; omega)
  have h58 := e58 T hw (by omega)
  by_cases hk : T.kind = 2
  · have h16 := r16_1 hk h37
    have h34 := r34_1 hk h58
    cases hs : shapeB T with
    | false => rw [hs] at h16 h34; exact ⟨_, _, r15_2 h34, r14_2 h16⟩
    | true =>
      rw [hs] at h16 h34
      have hg := good_of hw ht hp hs 0 (by omega)
      obtain ⟨u, z, h1, h2⟩ := fin_ev (prt T 0)
      have hl := format_loop hk hg T.kids.length 0 (by omega)
      rw [List.take_zero] at hl
      have he : prt T 0 = ((prts T.kids T.kind T.text 0 0).map fun x => x.2 ++ [10]).flatten := by rw [prt_eq]; simp [nodeT, hk]
      rw [← he] at hl
      exact ⟨u, z, r15_1 h34 (e36 _ T 0 (Nat.le_refl _) hg (by omega) (by omega)) h1, r14_1 h16 hl h2⟩
  · exact ⟨_, _, r15_2 (r34_2 hk), r14_2 (r16_2 hk)⟩
theorem expression_ev (hw : T.wf) (ht : ∀ U ∈ T.pre, U.text.length ≤ 60) (hp : T.pre.length ≤ 150) : ∃ s z, E 20 [T.pv] [] (.tuple [.str s, .int .i64 z]) [] ∧ E 22 [T.pv] [] (.tuple [.str s, .int .i64 z]) [] := by
  have h37 := e37 _ T (Nat.le_refl _) hw (by simp [maxRow]; omega)
  have h58 := e58 T hw (by omega)
  have h27 : E 27 [.int .i64 T.kind] [] (.bool (isExpB T.kind)) [] := ev_at 1 fun m _ => run27 m T.kind
  have h74 : E 74 [.int .i64 T.kind] [] (.bool (isExpB T.kind)) [] := ev_at 1 fun m _ => isExpT_run (call := run m) (n := m) T.kind
  cases hk : isExpB T.kind with
  | false => rw [hk] at h27 h74; exact ⟨_, _, r20_2 (r48_2 h74), r22_2 (r19_2 h27)⟩
  | true =>
    rw [hk] at h27 h74
    have h48 := r48_1 h74 h58
    have h19 := r19_1 h27 h37
    cases hs : shapeB T with
    | false => rw [hs] at h48 h19; exact ⟨_, _, r20_2 h48, r22_2 h19⟩
    | true =>
      rw [hs] at h48 h19
      have hg := good_of hw ht hp hs 0 (by omega)
      have hr := exp_rng hk
      obtain ⟨u, z, h1, h2⟩ := fin_ev (prt T 0)
      exact ⟨u, z, r20_1 h48 (e36 _ T 0 (Nat.le_refl _) hg (by omega) (by omega)) h1, r22_1 h19 (e51 _ T 0 (Nat.le_refl _) hg (by unfold textK; omega)) h2⟩
theorem statement_ev (hw : T.wf) (ht : ∀ U ∈ T.pre, U.text.length ≤ 60) (hp : T.pre.length ≤ 150) (d : Int) (hd : d ≤ 20 ∨ d > 128) : ∃ s z, E 23 [T.pv, .int .i64 d] [] (.tuple [.str s, .int .i64 z]) [] ∧ E 24 [T.pv, .int .i64 d] [] (.tuple [.str s, .int .i64 z]) [] := by
  have h37 := e37 _ T (Nat.le_refl _) hw (by simp [maxRow]; omega)
  have h58 := e58 T hw (by omega)
  have h79 : E 79 [.int .i64 T.kind] [] (.bool (isStmB T.kind)) [] := ev_at 1 fun m _ => isStm3_run (call := run m) (n := m) T.kind
  have h78 : E 78 [.int .i64 T.kind] [] (.bool (isStmB T.kind)) [] := ev_at 1 fun m _ => isStmT_run (call := run m) (n := m) T.kind
  cases hk : isStmB T.kind with
  | false => rw [hk] at h79 h78; exact ⟨_, _, r23_1 (r52_2 h78), r24_1 (r53_2 h79)⟩
  | true =>
    rw [hk] at h79 h78
    have h52 := r52_1 h78 h58
    have h53 := r53_1 h79 h37
    cases hs : shapeB T with
    | false => rw [hs] at h52 h53; exact ⟨_, _, r23_1 h52, r24_1 h53⟩
    | true =>
      rw [hs] at h52 h53
      by_cases h0 : d < 0
      · exact ⟨_, _, r23_2 h52 h0, r24_2 h53 h0⟩
      · by_cases h1 : d > 128
        · exact ⟨_, _, r23_3 h52 h0 h1, r24_3 h53 h0 h1⟩
        · obtain ⟨m, rfl⟩ : ∃ m : Nat, d = ((m : Nat) : Int) := ⟨d.toNat, by omega⟩
          have hg := good_of hw ht hp hs m (by omega)
          have hr := stm_rng hk
          obtain ⟨u, z, h2, h3⟩ := fin_ev (prt T m)
          exact ⟨u, z, r23_4 h52 h0 h1 (e36 _ T m (Nat.le_refl _) hg (by omega) (by omega)) h2, r24_4 h53 h0 h1 ((e5457 _ T m (Nat.le_refl _) hg).2 (by omega) (by omega)) h3⟩
end
theorem texts_true (T : Tr) (d : Int) (hw : T.wf) (hr : T.pre.length ≤ maxRow) : Runs a7 [T.pv, .int .i64 d] [] (.bool true) [] := by
  have h8 := e8 T 150 hw hr
  cases hs : smallV T 150 with
  | false => rw [hs] at h8; exact r7_1 (evA h8) evA9
  | true =>
    rw [hs] at h8
    obtain ⟨ht, hp⟩ := small_parts hs
    have hp' : T.pre.length ≤ 150 := by omega
    obtain ⟨s1, z1, a1, b1⟩ := format_ev hw ht hp'
    obtain ⟨s2, z2, a2, b2⟩ := expression_ev hw ht hp'
    by_cases h20 : d > 20
    · by_cases h128 : d ≤ 128
      · exact r7_3 (evA h8) h20 h128 evA9
      · obtain ⟨s3, z3, a3, b3⟩ := statement_ev hw ht hp' d (.inr (by omega))
        exact r7_4 (evA h8) h20 h128 (evA a1) (evA b1) (evA a2) (evA b2) (evA a3) (evA b3) rfl rfl rfl rfl rfl rfl evA9
    · obtain ⟨s3, z3, a3, b3⟩ := statement_ev hw ht hp' d (.inl (by omega))
      exact r7_2 (evA h8) h20 (evA a1) (evA b1) (evA a2) (evA b2) (evA a3) (evA b3) rfl rfl rfl rfl rfl rfl evA9
theorem texts_ok (T : Tr) (d : Int) (hw : T.wf) (hr : T.pre.length ≤ maxRow) : CallOk Tryz.prog 7 [T.pv, .int .i64 d] [] (.bool true) [] := by
  refine law_ok ok7 (fun p hp => ?_) (texts_true T d hw hr)
  simp at hp
  rcases hp with rfl | rfl
  · exact Tr.pv_disown _
  · rfl
end Go.Abs.Z
