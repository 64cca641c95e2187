/- A part of the proof: G4 W7 Z1. -/
import Derived.Test.YthpnmmdobbhfkaaGreatGa
import Derived.Test.YthpnmmdobbhfkaaGreatYa

set_option linter.unusedVariables false
set_option linter.unusedSimpArgs false
namespace Go.Abs.Z
open Go.Proofs Go.RowKit
def Runs (af : AFunc) (args : List PV) (σ : Sto) (r : PV) (σ' : Sto) : Prop := ∃ N, ∀ n, N ≤ n → runFnK pur (runA n) n af args σ = some (r, σ')
theorem ruleL {af : AFunc} {args : List PV} {σ σ' : Sto} {r : PV} (l : List Stp) (h : runT pur runA af args σ (tapeOf l) = some (r, σ', qOf l True)) : Runs af args σ r σ' := by
  have hq := qOf_ok l trivial
  revert hq h
  generalize qOf l True = q
  generalize tapeOf l = tp
  intro h hq
  unfold runT at h
  cases hb : (Nat.beq args.length af.nargs && Nat.ble args.length af.ntmps) with
  | false => rw [hb] at h; cases h
  | true =>
    rw [hb] at h
    cases hx : tRun pur runA af.code (initK args 0) σ tp True with
    | none => rw [hx] at h; cases h
    | some o =>
      rw [hx] at h
      obtain ⟨_, hs⟩ := tRun_sound af.code hx
      obtain ⟨e, f1, s1, t1, q1⟩ := o
      dsimp only [cond_true] at h hs
      have fin : ∀ {e}, e = .normal ∨ e = .ret → CodeEv pur runA af.code (initK args 0) σ e f1 s1 →
          (Option.rec (motive := fun _ => Option (PV × Sto × Prop)) none (fun vs => Option.rec (motive := fun _ => Option (PV × Sto × Prop)) none (fun r => some (r, s1, q1)) (packR vs)) (resK f1 af.results)) = some (r, σ', q) → Runs af args σ r σ' := by
        intro e he hc hh
        cases hv : resK f1 af.results with
        | none => rw [hv] at hh; cases hh
        | some vs =>
          rw [hv] at hh
          dsimp only at hh
          cases hp : packR vs with
          | none => rw [hp] at hh; cases hh
          | some p =>
            rw [hp] at hh
            cases hh
            obtain ⟨N, H⟩ := hc
            refine ⟨N, fun n hn => ?_⟩
            obtain ⟨ff1, a1, a2⟩ := H n (by omega) _ (Sub.refl _)
            unfold runFnK
            rw [hb, a1]
            have hv' := resK_sub a2 _ _ hv
            rcases he with rfl | rfl
            · dsimp only [cond_true]
              rw [hv']; simp [hp]
            · dsimp only [cond_true]
              rw [hv']; simp [hp]
      have hq' : ∀ {x}, outE e (Option.rec (motive := fun _ => Option (PV × Sto × Prop)) none (fun vs => Option.rec (motive := fun _ => Option (PV × Sto × Prop)) none (fun r => some (r, s1, q1)) (packR vs)) (resK f1 af.results)) = some x → x.2.2 = q → q1 := by
        intro x hx hxq
        cases e with
        | exit i => cases hx
        | normal =>
          cases hv : resK f1 af.results with
          | none => simp only [outE, hv] at hx; cases hx
          | some vs =>
            simp only [outE, hv] at hx
            cases hp : packR vs with
            | none => rw [hp] at hx; cases hx
            | some p => rw [hp] at hx; cases hx; exact (show q1 = q from hxq) ▸ hq
        | ret =>
          cases hv : resK f1 af.results with
          | none => simp only [outE, hv] at hx; cases hx
          | some vs =>
            simp only [outE, hv] at hx
            cases hp : packR vs with
            | none => rw [hp] at hx; cases hx
            | some p => rw [hp] at hx; cases hx; exact (show q1 = q from hxq) ▸ hq
      have h1 := hq' h rfl
      cases e with
      | exit i => cases h
      | normal => exact fin (.inl rfl) (hs h1) h
      | ret => exact fin (.inr rfl) (hs h1) h
theorem evA {f : FuncId} {x : PV} {xs : List PV} {r : PV} {s : Sto} (h : E f (x :: xs) [] r s) : Ev runA f (x :: xs) [] r s := by
  obtain ⟨N, H⟩ := h
  exact ⟨N, fun n hn => H n hn⟩
theorem evA9 : Ev runA 9 [] [] (.bool true) [] := ⟨0, fun n _ => runA9 n⟩
theorem PA {k : PK} {vs : List PV} {rs : List (Option PV)} (h : semP k vs = some rs) : OpEv pur runA (.p k) vs [] rs [] := op_p h
theorem QA {k : RK} {vs : List PV} {rs : List (Option PV)} (h : semR k vs [] = some rs) : OpEv pur runA (.r k) vs [] rs [] := op_r h
theorem oCA {f : FuncId} {xs : List PV} {r : PV} {s : Sto} (h : Ev runA f xs [] r s) (hs : (xs.all PV.free && xs.all PV.flat) = true ∧ xs.map PV.disown = xs ∧ r.flat = true ∧ r.disown = r := by first | exact ⟨rfl, rfl, rfl, rfl⟩ | simp) : OpEv pur runA (.c f) xs [] [some r] [] := op_c h hs.2.1 hs.1 hs.2.2.1 hs.2.2.2
theorem law_ok {f : FuncId} {af : AFunc} {args : List PV} (hok : FnOk f af) (ha : ∀ p ∈ args, p.disown = p) (h : Runs af args [] (.bool true) []) : CallOk Tryz.prog f args [] (.bool true) [] := by
  obtain ⟨fn, fi, h1, h2, h3, h4⟩ := hok
  obtain ⟨N, H⟩ := h
  exact fn_sound mixed h1 h2 h3 (runA_sound N) ha (runFnK_sim h4 (H N (Nat.le_refl _)))
end Go.Abs.Z

namespace Go.Abs.Z
open Go.Proofs Go.RowKit
end Go.Abs.Z

namespace Go.Abs.Z
open Go.Proofs Go.RowKit
theorem small_parts {T : Tr} {x : Int} (h : smallV T x = true) : (∀ U ∈ T.pre, U.text.length ≤ 60) ∧ (T.pre.length : Int) ≤ x := by
  unfold smallV at h
  simp only [Bool.and_eq_true, List.all_eq_true, decide_eq_true_eq] at h
  exact h
section
variable {T : Tr}
theorem good_of (hw : T.wf) (ht : ∀ U ∈ T.pre, U.text.length ≤ 60) (hp : T.pre.length ≤ 150) (hs : shapeB T = true) (d : Nat) (hd : d ≤ 200) : Good T d := ⟨hw, hs, ht, by omega⟩
end
end Go.Abs.Z
