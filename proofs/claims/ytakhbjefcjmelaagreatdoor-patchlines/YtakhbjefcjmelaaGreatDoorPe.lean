/- A part of the proof: P9. -/
import Derived.Test.YtakhbjefcjmelaaGreatDoorPd
import Derived.Test.YtakhbjefcjmelaaGreatDoorGa

set_option linter.unusedVariables false
set_option linter.unusedSimpArgs false
namespace Go.Abs.Z
open Go.Proofs Go.RowKit
noncomputable def runA (n : Nat) : Caller := fun f args σ => match args, σ with
  | [], [] => if f = 4 then some (.bool true, []) else run n f [] []
  | args, σ => run n f args σ
theorem isTrue_ex : ∀ x : Option (PV × Sto), isTrue x = true → ∃ s, x = some (.bool true, s)
  | some (.bool true, s), _ => ⟨s, rfl⟩
theorem awake_is : ∃ s, run 200 4 [] [] = some (.bool true, s) := isTrue_ex _ awake_true
theorem aft_drop {P : Program} {f : FuncId} {r : PV} {s : Sto} (h : CallOk P f [] [] r s) (hr : ∀ (I : Imm) (bl : Bl) (w : World) (v : Value), RepT I bl w v r → ∀ (I' : Imm) (bl' : Bl) (w' : World), RepT I' bl' w' v r) : CallOk P f [] [] r [] := by
  refine ⟨h.1, fun n vs w G K ha hp => (h.2 n vs w G K ha hp).mono ?_⟩
  rintro e w' ⟨v, G', rfl, hv, ha'⟩
  have hbl : G.bl.l = [] := List.length_eq_zero_iff.1 hp.len
  refine ⟨v, ⟨G'.I, G'.ω, Bl.nil⟩, rfl, hr _ _ _ _ hv _ _ _, ⟨ha'.keep, ha'.same, ha'.sub, ha'.new, ha'.lt, ha'.own, ha'.grow, ⟨?_, fun id g a h => ?_⟩, ha'.os, ha'.tape, ha'.output, fun id cs h => by simp at h, rfl, fun id g a h => by cases h⟩⟩
  · rw [hbl]; exact List.prefix_refl _
  · have := hp.abl id g a h; simp at this
set_option maxRecDepth 100000 in
theorem runA_sound (n : Nat) : Sound Tryz.prog (runA n) := by
  intro f args σ r σ' hown h
  unfold runA at h
  split at h
  · split at h
    · rename_i hf
      subst hf
      cases h
      obtain ⟨s, hs⟩ := awake_is
      refine aft_drop (run_sound 200 4 [] [] _ s hown hs) fun I bl w v hv I' bl' w' => ?_
      have := hv.bool_inv
      subst this
      exact .one (.inl (.bool true))
    · exact run_sound n f [] [] r σ' hown h
  · exact run_sound n f _ _ r σ' hown h
theorem runA7 (n : Nat) : runA n 4 [] [] = some (.bool true, []) := rfl
def Runs (af : AFunc) (args : List PV) (σ : Sto) (r : PV) (σ' : Sto) : Prop := ∃ N, ∀ n, N ≤ n → runFnK pur (runA n) n af args σ = some (r, σ')
theorem ruleL {af : AFunc} {args : List PV} {σ σ' : Sto} {r : PV} (l : List Stp) (h : runT pur runA af args σ (tapeOf l) = some (r, σ', qOf l True)) : Runs af args σ r σ' := by
  have hq := qOf_ok l trivial
  revert hq h
  generalize qOf l True = q
  generalize tapeOf l = tp
  intro h hq
  unfold runT at h
  cases hb : (Nat.beq args.length af.nargs && Nat.ble args.length af.ntmps) with
  | false => rw [hb] at h; cases h
  | true =>
    rw [hb] at h
    cases hx : tRun pur runA af.code (initK args 0) σ tp True with
    | none => rw [hx] at h; cases h
    | some o =>
      rw [hx] at h
      obtain ⟨_, hs⟩ := tRun_sound af.code hx
      obtain ⟨e, f1, s1, t1, q1⟩ := o
      dsimp only [cond_true] at h hs
      have fin : ∀ {e}, e = .normal ∨ e = .ret → CodeEv pur runA af.code (initK args 0) σ e f1 s1 →
          (Option.rec (motive := fun _ => Option (PV × Sto × Prop)) none (fun vs => Option.rec (motive := fun _ => Option (PV × Sto × Prop)) none (fun r => some (r, s1, q1)) (packR vs)) (resK f1 af.results)) = some (r, σ', q) → Runs af args σ r σ' := by
        intro e he hc hh
        cases hv : resK f1 af.results with
        | none => rw [hv] at hh; cases hh
        | some vs =>
          rw [hv] at hh
          dsimp only at hh
          cases hp : packR vs with
          | none => rw [hp] at hh; cases hh
          | some p =>
            rw [hp] at hh
            cases hh
            obtain ⟨N, H⟩ := hc
            refine ⟨N, fun n hn => ?_⟩
            obtain ⟨ff1, a1, a2⟩ := H n (by omega) _ (Sub.refl _)
            unfold runFnK
            rw [hb, a1]
            have hv' := resK_sub a2 _ _ hv
            rcases he with rfl | rfl
            · dsimp only [cond_true]
              rw [hv']; simp [hp]
            · dsimp only [cond_true]
              rw [hv']; simp [hp]
      have hq' : ∀ {x}, outE e (Option.rec (motive := fun _ => Option (PV × Sto × Prop)) none (fun vs => Option.rec (motive := fun _ => Option (PV × Sto × Prop)) none (fun r => some (r, s1, q1)) (packR vs)) (resK f1 af.results)) = some x → x.2.2 = q → q1 := by
        intro x hx hxq
        cases e with
        | exit i => cases hx
        | normal =>
          cases hv : resK f1 af.results with
          | none => simp only [outE, hv] at hx; cases hx
          | some vs =>
            simp only [outE, hv] at hx
            cases hp : packR vs with
            | none => rw [hp] at hx; cases hx
            | some p => rw [hp] at hx; cases hx; exact (show q1 = q from hxq) ▸ hq
        | ret =>
          cases hv : resK f1 af.results with
          | none => simp only [outE, hv] at hx; cases hx
          | some vs =>
            simp only [outE, hv] at hx
            cases hp : packR vs with
            | none => rw [hp] at hx; cases hx
            | some p => rw [hp] at hx; cases hx; exact (show q1 = q from hxq) ▸ hq
      have h1 := hq' h rfl
      cases e with
      | exit i => cases h
      | normal => exact fin (.inl rfl) (hs h1) h
      | ret => exact fin (.inr rfl) (hs h1) h
theorem evA {f : FuncId} {x : PV} {xs : List PV} {r : PV} {s : Sto} (h : E f (x :: xs) [] r s) : Ev runA f (x :: xs) [] r s := by
  obtain ⟨N, H⟩ := h
  exact ⟨N, fun n hn => H n hn⟩
theorem evA7 : Ev runA 4 [] [] (.bool true) [] := ⟨0, fun n _ => runA7 n⟩
theorem PA {k : PK} {vs : List PV} {rs : List (Option PV)} (h : semP k vs = some rs) : OpEv pur runA (.p k) vs [] rs [] := op_p h
theorem law_ok {f : FuncId} {af : AFunc} {args : List PV} (hok : FnOk f af) (ha : ∀ p ∈ args, p.disown = p) (h : Runs af args [] (.bool true) []) : CallOk Tryz.prog f args [] (.bool true) [] := by
  obtain ⟨fn, fi, h1, h2, h3, h4⟩ := hok
  obtain ⟨N, H⟩ := h
  exact fn_sound mixed h1 h2 h3 (runA_sound N) ha (runFnK_sim h4 (H N (Nat.le_refl _)))
end Go.Abs.Z
