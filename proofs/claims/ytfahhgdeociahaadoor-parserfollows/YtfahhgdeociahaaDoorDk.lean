/- A part of the proof: D29 D26. -/
import Derived.Test.YtfahhgdeociahaaDoorDh
import Derived.Test.YtfahhgdeociahaaDoorDf
import Derived.Test.YtfahhgdeociahaaDoorDa

set_option linter.unusedVariables false
set_option linter.unusedSimpArgs false
namespace Go.Abs.Z
set_option linter.unusedVariables false
open Go.Proofs Go.RowKit
theorem BjQ {s : List UInt8} (_hs : s.length ≤ 4096) : (toksT s).length ≤ s.length + 1 ∧ (lexs s).length ≤ s.length + 1 := by
  have hsc : (scanT s).length ≤ s.length + 1 := AjJ (s.length + 1) s 0;exact ⟨Nat.le_trans (List.length_filter_le _ _) hsc, Nat.le_trans (AwI s _) hsc⟩
theorem fin_len {w : Nat → Wd} {k : Nat} {D : List AD} (hD : Dok k D) : (finD w k D).length ≤ k + 2 := by
  have := hD.small;unfold finD;split
  · omega
  · simp; omega
theorem AkY {ls : List Tk} (ks : List AT) : ks.isEmpty = true → trPs ls ks = [] := by
  intro h;have := List.isEmpty_iff.1 h;subst this; rfl
mutual
theorem trP_wf {ls : List Tk} : ∀ x : AT, (trP ls x).wf
  | .mk kd tx f k b ks => ⟨fun h => AkY ks h, trPs_wf ks⟩
theorem trPs_wf {ls : List Tk} : ∀ xs : List AT, Tr.wfs (trPs ls xs)
  | [] => trivial
  | x :: xs => ⟨trP_wf x, trPs_wf xs⟩
end
theorem K5 {s : List UInt8} {ls : List Tk} {m k : Nat} (H : Toks s ls m) (h : k ≤ m) (h5 : (wAt s ls k).1 = 5) : k = m := by
  rcases Nat.lt_or_ge k m with h' | h'
  · obtain ⟨t, ht⟩ := H.at h;have := H.kd k t ht h';rw [AkD ht] at h5
    simp only at h5
    omega
  · omega
theorem wok_toks {s : List UInt8} {ls : List Tk} {m : Nat} (H : Toks s ls m) : Wok (wAt s ls) m := by
  refine ⟨H.end', fun k hk h5 => ?_⟩
  have := K5 H hk h5;subst this;rw [H.end']
theorem runs (s : List UInt8) (hs : s.length ≤ 4096) (x : NT) (hx : okNT x) (hb : x ≠ .br) : ∃ v k D, runN (wAt s (toksT s)) 100000 x 0 [] = some (v, k, D) := by
  have H := AzA s (by omega)
  obtain ⟨l1, _⟩ := BjQ hs
  have hr : rk x ≤ 100 := by
    cases x with
    | ex L => rcases hx with rfl | rfl | rfl | rfl | rfl | rfl <;> decide
    | lp L f y => rcases hx with rfl | rfl | rfl | rfl <;> simp [rk]
    | _ => simp [rk]
  obtain ⟨⟨v, k, D⟩, h⟩ := run_all (wok_toks H) 100000 x 0 hx (fun e => absurd e hb) (by unfold mu; omega) (Nat.zero_le _) [] ⟨List.Pairwise.nil, fun d h => by cases h⟩
  exact ⟨v, k, D, h⟩
theorem runs_ok (s : List UInt8) (hs : s.length ≤ 4096) {x : NT} {v : Rs} {k : Nat} {D : List AD} (h : runN (wAt s (toksT s)) 100000 x 0 [] = some (v, k, D)) : k ≤ (toksT s).length - 1 ∧ Dok k D ∧ EI 100000 x 0 v k := by
  have H := AzA s (by omega)
  obtain ⟨c1, c2⟩ := ok_in (w5 H) 100000 (by omega)
  have hD0 : Dok 0 [] := ⟨List.Pairwise.nil, fun d h => by cases h⟩
  obtain ⟨o1, o2, o3⟩ := c1 _ _ _ _ h (Nat.zero_le _) hD0;exact ⟨o2, o3, c2 _ _ _ _ _ _ h (Nat.zero_le _) hD0⟩
theorem sd_small {s : List UInt8} (hs : s.length ≤ 4096) {k : Nat} {D : List AD} (hk : k ≤ (toksT s).length - 1) (hD : Dok k D) {R : List Dg} (h : Sd (lexs s ++ dgs (toksT s) (finD (wAt s (toksT s)) k D)) R) : R.length < 1000000000 := by
  have := h.len;obtain ⟨l1, l2⟩ := BjQ hs;have := fin_len (w := wAt s (toksT s)) hD;simp only [List.length_append, dgs, List.length_map] at *;omega
end Go.Abs.Z

namespace Go.Abs.Z
section
variable {s : List UInt8} {ls : List Tk} {m : Nat}
end
def DgIn (s : List UInt8) (R : List Dg) : Prop := ∀ d ∈ R, d.a ≤ d.e ∧ d.e ≤ s.length
theorem dgIn {s : List UInt8} (hs : s.length ≤ 4096) {D : List AD} (hD : ∀ d ∈ D, d.i ≤ (toksT s).length - 1) {R : List Dg} (h : Sd (lexs s ++ dgs (toksT s) D) R) : DgIn s R := by
  intro d hd;have hd' := h.mem.1 hd;rcases List.mem_append.1 hd' with hx | hx
  · have hw := (Aj1 s (s.length + 1) 0 (by omega) (by omega)).wf
    have key : ∀ l : List Tk, (∀ t ∈ l, t.a ≤ t.e ∧ t.e ≤ s.length) → ∀ d ∈ lexP s l, d.a ≤ d.e ∧ d.e ≤ s.length := by
      intro l
      induction l with
      | nil => intro _ x hx; cases hx
      | cons t l ih =>
        intro h x hx;rw [lexP] at hx
        split at hx
        · exact ih (fun u hu => h u (by simp [hu])) x hx
        · rcases List.mem_cons.1 hx with rfl | hx
          · exact h t (by simp)
          · exact ih (fun u hu => h u (by simp [hu])) x hx
    exact key _ (fun t ht => ⟨(hw t ht).1.ord.1, (hw t ht).1.ord.2.1⟩) d hx
  · have H := AzA s (by omega)
    obtain ⟨x, hx2, rfl⟩ := List.mem_map.1 hx;obtain ⟨t, ht⟩ := H.at (hD x hx2);have h1 := H.ord _ _ ht;show tA (toksT s) x.i ≤ tE (toksT s) x.i ∧ tE (toksT s) x.i ≤ _;rw [tA_eq ht, tE_eq ht]; exact h1
end Go.Abs.Z
