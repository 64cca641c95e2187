/- A part of the proof: D29 D26. -/
import Derived.Test.YtfahhgdeociahaaDoorDh
import Derived.Test.YtfahhgdeociahaaDoorDf
import Derived.Test.YtfahhgdeociahaaDoorDa

set_option linter.unusedVariables false
set_option linter.unusedSimpArgs false
namespace Go.Abs.Z
set_option linter.unusedVariables false
open Go.Proofs Go.RowKit
theorem finD_mem {w : Nat → Wd} {k : Nat} {D : List AD} (hD : Dok k D) : ∀ d ∈ finD w k D, d.i ≤ k := by
  unfold finD;split
  · exact hD.2
  · intro d hd;rcases List.mem_append.1 hd with hd | hd
    · exact hD.2 d hd
    · rw [List.mem_singleton] at hd; subst hd; exact Nat.le_refl _
theorem Bj7 {s : List UInt8} (_hs : s.length ≤ 4096) : (toksT s).length ≤ s.length + 1 ∧ (lexs s).length ≤ s.length + 1 := by
  have hsc : (scanT s).length ≤ s.length + 1 := AjB (s.length + 1) s 0;exact ⟨Nat.le_trans (List.length_filter_le _ _) hsc, Nat.le_trans (Aw0 s _) hsc⟩
theorem fin_len {w : Nat → Wd} {k : Nat} {D : List AD} (hD : Dok k D) : (finD w k D).length ≤ k + 2 := by
  have := hD.small;unfold finD;split
  · omega
  · simp; omega
theorem AkL {ls : List Tk} (ks : List AT) : ks.isEmpty = true → trPs ls ks = [] := by
  intro h;have := List.isEmpty_iff.1 h;subst this; rfl
mutual
theorem trP_wf {ls : List Tk} : ∀ x : AT, (trP ls x).wf
  | .mk kd tx f k b ks => ⟨fun h => AkL ks h, trPs_wf ks⟩
theorem trPs_wf {ls : List Tk} : ∀ xs : List AT, Tr.wfs (trPs ls xs)
  | [] => trivial
  | x :: xs => ⟨trP_wf x, trPs_wf xs⟩
end
theorem K5 {s : List UInt8} {ls : List Tk} {m k : Nat} (H : Toks s ls m) (h : k ≤ m) (h5 : (wAt s ls k).1 = 5) : k = m := by
  rcases Nat.lt_or_ge k m with h' | h'
  · obtain ⟨t, ht⟩ := H.at h;have := H.kd k t ht h';rw [Aw6 ht] at h5
    simp only at h5
    omega
  · omega
theorem wok_toks {s : List UInt8} {ls : List Tk} {m : Nat} (H : Toks s ls m) : Wok (wAt s ls) m := by
  refine ⟨H.end', fun k hk h5 => ?_⟩
  have := K5 H hk h5;subst this;rw [H.end']
theorem runs (s : List UInt8) (hs : s.length ≤ 4096) (x : NT) (hx : okNT x) (hb : x ≠ .br) : ∃ v k D, runN (wAt s (toksT s)) 100000 x 0 [] = some (v, k, D) := by
  have H := AjW s (by omega)
  obtain ⟨l1, _⟩ := Bj7 hs
  have hr : rk x ≤ 100 := by
    cases x with
    | ex L => rcases hx with rfl | rfl | rfl | rfl | rfl | rfl <;> decide
    | lp L f y => rcases hx with rfl | rfl | rfl | rfl <;> simp [rk]
    | _ => simp [rk]
  obtain ⟨⟨v, k, D⟩, h⟩ := run_all (wok_toks H) 100000 x 0 hx (fun e => absurd e hb) (by unfold mu; omega) (Nat.zero_le _) [] ⟨List.Pairwise.nil, fun d h => by cases h⟩
  exact ⟨v, k, D, h⟩
theorem runs_ok (s : List UInt8) (hs : s.length ≤ 4096) {x : NT} {v : Rs} {k : Nat} {D : List AD} (h : runN (wAt s (toksT s)) 100000 x 0 [] = some (v, k, D)) : k ≤ (toksT s).length - 1 ∧ Dok k D ∧ EI 100000 x 0 v k := by
  have H := AjW s (by omega)
  obtain ⟨c1, c2⟩ := ok_in (w5 H) 100000 (by omega)
  have hD0 : Dok 0 [] := ⟨List.Pairwise.nil, fun d h => by cases h⟩
  obtain ⟨o1, o2, o3⟩ := c1 _ _ _ _ h (Nat.zero_le _) hD0;exact ⟨o2, o3, c2 _ _ _ _ _ _ h (Nat.zero_le _) hD0⟩
theorem sd_small {s : List UInt8} (hs : s.length ≤ 4096) {k : Nat} {D : List AD} (hk : k ≤ (toksT s).length - 1) (hD : Dok k D) {R : List Dg} (h : Sd (lexs s ++ dgs (toksT s) (finD (wAt s (toksT s)) k D)) R) : R.length < 1000000000 := by
  have := h.len;obtain ⟨l1, l2⟩ := Bj7 hs;have := fin_len (w := wAt s (toksT s)) hD;simp only [List.length_append, dgs, List.length_map] at *;omega
end Go.Abs.Z

namespace Go.Abs.Z
mutual

def Tr.ins : Tr → Prop
  | .mk _ _ st en _ ks => inss st en ks
def inss : Int → Int → List Tr → Prop
  | _, _, [] => True
  | a, e, x :: xs => a ≤ x.st ∧ x.st ≤ x.en ∧ x.en ≤ e ∧ x.ins ∧ inss x.en e xs
end
section
variable {s : List UInt8} {ls : List Tk} {m : Nat}
theorem en_step (H : Toks s ls m) {k : Nat} (h : k ≤ m) : en ls k ≤ tA ls k ∧ tA ls k ≤ en ls (k + 1) := by
  obtain ⟨t, ht⟩ := H.at h;refine ⟨?_, ?_⟩
  · cases k with
    | zero => exact Nat.zero_le _
    | succ k =>
      obtain ⟨u, hu⟩ := H.at (k := k) (by omega)
      show tE ls k ≤ _;rw [tE_eq hu, tA_eq ht];exact (H.inc _ _ _ _ hu ht (by omega)).2
  · show _ ≤ tE ls k;rw [tE_eq ht, tA_eq ht]; exact (H.ord _ _ ht).1
theorem en_mono (H : Toks s ls m) {i : Nat} : ∀ n : Nat, i + n ≤ m + 1 → en ls i ≤ en ls (i + n)
  | 0, _ => Nat.le_refl _
  | n + 1, h => by
    have h1 := en_mono H (i := i) n (by omega)
    have h2 := en_step H (k := i + n) (by omega)
    show en ls i ≤ en ls (i + n + 1);omega
theorem en_le (H : Toks s ls m) {i j : Nat} (h : i ≤ j) (hj : j ≤ m + 1) : en ls i ≤ en ls j := by
  have := en_mono H (i := i) (j - i) (by omega)
  rwa [show i + (j - i) = j by omega] at this
theorem en_len (H : Toks s ls m) : ∀ k, k ≤ m + 1 → en ls k ≤ s.length
  | 0, _ => Nat.zero_le _
  | k + 1, h => by
    obtain ⟨t, ht⟩ := H.at (k := k) (by omega)
    show tE ls k ≤ _;rw [tE_eq ht]; exact (H.ord _ _ ht).2
mutual
theorem tr_pl (H : Toks s ls m) : ∀ x : AT, x.ok → x.lst ≤ m → ((en ls x.fst : Nat) : Int) ≤ (trP ls x).st ∧ (trP ls x).st ≤ (trP ls x).en ∧ (trP ls x).en = (en ls x.lst : Nat) ∧ (trP ls x).ins
  | .mk kd tx f k b ks, ho, hm => by
    have h1 : f ≤ k := ho.1;have h3 : oks f k ks := ho.2.2;have hk : k ≤ m := hm;have hp := trs_pl H ks f k h3 hk;have e1 := en_le H h1 (by omega)
    have e2 := en_step H (k := f) (by omega)
    have own : ((en ls f : Nat) : Int) ≤ (if f < k then ((tA ls f : Nat) : Int) else (en ls k : Nat)) ∧ (if f < k then ((tA ls f : Nat) : Int) else (en ls k : Nat)) ≤ ((en ls k : Nat) : Int) := by
      split
      · have := en_le H (i := f + 1) (j := k) (by omega) (by omega)
        omega
      · omega
    cases ks with
    | nil => exact ⟨own.1, own.2, rfl, trivial⟩
    | cons y ys =>
      obtain ⟨q1, q2⟩ := hp;obtain ⟨p1, p2⟩ := q1 (trP ls y) (trPs ls ys) rfl;refine ⟨?_, ?_, rfl, q2 _ fun u us e => ?_⟩
      · show ((en ls f : Nat) : Int) ≤ min _ (trP ls y).st;exact Int.le_min.2 ⟨own.1, p1⟩
      · show min _ (trP ls y).st ≤ _;exact Int.le_trans (Int.min_le_left _ _) own.2
      · cases e;exact Int.min_le_right _ _
theorem trs_pl (H : Toks s ls m) : ∀ (xs : List AT) (lo hi : Nat), oks lo hi xs → hi ≤ m → (∀ u us, trPs ls xs = u :: us → ((en ls lo : Nat) : Int) ≤ u.st ∧ u.st ≤ ((en ls hi : Nat) : Int)) ∧ ∀ a : Int, (∀ u us, trPs ls xs = u :: us → a ≤ u.st) → inss a (en ls hi : Nat) (trPs ls xs)
  | [], _, _, _, _ => ⟨fun u us h => (by cases h), fun _ _ => trivial⟩
  | x :: xs, lo, hi, h, hm => by
    obtain ⟨h1, h2, h3⟩ := h;have h4 := h3.le;have h5 := h2.le;obtain ⟨p1, p2, p3, p4⟩ := tr_pl H x h2 (by omega)
    obtain ⟨q1, q2⟩ := trs_pl H xs x.lst hi h3 hm;have e1 := en_le H (i := lo) (j := x.fst) h1 (by omega)
    have e2 := en_le H (i := x.lst) (j := hi) h4 (by omega)
    refine ⟨fun u us e => ?_, fun a ha => ⟨ha _ _ rfl, p2, by omega, p4, q2 _ fun u us e => ?_⟩⟩
    · cases e; omega
    · have := (q1 u us e).1; omega
end
theorem pr_ins (H : Toks s ls m) {acc : List AT} {k : Nat} (h : oks 0 k acc) (hk : k ≤ m) : (prT s ls acc).ins := by
  obtain ⟨q1, q2⟩ := trs_pl H acc 0 k h hk;have h0 := q2 0 fun u us e => (q1 u us e).1
  have hl := en_len H k (by omega)
  have up : ∀ (xs : List Tr) (a e e' : Int), e ≤ e' → inss a e xs → inss a e' xs := by
    intro xs
    induction xs with
    | nil => exact fun _ _ _ _ _ => trivial
    | cons x xs ih => exact fun a e e' he h => ⟨h.1, h.2.1, by have := h.2.2.1; omega, h.2.2.2.1, ih _ _ _ he h.2.2.2.2⟩
  exact up _ _ _ _ (by omega) h0
end
def DgIn (s : List UInt8) (R : List Dg) : Prop := ∀ d ∈ R, d.a ≤ d.e ∧ d.e ≤ s.length
theorem dgIn {s : List UInt8} (hs : s.length ≤ 4096) {D : List AD} (hD : ∀ d ∈ D, d.i ≤ (toksT s).length - 1) {R : List Dg} (h : Sd (lexs s ++ dgs (toksT s) D) R) : DgIn s R := by
  intro d hd;have hd' := h.mem.1 hd;rcases List.mem_append.1 hd' with hx | hx
  · have hw := (Ak4 s (s.length + 1) 0 (by omega) (by omega)).wf
    have key : ∀ l : List Tk, (∀ t ∈ l, t.a ≤ t.e ∧ t.e ≤ s.length) → ∀ d ∈ lexP s l, d.a ≤ d.e ∧ d.e ≤ s.length := by
      intro l
      induction l with
      | nil => intro _ x hx; cases hx
      | cons t l ih =>
        intro h x hx;rw [lexP] at hx
        split at hx
        · exact ih (fun u hu => h u (by simp [hu])) x hx
        · rcases List.mem_cons.1 hx with rfl | hx
          · exact h t (by simp)
          · exact ih (fun u hu => h u (by simp [hu])) x hx
    exact key _ (fun t ht => ⟨(hw t ht).1.ord.1, (hw t ht).1.ord.2.1⟩) d hx
  · have H := AjW s (by omega)
    obtain ⟨x, hx2, rfl⟩ := List.mem_map.1 hx;obtain ⟨t, ht⟩ := H.at (hD x hx2);have h1 := H.ord _ _ ht;show tA (toksT s) x.i ≤ tE (toksT s) x.i ∧ tE (toksT s) x.i ≤ _;rw [tA_eq ht, tE_eq ht]; exact h1
end Go.Abs.Z
