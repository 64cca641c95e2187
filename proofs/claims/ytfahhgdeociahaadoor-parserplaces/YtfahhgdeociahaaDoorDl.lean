/- A part of the proof: D31. -/
import Derived.Test.YtfahhgdeociahaaDoorDk
import Derived.Test.YtfahhgdeociahaaDoorWh

set_option linter.unusedVariables false
set_option linter.unusedSimpArgs false
namespace Go.Abs.Z
open Go.Proofs Go.RowKit
set_option linter.unusedVariables false
mutual

def Tr.slim : Tr → Prop
  | .mk _ _ _ _ _ ks => ks.length < 1000000000 ∧ slims ks
def slims : List Tr → Prop
  | [] => True
  | x :: xs => x.slim ∧ slims xs
end
mutual
theorem tr_slim {ls : List Tk} : ∀ x : AT, x.ok → (trP ls x).slim
  | .mk kd tx f k b ks, h => ⟨by show (trPs ls ks).length < _; rw [Ak2]; exact h.2.1, BxE ks f k h.2.2⟩
theorem BxE {ls : List Tk} : ∀ (xs : List AT) (lo hi : Nat), oks lo hi xs → slims (trPs ls xs)
  | [], _, _, _ => trivial
  | x :: xs, lo, hi, h => ⟨tr_slim x h.2.1, BxE xs _ _ h.2.2⟩
end
theorem ins_loop {T : Tr} (wT : T.wf) (hl : T.kids.length < 1000000000) (he : ∀ x ∈ T.kids, E 7 [x.pv] [] (.bool true) []) : ∀ (n j : Nat) (a : Int), j + n = T.kids.length → inss a T.en (T.kids.drop j) →
    LE AwK AwO [(1, some (.vptr T.pv)), (3, some (I a)), (9, some T.kp), (10, some (N T.kids.length)), (11, some (N j))] [] (.exit 0) [(1, some (.vptr T.pv)), (9, some T.kp)] []
  | 0, j, a, h, _ => BzB (by omega)
  | n + 1, j, a, h, hi => by
    have h1 : T.kids[j]? = some T.kids[j] := List.getElem?_eq_getElem (by omega)
    have hd : T.kids.drop j = T.kids[j] :: T.kids.drop (j + 1) := List.drop_eq_getElem_cons (by omega)
    rw [hd] at hi;obtain ⟨b1, b2, b3, b4, b5⟩ := hi;exact Bq5 (by omega) wT h1 (by omega) (by omega) (by omega) (he _ (List.getElem_mem _)) (by omega) (ins_loop wT hl he n (j + 1) _ (by omega) b5)
mutual
theorem ins_tr : ∀ T : Tr, T.wf → T.slim → T.ins → E 7 [T.pv] [] (.bool true) []
  | .mk kd tx st en b ks, hw, hs, hi => r1007_1 hw (ins_loop (T := .mk kd tx st en b ks) hw hs.1 (ins_trs ks hw.2 hs.2 st en hi) ks.length 0 st (by simp [Tr.kids]) hi)
theorem ins_trs : ∀ xs : List Tr, Tr.wfs xs → slims xs → ∀ a e : Int, inss a e xs → ∀ x ∈ xs, E 7 [x.pv] [] (.bool true) []
  | [], _, _, _, _, _, x, h => by cases h
  | y :: ys, hw, hs, a, e, hi, x, h => by
    rcases List.mem_cons.1 h with h | h
    · rw [h]; exact ins_tr y hw.1 hs.1 hi.2.2.2.1
    · exact ins_trs ys hw.2 hs.2 _ _ hi.2.2.2.2 x h
end
theorem dg_loop {s : List UInt8} {R : List Dg} (ha : Asc R) (hi : DgIn s R) (hl : R.length < 1000000000) : ∀ (n j a : Nat), j + n = R.length → (∀ d ∈ R.drop j, a ≤ d.a) →
    LR m3_0 l3_0 [(0, some (.str s)), (6, some (N a)), (43, some (.slice false 5 (R.map Dg.pv))), (44, some (N R.length)), (45, some (N j))] [] (.exit 0) [(0, some (.str s)), (43, some (.slice false 5 (R.map Dg.pv)))] []
  | 0, j, a, h, _ => r3_l0_out1 (by omega)
  | n + 1, j, a, h, hd => by
    have h1 : R[j]? = some R[j] := List.getElem?_eq_getElem (by omega)
    have e : R.drop j = R[j] :: R.drop (j + 1) := List.drop_eq_getElem_cons (by omega)
    obtain ⟨i1, i2⟩ := hi _ (List.getElem_mem (l := R) (n := j) (by omega))
    have h2 := hd R[j] (by rw [e]; exact List.mem_cons_self)
    have hp : (R.drop j).Pairwise fun d e => d.a ≤ e.a := List.Pairwise.sublist (List.drop_sublist _ _) ha
    rw [e, List.pairwise_cons] at hp;exact r3_l0_next1 (by omega) h1 (by omega) (by omega) (by omega) (by omega) (dg_loop ha hi hl n (j + 1) _ (by omega) hp.1)
theorem places_true (s : List UInt8) : Runs a3 [.str s] [] (.bool true) [] := by
  by_cases hs : s.length ≤ 500
  · have H := AjW s (by omega)
    obtain ⟨v, k, D, h⟩ := runs s (by omega) (.pg []) trivial (by simp)
    obtain ⟨o2, o3, o4⟩ := runs_ok s (by omega) h
    obtain ⟨b1, b2⟩ := o4 (by simp)
    have bk := b2 0 (Nat.le_refl _);obtain ⟨R, S1, E1⟩ := e8 (s := s) (by omega) (n := 100000) (by decide) h
    have hw : (prT s (toksT s) v.2).wf := ⟨fun h => AkL _ h, trPs_wf _⟩
    have hsl : (prT s (toksT s) v.2).slim := ⟨by show (trPs _ _).length < _; rw [Ak2]; exact b1, BxE _ _ _ bk⟩
    have hin := ins_tr _ hw hsl (pr_ins H bk o2);have hR := sd_small (by omega) o2 o3 S1
    have hd := dgIn (by omega) (fun d hd => Nat.le_trans (finD_mem o3 d hd) o2) S1
    by_cases he : R = []
    · subst he;exact r3n_2 (by omega) (evA E1) rfl rfl rfl rfl (evA hin) (r3n_l0_out1 (m1 := 0) (m2 := 0) (by omega)) evA7
    · have e : accD 5 (R.map Dg.pv) = .slice false 5 (R.map Dg.pv) := by cases R <;> first | exact absurd rfl he | rfl
      rw [e] at E1;exact r3_2 (by omega) (evA E1) rfl rfl rfl rfl (evA hin) (dg_loop S1.asc hd hR R.length 0 0 (by omega) (fun _ _ => Nat.zero_le _)) evA7
  · exact r3_1 (by omega) evA7
theorem str_own (s : List UInt8) : ∀ p ∈ [PV.str s], p.Aq0 = p := fun p hp => by rw [List.mem_singleton] at hp; subst hp; rfl
theorem places_ok (s : List UInt8) : AvR Tryd.prog 3 [.str s] [] (.bool true) [] := law_ok ok3 (str_own s) (places_true s)
end Go.Abs.Z
