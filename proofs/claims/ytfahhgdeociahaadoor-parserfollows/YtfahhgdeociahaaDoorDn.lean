/- A part of the proof: D33. -/
import Derived.Test.YtfahhgdeociahaaDoorDl
import Derived.Test.YtfahhgdeociahaaDoorDm

set_option linter.unusedVariables false
set_option linter.unusedSimpArgs false
namespace Go.Abs.Z
open Go.Proofs Go.RowKit
set_option linter.unusedVariables false
section
variable {ls ls' : List Tk}
theorem BjT {T U : Tr} (wT : T.wf) (wU : U.wf) (hl : T.kids.length = U.kids.length) (hs : T.kids.length < 1000000000) (he : ∀ (i : Nat) (x y : Tr), T.kids[i]? = some x → U.kids[i]? = some y → E 8 [x.pv, y.pv] [] (.bool true) []) : ∀ (n j : Nat), j + n = T.kids.length →
    LE m21_0 l21_0 [(2, some (.vptr T.pv)), (3, some (.vptr U.pv)), (5, some (N j))] [] (.exit 0) [(2, some (.vptr T.pv)), (3, some (.vptr U.pv))] []
  | 0, j, h => r21_l0_out1 wT (by omega)
  | n + 1, j, h => by
    have h1 : T.kids[j]? = some T.kids[j] := List.getElem?_eq_getElem (by omega)
    have h2 : U.kids[j]? = some U.kids[j] := List.getElem?_eq_getElem (by omega)
    exact r21_l0_next1 wT (by omega) h1 wU h2 (he j _ _ h1 h2) (by omega) (BjT wT wU hl hs he n (j + 1) (by omega))
theorem same_of {T U : Tr} (wT : T.wf) (wU : U.wf) (h1 : T.kind = U.kind) (h2 : T.text = U.text) (hl : T.kids.length = U.kids.length) (hs : T.kids.length < 1000000000) (he : ∀ (i : Nat) (x y : Tr), T.kids[i]? = some x → U.kids[i]? = some y → E 8 [x.pv, y.pv] [] (.bool true) []) : E 8 [T.pv, U.pv] [] (.bool true) [] :=
  r21_2 h1 h2 wT wU (by omega) (BjT wT wU hl hs he T.kids.length 0 (by omega))
mutual
theorem same_tr : ∀ x y : AT, x.sim y → y.ok → E 8 [(trP ls x).pv, (trP ls' y).pv] [] (.bool true) []
  | .mk kd tx f k b ks, .mk kd' tx' f' k' b' ks', h, ho => by
    obtain ⟨rfl, rfl, h⟩ := h;have hl := Bz0 h;refine same_of (trP_wf _) (trP_wf _) rfl rfl ?_ ?_ fun i x y hx hy => AwE ks ks' h f' k' ho.2.2 i x y hx hy
    · show (trPs ls ks).length = (trPs ls' ks').length;rw [AxS, AxS, hl]
    · show (trPs ls ks).length < _;rw [AxS, hl]; exact ho.2.1
theorem AwE : ∀ xs ys : List AT, sims xs ys → ∀ lo hi, oks lo hi ys → ∀ (i : Nat) (x y : Tr), (trPs ls xs)[i]? = some x → (trPs ls' ys)[i]? = some y → E 8 [x.pv, y.pv] [] (.bool true) []
  | [], _, _, _, _, _, i, x, y, hx, _ => by simp [trPs] at hx
  | z :: xs, [], h, _, _, _, _, _, _, _, _ => h.elim
  | z :: xs, u :: ys, h, lo, hi, ho, 0, x, y, hx, hy => by
    cases hx; cases hy;exact same_tr z u h.1 ho.2.1
  | z :: xs, u :: ys, h, lo, hi, ho, i + 1, x, y, hx, hy => AwE xs ys h.2 _ _ ho.2.2 i x y (by simpa [trPs] using hx) (by simpa [trPs] using hy)
end
end
theorem Bq7 {a b : List UInt8} {U1 U2 U3 : Tr} (w1 : U1.wf) (w2 : U2.wf) (w3 : U3.wf) (hl : U3.kids.length = U1.kids.length + U2.kids.length) (hs : U3.kids.length < 1000000000)
    (hk : ∀ (i : Nat) (x y : Tr), U3.kids[i]? = some x → (U1.kids ++ U2.kids)[i]? = some y → E 8 [x.pv, y.pv] [] (.bool true) []) : ∀ (n j : Nat), j + n = U3.kids.length →
    LR m4_0 l4_0 [(0, some (.str a)), (5, some (.vptr U1.pv)), (8, some (.vptr U2.pv)), (9, some .nils), (12, some .nils), (81, some U3.kp), (82, some (N U3.kids.length)), (83, some (N j))] [] (.exit 0) [(0, some (.str a)), (5, some (.vptr U1.pv)), (8, some (.vptr U2.pv)), (9, some .nils), (12, some .nils), (81, some U3.kp)] []
  | 0, j, h => r4n_l0_out1 (b := b) (by omega)
  | n + 1, j, h => by
    have g1 : U3.kids[j]? = some U3.kids[j] := List.getElem?_eq_getElem (by omega)
    by_cases hj : j < U1.kids.length
    · have g2 : U1.kids[j]? = some U1.kids[j] := List.getElem?_eq_getElem hj
      exact r4n_l0_next1 (b := b) (by omega) w3 g1 w1 (by omega) g2 (evA (hk j _ _ g1 (by rw [List.getElem?_append_left hj]; exact g2))) (by omega) (Bq7 (b := b) w1 w2 w3 hl hs hk n (j + 1) (by omega))
    · have g2 : U2.kids[j - U1.kids.length]? = some U2.kids[j - U1.kids.length] := List.getElem?_eq_getElem (by omega)
      exact Bk5 (b := b) (by omega) w3 g1 w1 (by omega) (by omega) (by omega) w2 g2 (evA (hk j _ _ g1 (by rw [List.getElem?_append_right (by omega)]; exact g2))) (Bq7 (b := b) w1 w2 w3 hl hs hk n (j + 1) (by omega))
theorem Bq8 {a b : List UInt8} {U1 U2 U3 : Tr} {dl1 dl2 : List Dg} (w1 : U1.wf) (w2 : U2.wf) (w3 : U3.wf) (hl : U3.kids.length = U1.kids.length + U2.kids.length) (hs : U3.kids.length < 1000000000)
    (hk : ∀ (i : Nat) (x y : Tr), U3.kids[i]? = some x → (U1.kids ++ U2.kids)[i]? = some y → E 8 [x.pv, y.pv] [] (.bool true) []) : ∀ (n j : Nat), j + n = U3.kids.length →
    LR m4_0 l4_0 [(0, some (.str a)), (5, some (.vptr U1.pv)), (8, some (.vptr U2.pv)), (9, some (.slice false 5 (dl1.map Dg.pv))), (12, some (.slice false 5 (dl2.map Dg.pv))), (81, some U3.kp), (82, some (N U3.kids.length)), (83, some (N j))] [] (.exit 0) [(0, some (.str a)), (5, some (.vptr U1.pv)), (8, some (.vptr U2.pv)), (9, some (.slice false 5 (dl1.map Dg.pv))), (12, some (.slice false 5 (dl2.map Dg.pv))), (81, some U3.kp)] []
  | 0, j, h => r4_l0_out1 (b := b) (by omega)
  | n + 1, j, h => by
    have g1 : U3.kids[j]? = some U3.kids[j] := List.getElem?_eq_getElem (by omega)
    by_cases hj : j < U1.kids.length
    · have g2 : U1.kids[j]? = some U1.kids[j] := List.getElem?_eq_getElem hj
      exact r4_l0_next1 (b := b) (by omega) w3 g1 w1 (by omega) g2 (evA (hk j _ _ g1 (by rw [List.getElem?_append_left hj]; exact g2))) (by omega) (Bq8 (b := b) w1 w2 w3 hl hs hk n (j + 1) (by omega))
    · have g2 : U2.kids[j - U1.kids.length]? = some U2.kids[j - U1.kids.length] := List.getElem?_eq_getElem (by omega)
      exact r4_l0_next2 (b := b) (by omega) w3 g1 w1 (by omega) (by omega) (by omega) w2 g2 (evA (hk j _ _ g1 (by rw [List.getElem?_append_right (by omega)]; exact g2))) (Bq8 (b := b) w1 w2 w3 hl hs hk n (j + 1) (by omega))
theorem dgs_loop {a b : List UInt8} {U1 U2 U3 : Tr} {R : List Dg} (hl : R.length < 1000000000) (ha : a.length < 100000) (hb : b.length < 100000) (hi : DgIn b R) : ∀ (n j : Nat), j + n = (R.map (Dg.sh (a.length + 1))).length →
    LR m4_1 l4_1 [(0, some (.str a)), (5, some (.vptr U1.pv)), (8, some (.vptr U2.pv)), (9, some (.slice false 5 (R.map Dg.pv))), (12, some (.slice false 5 ((R.map (Dg.sh (a.length + 1))).map Dg.pv))), (81, some U3.kp), (114, some (N (R.map (Dg.sh (a.length + 1))).length)), (115, some (N j))] [] (.exit 2)
      [(0, some (.str a)), (5, some (.vptr U1.pv)), (8, some (.vptr U2.pv)), (9, some (.slice false 5 (R.map Dg.pv))), (12, some (.slice false 5 ((R.map (Dg.sh (a.length + 1))).map Dg.pv))), (81, some U3.kp)] []
  | 0, j, h => r4_l1_out1 (b := b) (by omega)
  | n + 1, j, h => by
    have hj : j < R.length := by rw [List.length_map] at h; omega
    have g1 : (R.map (Dg.sh (a.length + 1)))[j]? = some (Dg.sh (a.length + 1) R[j]) := by rw [List.getElem?_map, List.getElem?_eq_getElem hj]; rfl
    have g2 : R[j]? = some R[j] := List.getElem?_eq_getElem hj
    have g3 := hi _ (List.getElem_mem hj);exact r4_l1_next1 (b := b) (by omega) g1 g2 rfl g1 g2 (by omega) (by omega) (by omega) (show (((R[j].a + (a.length + 1) : Nat)) : Int) = ((R[j].a + a.length + 1 : Nat) : Int) by omega) g1 g2 rfl (by omega) (dgs_loop hl ha hb hi n (j + 1) (by omega))
theorem sd_nil {l : List Dg} (h : Sd l []) : l = [] := List.length_eq_zero_iff.1 h.len.symm
theorem follows_true (a b : List UInt8) : Runs a4 [.str a, .str b] [] (.bool true) [] := by
  by_cases hla : a.length ≤ 300
  · by_cases hlb : b.length ≤ 300
    · have hlc : (cat a b).length ≤ 601 := by simp; omega
      have Ha := AzA a (by omega)
      have Hb := AzA b (by omega)
      have hD0 : Dok 0 [] := ⟨List.Pairwise.nil, fun d h => by cases h⟩
      obtain ⟨va, ka, Da, h1⟩ := runs a (by omega) (.pg []) trivial (by simp)
      obtain ⟨vb, kb, Db, h2⟩ := runs b (by omega) (.pg []) trivial (by simp)
      obtain ⟨vc, kc, Dc, h3⟩ := runs (cat a b) (by omega) (.pg []) trivial (by simp)
      obtain ⟨oa1, oa2, oa3⟩ := runs_ok a (by omega) h1
      obtain ⟨ob1, ob2, ob3⟩ := runs_ok b (by omega) h2
      obtain ⟨oc1, oc2, oc3⟩ := runs_ok (cat a b) (by omega) h3
      obtain ⟨Ra, Sa, Ea⟩ := e8 (s := a) (by omega) (n := 100000) (by decide) h1
      obtain ⟨Rb, Sb, Eb⟩ := e8 (s := b) (by omega) (n := 100000) (by decide) h2
      obtain ⟨Rc, Sc, Ec⟩ := e8 (s := cat a b) (by omega) (n := 100000) (by decide) h3
      by_cases hRa : Ra = []
      · subst hRa;have hX := sd_nil Sa;obtain ⟨x1, x2⟩ := List.append_eq_nil_iff.1 hX;have x3 : finD (wAt a (toksT a)) ka Da = [] := List.map_eq_nil_iff.1 x2
        have x4 : Da = [] := by
          unfold finD at x3
          split at x3
          · exact x3
          · simp at x3
        subst x4;obtain ⟨v, g1, g2⟩ := follows hla hlb (by decide) h1 h2
        have h3' := Bz4 (n' := 100000 + 100000) (by omega) h3
        have hu := g1.symm.trans h3';cases hu;have hkb : (wAt b (toksT b) kb).1 = 5 := pg_end (w5 Hb) 100000 [] 0 [] vb kb Db (by decide) h2 (Nat.zero_le _) hD0
        have hf : finD (wAt b (toksT b)) kb Db = Db := by unfold finD; rw [if_pos hkb]
        have hfc : finD (wAt (cat a b) (toksT (cat a b))) (kb + ((toksT a).length - 1)) (Db.map (AD.sh ((toksT a).length - 1))) = Db.map (AD.sh ((toksT a).length - 1)) := by
          unfold finD; rw [w_b (b := b) (by omega), if_pos hkb]
        rw [hf] at Sb;rw [hfc, dgs_sh (by omega) (by omega) (fun d hd => Nat.le_trans (ob2.2 d hd) ob1), lexs_cat (by omega), x1, List.nil_append, ← List.map_append] at Sc
        have hRc : Rc = Rb.map (Dg.sh (a.length + 1)) := Sc.eq (sd_sh Sb);subst hRc;obtain ⟨la, ka'⟩ := oa3 (by simp)
        obtain ⟨lb, kb'⟩ := ob3 (by simp)
        have ka' := ka' 0 (Nat.le_refl _);have kb' := kb' 0 (Nat.le_refl _);have wf : ∀ (s : List UInt8) (acc : List AT), (prT s (toksT s) acc).wf := fun s acc => ⟨fun h => AkY _ h, trPs_wf _⟩
        have hshs : (shs ((toksT a).length - 1) vb.2).length = vb.2.length := Bz0 (BxZ _ _);have kl : ∀ (s : List UInt8) (acc : List AT), (prT s (toksT s) acc).kids.length = acc.length := fun s acc => AxS _ _
        have hlen : (prT (cat a b) (toksT (cat a b)) vc.2).kids.length = (prT a (toksT a) va.2).kids.length + (prT b (toksT b) vb.2).kids.length := by
          rw [kl, kl, kl, g2, List.length_append, hshs]
        have hsm : (prT (cat a b) (toksT (cat a b)) vc.2).kids.length < 1000000000 := by rw [kl]; exact (oc3 (by simp)).1
        have hk : ∀ (i : Nat) (x y : Tr), (prT (cat a b) (toksT (cat a b)) vc.2).kids[i]? = some x → ((prT a (toksT a) va.2).kids ++ (prT b (toksT b) vb.2).kids)[i]? = some y → E 8 [x.pv, y.pv] [] (.bool true) [] := by
          intro i x y hx hy;have hx : (trPs (toksT (cat a b)) vc.2)[i]? = some x := hx;have hy : (trPs (toksT a) va.2 ++ trPs (toksT b) vb.2)[i]? = some y := hy;rw [g2, AjQ, List.map_append] at hx;by_cases hi : i < va.2.length
          · rw [List.getElem?_append_left (by rw [List.length_map]; exact hi), ← AjQ] at hx
            rw [List.getElem?_append_left (by rw [AxS]; exact hi)] at hy
            exact AwE va.2 va.2 (AwR _) _ _ ka' i x y hx hy
          · rw [List.getElem?_append_right (by rw [List.length_map]; omega), ← AjQ, List.length_map] at hx
            rw [List.getElem?_append_right (by rw [AxS]; omega), AxS] at hy
            exact AwE _ vb.2 (BxZ _ _) _ _ kb' _ x y hx hy
        have l1 : a.length + ([10] : List UInt8).length ≤ AzF := by simp [AzF]; omega
        have l2 : ((a ++ [10]) : List UInt8).length + b.length ≤ AzF := by simp [AzF]; omega
        have la' : (prT a (toksT a) va.2).kids.length < 1000000000 := by rw [kl]; exact la
        have lb' : (prT b (toksT b) vb.2).kids.length < 1000000000 := by rw [kl]; exact lb
        have hRb := sd_small (by omega) ob1 ob2 (by rw [hf]; exact Sb)
        by_cases hz : Rb = []
        · subst hz
          exact r4n_4 (by omega) (by omega) (evA Ea) (evA Eb) l1 l2 (evA Ec) rfl rfl rfl (wf _ _) (wf _ _) (wf _ _) (by omega) (by omega) (by omega)
            (Bq7 (b := b) (wf _ _) (wf _ _) (wf _ _) hlen hsm hk (prT (cat a b) (toksT (cat a b)) vc.2).kids.length 0 (by omega)) (r4n_l1_out1 (b := b) (m1 := 0) (by omega)) evA7
        · have e1 : accD 5 (Rb.map Dg.pv) = .slice false 5 (Rb.map Dg.pv) := by cases Rb <;> first | exact absurd rfl hz | rfl
          have e2 : accD 5 ((Rb.map (Dg.sh (a.length + 1))).map Dg.pv) = .slice false 5 ((Rb.map (Dg.sh (a.length + 1))).map Dg.pv) := by cases Rb <;> first | exact absurd rfl hz | rfl
          rw [e1] at Eb;rw [e2] at Ec;have hdi := dgIn (by omega) (fun d hd => Nat.le_trans (ob2.2 d hd) ob1) Sb
          exact r4_4 (by omega) (by omega) (evA Ea) (evA Eb) l1 l2 (evA Ec) rfl rfl rfl (wf _ _) (wf _ _) (wf _ _) (by omega) (by omega) (by omega) (by rw [List.length_map])
            (Bq8 (b := b) (wf _ _) (wf _ _) (wf _ _) hlen hsm hk (prT (cat a b) (toksT (cat a b)) vc.2).kids.length 0 (by omega)) (dgs_loop hRb (by omega) (by omega) hdi (Rb.map (Dg.sh (a.length + 1))).length 0 (by omega)) evA7
      · have e1 : accD 5 (Ra.map Dg.pv) = .slice false 5 (Ra.map Dg.pv) := by cases Ra <;> first | exact absurd rfl hRa | rfl
        rw [e1] at Ea;exact r4x_3 (by omega) (by omega) (evA Ea) (evA Eb) (by simp [AzF]; omega) (by simp [AzF]; omega) (evA Ec) rfl rfl rfl (by have := List.length_pos_iff.2 hRa; omega) evA7
    · exact r4x_2 (by omega) (by omega) evA7
  · exact r4x_1 (by omega) evA7
theorem two_own (a b : List UInt8) : ∀ p ∈ [PV.str a, PV.str b], p.Aq0 = p := fun p hp => by
  rcases List.mem_cons.1 hp with h | h
  · subst h; rfl
  · rw [List.mem_singleton] at h; subst h; rfl
theorem follows_ok (a b : List UInt8) : Aw8 Tryd.prog 4 [.str a, .str b] [] (.bool true) [] := law_ok ok4 (two_own a b) (follows_true a b)
end Go.Abs.Z
