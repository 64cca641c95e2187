/- A part of the proof: Q5 Q6. -/
import Derived.Test.YtkmhldloehaamaaGreatDoorMb
import Derived.Test.YtkmhldloehaamaaGreatDoorQa
import Derived.Lib.SplitLaws
import Derived.Test.YtkmhldloehaamaaGreatDoorZa

set_option linter.unusedVariables false
set_option linter.unusedSimpArgs false
namespace Go.Abs.Z
open Go.Proofs Go.RowKit
set_option linter.unusedVariables false
set_option linter.unusedSimpArgs false
def flatB (s : List UInt8) : Bool := s.all fun b => decide (b.toNat < 128) && b != 10
def OkL (d : Nat) (l : List UInt8) : Prop := flatB l = true ∧ Lib.hasPrefix l (ind d) = true ∧ ∃ c ∈ l, Lib.isSp c = false
def fl (ls : List (List UInt8)) : List UInt8 := (ls.map fun l => 10 :: l).flatten
def Ms (d : Nat) (s : List UInt8) : Prop := ∃ l0 ls, s = l0 ++ fl ls ∧ flatB l0 = true ∧ ∀ l ∈ ls, OkL d l
def AjO (s : List UInt8) : Prop := ∃ c r, s = c :: r ∧ Lib.isSp c = false
theorem AzZ (a b : List UInt8) : flatB (a ++ b) = (flatB a && flatB b) := by simp [flatB]
theorem flat_ms {d : Nat} {s : List UInt8} (h : flatB s = true) : Ms d s := ⟨s, [], by simp [fl], h, by simp⟩
theorem OkL.ext {d : Nat} {l x : List UInt8} (h : OkL d l) (hx : flatB x = true) : OkL d (l ++ x) := by
  obtain ⟨h1, h2, c, h3, h4⟩ := h;refine ⟨by rw [AzZ, h1, hx]; rfl, ?_, c, List.mem_append_left _ h3, h4⟩
  exact List.isPrefixOf_iff_prefix.2 ((List.isPrefixOf_iff_prefix.1 h2).trans (List.prefix_append _ _))
theorem ms_app0 {d : Nat} {s' : List UInt8} (h' : Ms d s') : ∀ (ls : List (List UInt8)) (l0 : List UInt8), (∀ l ∈ ls, OkL d l) → ∃ x ms, (l0 ++ fl ls) ++ s' = (l0 ++ x) ++ fl ms ∧ flatB x = true ∧ ∀ l ∈ ms, OkL d l
  | [], l0, _ => by
    obtain ⟨x, ms, rfl, hx, hm⟩ := h';exact ⟨x, ms, by simp [fl], hx, hm⟩
  | l :: ls, l0, h => by
    obtain ⟨x, ms, e, hx, hm⟩ := ms_app0 h' ls l fun m hm => h m (List.mem_cons_of_mem _ hm)
    refine ⟨[], (l ++ x) :: ms, ?_, rfl, fun m hm' => ?_⟩
    · have : fl (l :: ls) = 10 :: (l ++ fl ls) := by simp [fl]
      have e2 : fl ((l ++ x) :: ms) = 10 :: ((l ++ x) ++ fl ms) := by simp [fl]
      rw [this, e2, ← e]; simp
    · rcases List.mem_cons.1 hm' with rfl | hm'
      · exact (h l (List.mem_cons_self ..)).ext hx
      · exact hm m hm'
theorem Ms.app {d : Nat} {s s' : List UInt8} (h : Ms d s) (h' : Ms d s') : Ms d (s ++ s') := by
  obtain ⟨l0, ls, rfl, h0, h1⟩ := h;obtain ⟨x, ms, e, hx, hm⟩ := ms_app0 h' ls l0 h1;exact ⟨l0 ++ x, ms, e, by rw [AzZ, h0, hx]; rfl, hm⟩
theorem Ms.ite {d : Nat} {s s' : List UInt8} {p : Prop} [Decidable p] (h : p → Ms d s) (h' : ¬ p → Ms d s') : Ms d (if p then s else s') := by
  split
  · rename_i x; exact h x
  · rename_i x; exact h' x
theorem ind_succ' (d : Nat) : ind (d + 1) = ind d ++ [32, 32] := by
  unfold ind;rw [Lib.repeatL_add]; rfl
theorem ind_flat : ∀ d, flatB (ind d) = true
  | 0 => rfl
  | d + 1 => by rw [ind_succ', AzZ, ind_flat d]; rfl
theorem OkL.down {d : Nat} {l : List UInt8} (h : OkL (d + 1) l) : OkL d l := by
  obtain ⟨h1, h2, h3⟩ := h;refine ⟨h1, List.isPrefixOf_iff_prefix.2 (List.IsPrefix.trans ?_ (List.isPrefixOf_iff_prefix.1 h2)), h3⟩
  rw [ind_succ']; exact List.prefix_append _ _
theorem okl_of {d : Nat} {x : List UInt8} (hx : flatB x = true) (h : ∃ c ∈ x, Lib.isSp c = false) : OkL d (ind d ++ x) := by
  obtain ⟨c, h1, h2⟩ := h;exact ⟨by rw [AzZ, ind_flat, hx]; rfl, List.isPrefixOf_iff_prefix.2 (List.prefix_append _ _), c, List.mem_append_right _ h1, h2⟩
theorem Ms.head {d : Nat} {s : List UInt8} (h : Ms d s) (hh : AjO s) : ∃ l0 ls, s = l0 ++ fl ls ∧ flatB l0 = true ∧ (∀ l ∈ ls, OkL d l) ∧ ∃ c r, l0 = c :: r ∧ Lib.isSp c = false := by
  obtain ⟨l0, ls, rfl, h0, h1⟩ := h;obtain ⟨c, r, e, hc⟩ := hh;refine ⟨l0, ls, rfl, h0, h1, ?_⟩
  cases l0 with
  | nil =>
    cases ls with
    | nil => simp [fl] at e
    | cons l ls =>
      simp [fl] at e;rw [← e.1] at hc;exact absurd hc (by decide)
  | cons x l0 =>
    simp at e;exact ⟨c, l0, by rw [e.1], hc⟩
theorem block_ls {d : Nat} : ∀ l : List (Int × List UInt8), (∀ x ∈ l, Ms (d + 1) x.2 ∧ AjO x.2) → ∃ ls, [10] ++ (AxX (d + 1) l ++ (ind d ++ [125])) = fl ls ∧ ∀ m ∈ ls, OkL d m
  | [], _ => ⟨[ind d ++ [125]], by simp [AxX, fl], by
      intro m hm;rw [List.mem_singleton.1 hm];exact okl_of rfl ⟨125, by simp, by decide⟩⟩
  | x :: l, h => by
    obtain ⟨ls, e, h1⟩ := block_ls l fun y hy => h y (List.mem_cons_of_mem _ hy)
    obtain ⟨a, b⟩ := h x (List.mem_cons_self ..);obtain ⟨l0, ls0, ex, f0, f1, c, r, ec, hc⟩ := a.head b;refine ⟨(ind (d + 1) ++ l0) :: (ls0 ++ ls), ?_, fun m hm => ?_⟩
    · have e2 : AxX (d + 1) (x :: l) = ind (d + 1) ++ (x.2 ++ ([10] ++ AxX (d + 1) l)) := by simp [AxX]
      have e3 : fl ((ind (d + 1) ++ l0) :: (ls0 ++ ls)) = 10 :: ((ind (d + 1) ++ l0) ++ (fl ls0 ++ fl ls)) := by simp [fl]
      rw [e2, e3, ← e, ex]; simp
    · rcases List.mem_cons.1 hm with rfl | hm
      · exact (okl_of f0 ⟨c, by rw [ec]; simp, hc⟩).down
      · rcases List.mem_append.1 hm with hm | hm
        · exact (f1 m hm).down
        · exact h1 m hm
theorem flat_letter {c : UInt8} (h : wordB c = true) : (decide (c.toNat < 128) && c != 10) = true := by
  simp only [wordB, AqU, AqK, Bool.or_eq_true, Bool.and_eq_true, decide_eq_true_eq, beq_iff_eq] at h;have h1 : c.toNat < 128 := by omega
  have h2 : c ≠ 10 := by rintro rfl; revert h; decide
  simp [h1, h2]
theorem flat_word {s : List UInt8} (h : s.all wordB = true) : flatB s = true := by
  simp only [flatB, List.all_eq_true] at h ⊢;exact fun b hb => flat_letter (h b hb)
theorem tw_all (p : UInt8 → Bool) : ∀ s : List UInt8, (s.takeWhile p).all p = true
  | [] => rfl
  | c :: s => by
    rw [List.takeWhile_cons];split
    · rename_i h;rw [List.all_cons, h, tw_all p s]; rfl
    · rfl
theorem name_word {s : List UInt8} (h : nameB s = true) : s.all wordB = true := by
  simp only [nameB, Bool.and_eq_true, decide_eq_true_eq] at h;have h2 := h.2;unfold spanB at h2
  have : s.takeWhile wordB = s := by
    have := List.takeWhile_prefix wordB (l := s);exact this.eq_of_length h2
  rw [← this];exact tw_all _ s
theorem name_head {s : List UInt8} (h : nameB s = true) : AjO s := by
  simp only [nameB, Bool.and_eq_true, decide_eq_true_eq] at h;cases s with
  | nil => simp at h
  | cons c r =>
    refine ⟨c, r, rfl, ?_⟩
    have h1 : AqU c = true := h.1.1.2;simp only [AqU, Bool.and_eq_true, decide_eq_true_eq] at h1
    have hn : ∀ m : UInt8, m.toNat < 97 → c ≠ m := by
      rintro m hm rfl; omega
    simp [Lib.isSp, hn 9 (by decide), hn 10 (by decide), hn 11 (by decide), hn 12 (by decide), hn 13 (by decide), hn 32 (by decide)]
theorem text_flat {k : Int} {t : List UInt8} (h : Aq5 k t = true) : flatB t = true := by
  unfold Aq5 at h
  split at h
  · exact flat_word (name_word h)
  split at h
  · simp only [Bool.or_eq_true, beq_iff_eq] at h;rcases h with (rfl | rfl) | h
    · decide
    · decide
    · exact flat_word (name_word h)
  split at h
  · refine flat_word ?_
    simp only [AxU, numOk, Bool.and_eq_true] at h;have := h.1.2;rw [List.all_eq_true] at this ⊢;intro b hb;have := this b hb;simp [wordB, this]
  split at h
  · simp only [Bool.or_eq_true, beq_iff_eq] at h;rcases h with rfl | rfl <;> decide
  split at h
  · simp only [Bool.or_eq_true, beq_iff_eq] at h;rcases h with rfl | rfl <;> decide
  split at h
  · simp [AqZ] at h;rcases h with rfl | rfl | rfl | rfl | rfl | rfl | rfl | rfl | rfl | rfl | rfl | rfl | rfl <;> decide
  · rw [beq_iff_eq.1 h]; rfl
theorem par_flat {k : Int} {t : List UInt8} {i : Nat} {U : Tr} {s : List UInt8} (h : flatB s = true) : flatB (par k t i U s) = true := by
  unfold par;split
  · rw [AzZ, AzZ, h]; rfl
  · exact h
theorem commas_flat : ∀ l : List (Int × List UInt8), (∀ x ∈ l, flatB x.2 = true) → flatB (AqM l) = true
  | [], _ => by simp [AqM, Lib.join_nil, flatB]
  | [x], h => by
    have : AqM [x] = x.2 := by simp [AqM, Lib.join_one]
    rw [this]; exact h x (by simp)
  | x :: y :: l, h => by
    have e : AqM (x :: y :: l) = x.2 ++ ([44] ++ ([32] ++ AqM (y :: l))) := by
      unfold AqM;rw [List.map_cons, List.map_cons, Lib.join_cons, Lib.join_cons];simp [Lib.joinTail]
    rw [e, AzZ, AzZ, AzZ, h x (by simp), commas_flat (y :: l) fun z hz => h z (List.mem_cons_of_mem _ hz)]; rfl
theorem at2_flat {l : List (Int × List UInt8)} (h : ∀ x ∈ l, flatB x.2 = true) (i : Nat) : flatB (at2 l i).2 = true := by
  unfold at2;cases hi : l[i]? with
  | none => rfl
  | some x => exact h x (List.mem_of_getElem? hi)
theorem typed_flat {x : Int × List UInt8} (h : flatB x.2 = true) : flatB (AxK x) = true := by
  unfold AxK;split
  · rfl
  · rw [AzZ, h]; rfl
def flatK (k : Int) : Prop := k = 0 ∨ k = 9 ∨ k = 10 ∨ k = 12 ∨ k = 13 ∨ 17 ≤ k
theorem ite_flat {p : Prop} [Decidable p] {a b : List UInt8} (ha : p → flatB a = true) (hb : flatB b = true) : flatB (if p then a else b) = true := by
  split
  · rename_i h; exact ha h
  · exact hb
theorem node_flat {d : Nat} {k : Int} {t : List UInt8} {l : List (Int × List UInt8)} (hk : flatK k) (ht : flatB t = true) (hl : ∀ x ∈ l, flatB x.2 = true) : flatB (nodeT d k t l) = true := by
  have h1 := commas_flat l hl;have h2 := at2_flat hl;have h3 := typed_flat (h2 0);unfold flatK at hk;have n2 : k ≠ 2 := by omega
  have n11 : k ≠ 11 := by omega
  have n14 : k ≠ 14 := by omega
  unfold nodeT;rw [if_neg n2];have c1 : ∀ {a b : List UInt8}, flatB a = true → flatB b = true → flatB (a ++ b) = true := fun ha hb => by rw [AzZ, ha, hb]; rfl
  repeat' refine ite_flat (fun _ => ?_) ?_
  all_goals first | (exact absurd ‹k = 11› n11) | (exact ht) | (repeat' (first | exact h1 | exact h3 | exact ht | exact h2 _ | exact typed_flat (h2 _) | rfl | refine c1 ?_ ?_ | refine ite_flat (fun _ => ?_) ?_)) | skip
theorem prts_mem {P : List UInt8 → Prop} {k : Int} {t : List UInt8} {d : Nat} : ∀ {us : List Tr} {i : Nat}, (∀ U ∈ us, ∀ j, P (par k t j U (prt U d))) → ∀ x ∈ prts us k t i d, P x.2
  | [], i, _, x, hx => by rw [prts] at hx; cases hx
  | U :: us, i, h, x, hx => by
    rw [prts] at hx;rcases List.mem_cons.1 hx with rfl | hx
    · exact h U (List.mem_cons_self ..) i
    · exact prts_mem (fun V hV => h V (List.mem_cons_of_mem _ hV)) x hx
theorem kid_flatK {k : Int} (hk : flatK k) (i : Nat) (k' : Int) (t' : List UInt8) (h : kidOk k i k' t' = true) : flatK k' := by
  unfold flatK at hk ⊢;unfold kidOk at h;rw [if_neg (by omega), if_neg (by omega), if_neg (by omega), if_neg (by omega), if_neg (by omega), if_neg (by omega), if_neg (by omega)] at h
  have he : Ax0 k' = true → 17 ≤ k' := fun h => by have := Ax4 h; omega
  repeat' split at h
  all_goals first | omega | (have := he h; omega) | (simp [AqI, AzC] at h; first | omega | (have := he h; omega) | (rcases h with h | h <;> first | omega | (have := he h; omega)))
theorem flat_prt : ∀ (n : Nat) (T : Tr) (d : Nat), T.pre.length ≤ n → Good T 0 → flatK T.kind → flatB (prt T d) = true
  | 0, T, d, h, _, _ => by obtain ⟨k, t, a, e, n, ks⟩ := T; simp [Tr.pre] at h
  | n + 1, T, d, h, hg, hk => by
    obtain ⟨_, _, _, htx, _, _, hkk⟩ := Aq7 hg.loc;rw [Aq9];refine node_flat hk (text_flat htx) (prts_mem (P := fun s => flatB s = true) fun U hU j => par_flat ?_)
    exact flat_prt n U _ (by have := AzX T U hU; omega) (hg.kid hU 0 (by omega)) (kids_low (kid_flatK hk) hkk U hU)
theorem AjO.app {a : List UInt8} (h : AjO a) (b : List UInt8) : AjO (a ++ b) := by
  obtain ⟨c, r, rfl, hc⟩ := h;exact ⟨c, r ++ b, rfl, hc⟩
theorem AjO.par {k : Int} {t : List UInt8} {i : Nat} {U : Tr} {s : List UInt8} (h : AjO s) : AjO (par k t i U s) := by
  unfold Go.Abs.Z.par;split
  · exact ⟨40, s ++ [41], by simp, by decide⟩
  · exact h
theorem name20 {U : Tr} {d : Nat} (hg : Good U 0) (hk : U.kind = 20) : AjO (prt U d) := by
  have he : prt U d = U.text := by rw [Aq9]; simp [prts, nodeT, at2, hk]
  rw [he];obtain ⟨_, _, _, htx, _⟩ := Aq7 hg.loc;rw [hk] at htx;exact name_head (by simpa [Aq5] using htx)
theorem place_start {U : Tr} {d : Nat} (hg : Good U 0) (hk : U.kind = 20 ∨ U.kind = 21 ∨ U.kind = 22) : AjO (prt U d) := by
  rcases hk with hk | hk | hk
  · exact name20 hg hk
  · obtain ⟨A, B, hks, c0, c1⟩ := inv2 hg.loc hk rfl rfl;simp [kidOk] at c0;have mA : A ∈ U.kids := by rw [hks]; simp
    have he : prt U d = par U.kind U.text 0 A (prt A d) ++ ([91] ++ (par U.kind U.text 1 B (prt B d) ++ [93])) := by rw [Aq9, hks]; simp [prts, nodeT, at2, hk]
    rw [he];exact (name20 (hg.kid mA 0 (by omega)) c0).par.app _
  · obtain ⟨A, hks, c0⟩ := inv1 hg.loc hk rfl rfl;simp [kidOk] at c0;have mA : A ∈ U.kids := by rw [hks]; simp
    have he : prt U d = par U.kind U.text 0 A (prt A d) ++ ([46] ++ U.text) := by rw [Aq9, hks]; simp [prts, nodeT, at2, hk]
    rw [he];exact (name20 (hg.kid mA 0 (by omega)) c0).par.app _
theorem ret_head {d : Nat} {t : List UInt8} (l : List (Int × List UInt8)) : AjO (nodeT d 17 t l) := by
  have he : nodeT d 17 t l = (if (at2 l 0).1 = 0 then [114, 101, 116, 117, 114, 110, 59] else [114, 101, 116, 117, 114, 110, 32] ++ ((at2 l 0).2 ++ [59])) := rfl
  rw [he];by_cases h : (at2 l 0).1 = 0
  · rw [if_pos h]; exact ⟨114, _, rfl, by decide⟩
  · rw [if_neg h]; exact ⟨114, _, rfl, by decide⟩
theorem dw_nil {p : UInt8 → Bool} : ∀ {l : List UInt8}, l.dropWhile p = [] → ∀ x ∈ l, p x = true
  | [], _, x, h => by cases h
  | y :: l, h, x, hx => by
    rw [List.dropWhile_cons] at h
    split at h
    · rename_i hy;rcases List.mem_cons.1 hx with rfl | hx
      · exact hy
      · exact dw_nil h x hx
    · cases h
theorem ms_prt : ∀ (n : Nat) (T : Tr) (d : Nat), T.pre.length ≤ n → Good T 0 → (0 ≤ T.kind ∧ (T.kind = 0 ∨ 11 ≤ T.kind)) → Ms d (prt T d) ∧ (11 ≤ T.kind ∧ T.kind ≤ 19 → AjO (prt T d))
  | 0, T, d, h, _, _ => by obtain ⟨k, t, a, e, n, ks⟩ := T; simp [Tr.pre] at h
  | n + 1, T, d, h, hg, hk => by
    obtain ⟨_, _, _, htx, _, _, hkk⟩ := Aq7 hg.loc;have ih : ∀ U ∈ T.kids, ∀ d, (0 ≤ U.kind ∧ (U.kind = 0 ∨ 11 ≤ U.kind)) → Ms d (prt U d) ∧ (11 ≤ U.kind ∧ U.kind ≤ 19 → AjO (prt U d)) := fun U hU d hk => ms_prt n U d (by have := AzX T U hU; omega) (hg.kid hU 0 (by omega)) hk
    have fm : ∀ {s : List UInt8}, flatB s = true → Ms d s := fun h => flat_ms h
    have hc : T.kind = 11 ∨ T.kind = 14 ∨ T.kind = 15 ∨ T.kind = 16 ∨ flatK T.kind := by unfold flatK; omega
    rcases hc with hk | hk | hk | hk | hk'
    · have he : prt T d = [123] ++ ([10] ++ (AxX (d + 1) (prts T.kids T.kind T.text 0 (d + 1)) ++ (ind d ++ [125]))) := by rw [Aq9]; simp [nodeT, hk]
      rw [hk] at hkk;have h7 := kids_low (P := fun k => 12 ≤ k ∧ k ≤ 19) (fun i k' t' h => stm_rng (by simpa [kidOk] using h)) hkk
      obtain ⟨ls, e, hl⟩ := block_ls (d := d) (prts T.kids T.kind T.text 0 (d + 1)) (prts_mem (P := fun s => Ms (d + 1) s ∧ AjO s) fun U hU j => by
        obtain ⟨a, b⟩ := h7 U hU;rw [Ax7 (by omega)]
        obtain ⟨x, y⟩ := ih U hU (d + 1) (by omega)
        exact ⟨x, y (by omega)⟩)
      rw [he, e];exact ⟨⟨[123], ls, rfl, rfl, hl⟩, fun _ => ⟨123, fl ls, rfl, by decide⟩⟩
    · obtain ⟨U, V, X, hks, c0, c1, c2⟩ := inv3 hg.loc hk rfl rfl;simp [kidOk] at c0 c1 c2;have r0 := Ax4 c0;have mU : U ∈ T.kids := by rw [hks]; simp
      have mV : V ∈ T.kids := by rw [hks]; simp
      have mX : X ∈ T.kids := by rw [hks]; simp
      have he : prt T d = [105, 102, 32] ++ (par T.kind T.text 0 U (prt U d) ++ ([32] ++ (prt V d ++ (if X.kind = 0 then [] else [32, 101, 108, 115, 101, 32] ++ prt X d)))) := by rw [Aq9, hks]; simp [prts, nodeT, at2, hk, Ax7 (show V.kind < 20 by omega), Ax7 (show X.kind < 20 by omega)]
      rw [he];refine ⟨(fm rfl).app ((fm (par_flat (flat_prt _ U d (Nat.le_refl _) (hg.kid mU 0 (by omega)) (by unfold flatK; omega)))).app ((fm rfl).app ((ih V mV d (by omega)).1.app (Ms.ite (fun _ => fm rfl) fun hx => (fm rfl).app (ih X mX d (by omega)).1)))), fun _ => ⟨105, _, rfl, by decide⟩⟩
    · obtain ⟨U, V, hks, c0, c1⟩ := inv2 hg.loc hk rfl rfl;simp [kidOk] at c0 c1;have r0 := Ax4 c0;have mU : U ∈ T.kids := by rw [hks]; simp
      have mV : V ∈ T.kids := by rw [hks]; simp
      have he : prt T d = [119, 104, 105, 108, 101, 32] ++ (par T.kind T.text 0 U (prt U d) ++ ([32] ++ prt V d)) := by rw [Aq9, hks]; simp [prts, nodeT, at2, hk, Ax7 (show V.kind < 20 by omega)]
      rw [he];refine ⟨(fm rfl).app ((fm (par_flat (flat_prt _ U d (Nat.le_refl _) (hg.kid mU 0 (by omega)) (by unfold flatK; omega)))).app ((fm rfl).app (ih V mV d (by omega)).1)), fun _ => ⟨119, _, rfl, by decide⟩⟩
    · obtain ⟨U, V, X, hks, c0, c1, c2⟩ := inv3 hg.loc hk rfl rfl;simp [kidOk] at c0 c1 c2;have r0 := Ax4 c0;have r1 := Ax4 c1;have mU : U ∈ T.kids := by rw [hks]; simp
      have mV : V ∈ T.kids := by rw [hks]; simp
      have mX : X ∈ T.kids := by rw [hks]; simp
      have he : prt T d = [102, 111, 114, 32] ++ (T.text ++ ([32, 61, 32] ++ (par T.kind T.text 0 U (prt U d) ++ ([32, 116, 111, 32] ++ (par T.kind T.text 1 V (prt V d) ++ ([32] ++ prt X d)))))) := by rw [Aq9, hks]; simp [prts, nodeT, at2, hk, Ax7 (show X.kind < 20 by omega)]
      rw [he];refine ⟨(fm rfl).app ((fm (text_flat htx)).app ((fm rfl).app ((fm (par_flat (flat_prt _ U d (Nat.le_refl _) (hg.kid mU 0 (by omega)) (by unfold flatK; omega)))).app ((fm rfl).app ((fm (par_flat (flat_prt _ V d (Nat.le_refl _) (hg.kid mV 0 (by omega)) (by unfold flatK; omega)))).app ((fm rfl).app (ih X mX d (by omega)).1)))))), fun _ => ⟨102, _, rfl, by decide⟩⟩
    · refine ⟨fm (flat_prt _ T d (Nat.le_refl _) hg hk'), fun hr => ?_⟩
      have hc : T.kind = 12 ∨ T.kind = 13 ∨ T.kind = 17 ∨ T.kind = 18 ∨ T.kind = 19 := by unfold flatK at hk'; omega
      rw [Aq9];rcases hc with hk | hk | hk | hk | hk
      · rw [hk]; exact ⟨118, _, rfl, by decide⟩
      · obtain ⟨U, V, hks, c0, c1⟩ := inv2 hg.loc hk rfl rfl;simp [kidOk, AzC] at c0;have mU : U ∈ T.kids := by rw [hks]; simp
        rw [hk, hks];show AjO (par 13 T.text 0 U (prt U d) ++ _);exact (place_start (hg.kid mU 0 (by omega)) (by omega)).par.app _
      · rw [hk];exact ret_head _
      · rw [hk]; exact ⟨97, _, rfl, by decide⟩
      · rw [hk] at htx;rw [hk];exact (name_head (by simpa [Aq5] using htx)).app _
theorem index_flat {l : List UInt8} (h : flatB l = true) : ∀ r, Lib.index (l ++ 10 :: r) [10] = (l.length : Nat) := by
  induction l with
  | nil => intro r; rw [List.nil_append, Lib.index]; simp [List.isPrefixOf]
  | cons c l ih =>
    intro r
    have hc : c ≠ 10 := by
      rintro rfl
      simp [flatB] at h
    have hf : flatB l = true := by
      simp only [flatB, List.all_cons, Bool.and_eq_true] at h ⊢;exact h.2
    rw [List.cons_append, Lib.index];have hp : ([10] : List UInt8).isPrefixOf (c :: (l ++ 10 :: r)) = false := by simp [List.isPrefixOf, Ne.symm hc]
    rw [hp, ih hf];simp
theorem fl_cons (l : List UInt8) (ls : List (List UInt8)) : fl (l :: ls) = 10 :: (l ++ fl ls) := by simp [fl]
theorem split_fl : ∀ (ls : List (List UInt8)) (l0 : List UInt8), flatB l0 = true → (∀ l ∈ ls, flatB l = true) → Lib.splitK [10] 0 ls.length (l0 ++ fl ls) = l0 :: ls
  | [], l0, h, _ => by simp [fl, Lib.splitK]
  | l :: ls, l0, h, hl => by
    rw [fl_cons, List.length_cons, Lib.splitK, index_flat h];have : ¬ (((l0.length : Nat) : Int) == -1) = true := by simp
    rw [if_neg this];simp only [Int.toNat_natCast, Nat.add_zero, List.length_cons, List.length_nil, Nat.zero_add];have e1 : (l0 ++ 10 :: (l ++ fl ls)).take l0.length = l0 := by simp
    have e2 : (l0 ++ 10 :: (l ++ fl ls)).drop (l0.length + 1) = l ++ fl ls := by
      rw [← List.drop_drop]; simp
    rw [e1, e2, split_fl ls l (hl l (List.mem_cons_self ..)) fun m hm => hl m (List.mem_cons_of_mem _ hm)]
theorem count_flat {l : List UInt8} (h : flatB l = true) : l.count 10 = 0 := by
  rw [List.count_eq_zero];intro hm;simp only [flatB, List.all_eq_true] at h;exact absurd (h 10 hm) (by decide)
theorem count_fl : ∀ (ls : List (List UInt8)), (∀ l ∈ ls, flatB l = true) → (fl ls).count 10 = ls.length
  | [], _ => rfl
  | l :: ls, h => by
    rw [fl_cons, List.count_cons, List.count_append, count_flat (h l (List.mem_cons_self ..)), count_fl ls fun m hm => h m (List.mem_cons_of_mem _ hm)]
    simp
theorem trim_ne {l : List UInt8} (h : ∃ c ∈ l, Lib.isSp c = false) : Lib.trimSpace l ≠ [] := by
  intro he;obtain ⟨c, hc, hs⟩ := h;unfold Lib.trimSpace at he;have h1 : (List.dropWhile Lib.isSp (List.dropWhile Lib.isSp l).reverse) = [] := by simpa using he
  have h2 := dw_nil h1;have h3 : ∀ x ∈ List.dropWhile Lib.isSp l, Lib.isSp x = true := fun x hx => h2 x (by simpa using hx)
  have h4 : List.dropWhile Lib.isSp l = [] := by
    cases hd : List.dropWhile Lib.isSp l with
    | nil => rfl
    | cons y r =>
      have h5 := h3 y (by rw [hd]; simp)
      have h6 := List.head?_dropWhile_not Lib.isSp l
      rw [hd] at h6;simp [h5] at h6
  have h7 := dw_nil h4 c hc;rw [hs] at h7; cases h7
theorem lines_ok {T : Tr} {d : Nat} (hg : Good T 0) (hk : 11 ≤ T.kind ∧ T.kind ≤ 19) (hlen : (prt T d).length ≤ 1000000) (sB : ByteArray) (hs : sB.data.toList = prt T d) (i : Nat) (l : List UInt8) (h : ((Lib.splitB ⟨#[10]⟩ 0 (Lib.countB sB ⟨#[10]⟩) sB).map fun x => x.data.toList)[i]? = some l) : LineOk (ind d) i l := by
  obtain ⟨h1, h2⟩ := ms_prt _ T d (Nat.le_refl _) hg (by omega)
  obtain ⟨l0, ls, e, f0, f1, c, r, ec, hc⟩ := h1.head (h2 hk)
  have hcnt : Lib.countB sB ⟨#[10]⟩ = ls.length := by
    have h3 : Lib.countB sB ⟨#[10]⟩ = Lib.count sB.data.toList [10] := rfl;rw [h3, Lib.count_one, hs, e, List.count_append, count_flat f0, count_fl ls fun l hl => (f1 l hl).1]; omega
  have hsp : ((Lib.splitB ⟨#[10]⟩ 0 (Lib.countB sB ⟨#[10]⟩) sB).map fun x => x.data.toList) = l0 :: ls := by
    have h3 := Lib.splitB_data ⟨#[10]⟩ 0 (Lib.countB sB ⟨#[10]⟩) sB;rw [hcnt, hs, e] at h3;rw [hcnt];exact h3.trans (split_fl ls l0 f0 fun l hl => (f1 l hl).1)
  rw [hsp] at h
  have hll : ∀ m : List UInt8, flatB m = true → ∀ b ∈ m, b.toNat < 128 := fun m hm b hb => by
    simp only [flatB, List.all_eq_true, Bool.and_eq_true, decide_eq_true_eq] at hm;exact (hm b hb).1
  have hle : ∀ m ∈ ls, m.length ≤ (fl ls).length := fun m hm => by
    obtain ⟨A, B, rfl⟩ := List.append_of_mem hm;simp [fl]; omega
  rw [e, List.length_append] at hlen;cases i with
  | zero =>
    have : l0 = l := by simpa using h
    subst this;refine ⟨by omega, trim_ne ⟨c, by rw [ec]; simp, hc⟩, hll l0 f0, fun _ => ⟨c, by rw [ec]; rfl, ?_⟩, fun h => absurd h (by omega)⟩
    intro h32
    have : c = 32 := by
      apply UInt8.toNat_inj.1;show c.toNat = 32;omega
    subst this;exact absurd hc (by decide)
  | succ i =>
    have hm : l ∈ ls := List.mem_of_getElem? (by simpa using h)
    obtain ⟨g1, g2, g3⟩ := f1 l hm;exact ⟨by have := hle l hm; omega, trim_ne g3, hll l g1, fun h => absurd h (by omega), fun _ => g2⟩
end Go.Abs.Z

namespace Go.Abs.Z
open Go.Proofs Go.RowKit
set_option linter.unusedVariables false
set_option linter.unusedSimpArgs false
section
variable {T : Tr}
theorem laidS {d : Nat} (hg : Good T d) (hlen : (prt T d).length ≤ 4096) : ∃ ls t, E 28 [.str (prt T d)] [] (.ref 0 0) [pc (prt T d) ls 0 0 []] ∧ Sp (prt T d) ls 0 (tks T) ∧ AtW (prt T d) ls (0 + (tks T).length) (5, []) ∧ ls[(tks T).length]? = some t ∧ t.k = 5 := by
  have hx := (lxs_prt _ T d (Nat.le_refl _) hg).all;obtain ⟨ls, h1, h2, h3⟩ := start_ev _ hlen hx;have hc := lx_count hx;obtain ⟨g1, g2, t, g3, g4⟩ := spelt_get h3;refine ⟨ls, t, h1, sp_get fun i w hw => ?_, ?_, g3, g4.k⟩
  · obtain ⟨t, q1, q2⟩ := g2 i w hw
    have hi : i < (tks T).length := by
      rcases Nat.lt_or_ge i (tks T).length with h' | h'
      · exact h'
      · rw [List.getElem?_eq_none h'] at hw; cases hw
    rw [Nat.zero_add];refine ⟨⟨t, q1, q2⟩, fun h5 => ?_, by omega⟩
    have := lx_ok hx w (List.mem_of_getElem? hw);simp only [wdOk, Bool.and_eq_true, decide_eq_true_eq] at this;omega
  · rw [Nat.zero_add]; exact ⟨⟨t, g3, g4⟩, fun _ => rfl, by omega⟩
theorem statement_ok {d : Nat} (hg : Good T d) (hk : 12 ≤ T.kind ∧ T.kind ≤ 19) (hlen : (prt T d).length ≤ 4096) : ∃ (U : Tr) (σ : Sto), bare U = bare T ∧ U.wf ∧ E 9 [.str (prt T d)] [] (.tuple [U.pv, .slice false 5 [], I 0]) σ := by
  have hx := (lxs_prt _ T d (Nat.le_refl _) hg).all;obtain ⟨ls, t, h1, h2, h3, h4, h5⟩ := laidS hg hlen;obtain ⟨U, p1, p2, p3⟩ := ((st_ok _ T d (Nat.le_refl _) hg).t hk).1 0 _ _ h2 rfl h3 (by unfold AjE; decide)
  rw [Nat.zero_add] at p3;exact ⟨U, _, p1, p2, r1009_2 (dl1 := []) (by omega) h1 p3 (end_ev hlen hx h4 h5)⟩
theorem st_law (d : Int) (hw : T.wf) (hr : T.pre.length ≤ Ax1) : StLaw T d := by
  have a8 := e8 T 100 hw hr;cases hs : smallV T 100 with
  | false => rw [hs] at a8; exact .inl (evA a8)
  | true =>
    rw [hs] at a8;obtain ⟨t1, p1⟩ := small_parts hs;have q1 : T.pre.length ≤ 150 := by omega
    have h37 := e37 _ T (Nat.le_refl _) hw hr;have h58 := e58 T hw (by omega)
    have h79 : E 16 [.int .i64 T.kind] [] (.bool (AjF T.kind)) [] := ev_at 1 fun m _ => isStm3_run (call := run m) (n := m) T.kind
    have h78 : E 61 [.int .i64 T.kind] [] (.bool (AjF T.kind)) [] := ev_at 1 fun m _ => isStmT_run (call := run m) (n := m) T.kind
    cases hk : AjF T.kind with
    | false => rw [hk] at h79; exact .inr (.inl ⟨evA a8, evA (r53_2 h79)⟩)
    | true =>
      rw [hk] at h79 h78;have h52 := r52_1 h78 h58;have h53 := r53_1 h79 h37;cases hsh : AjM T with
      | false => rw [hsh] at h53; exact .inr (.inl ⟨evA a8, evA h53⟩)
      | true =>
        rw [hsh] at h52 h53;refine .inr (.inr ⟨evA a8, evA h53, ?_⟩)
        by_cases h0 : d < 0
        · exact .inl h0
        by_cases h10 : d > 10
        · exact .inr (.inl ⟨h0, h10⟩)
        refine .inr (.inr ⟨h0, h10, ?_⟩)
        obtain ⟨m, rfl⟩ : ∃ m : Nat, d = ((m : Nat) : Int) := ⟨d.toNat, by omega⟩
        have hg := good_of hw t1 q1 hsh m (by omega)
        have hg0 := good_of hw t1 q1 hsh 0 (by omega)
        have hkr := stm_rng hk;have e1 := (e5457 _ T m (Nat.le_refl _) hg).2 (by omega) (by omega)
        have e2 := e36 _ T m (Nat.le_refl _) hg (by omega) (by omega)
        by_cases hlen : (((prt T m).length : Nat) : Int) > 4096
        · exact ⟨_, _, evA (r24_4 h53 h0 (by omega) e1 (r33_1 hlen)), .inl rfl⟩
        · obtain ⟨U, σ, x1, x2, x3⟩ := statement_ok hg hkr (by omega)
          obtain ⟨b, z1, z2⟩ := same_ev _ U T (Nat.le_refl _) (.inr hr) x2 hw;have hb : b = true := z2.2 x1;subst hb
          exact ⟨_, _, evA (r24_4 h53 h0 (by omega) e1 (r33_2 hlen)), .inr ⟨by decide, prt T m, U, σ, ind m, evA (r23_4 h52 h0 (by omega) e2 (r35_2 hlen)), by omega, evA x3, evA z1, evA (e162 m (by omega)),
            fun sB hsB i l h => lines_ok hg0 (by omega) (by omega) sB hsB i l h⟩⟩
end
end Go.Abs.Z
