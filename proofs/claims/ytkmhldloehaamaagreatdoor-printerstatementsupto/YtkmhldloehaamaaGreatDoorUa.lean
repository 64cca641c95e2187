/- A part of the proof: U1 U2 U3 U4 U5 U6 U7 U8 U9. -/
import Derived.Test.YtkmhldloehaamaaGreatDoorSa

set_option linter.unusedVariables false
set_option linter.unusedSimpArgs false
namespace Go.Abs.Z
open Go.Proofs Go.RowKit
variable {call : Caller} {n : Nat}
def AqU (c : UInt8) : Bool := decide ((97 : Int) ≤ (c.toNat : Int)) && decide ((c.toNat : Int) ≤ 122)
def AqK (c : UInt8) : Bool := decide ((48 : Int) ≤ (c.toNat : Int)) && decide ((c.toNat : Int) ≤ 57)
def wordB (c : UInt8) : Bool := AqU c || AqK c || ((c.toNat : Int) == 95)
theorem p_geq8 (x y : Int) : semP (.bin .geq 0) [.int .u8 x, .int .u8 y] = some [some (.bool (decide (y ≤ x)))] := rfl
theorem p_leq8 (x y : Int) : semP (.bin .leq 0) [.int .u8 x, .int .u8 y] = some [some (.bool (decide (x ≤ y)))] := rfl
theorem p_eql8 (x y : Int) : semP (.bin .eql 0) [.int .u8 x, .int .u8 y] = some [some (.bool (x == y))] := rfl
theorem p_neq8 (x y : Int) : semP (.bin .neq 0) [.int .u8 x, .int .u8 y] = some [some (.bool (x != y))] := rfl
theorem AzO (s : List UInt8) (j : Nat) (c : UInt8) (h : s[j]? = some c) : semP .sidx [.str s, .int .i64 j] = some [some (.int .u8 c.toNat)] := by
  have : (0 : Int) ≤ (j : Int) := by omega
  simp [semP, sidxV, h, this]
attribute [simp] p_geq8 p_leq8 p_eql8 p_neq8
theorem letterA_run (c : UInt8) : AqC pur call n a141 [.int .u8 c.toNat] [] = some (.bool (AqU c), []) := by
  rw [k_fn _ _ rfl]; unfold AqU;cases h1 : decide ((97 : Int) ≤ (c.toNat : Int)) <;> cases h2 : decide ((c.toNat : Int) ≤ 122) <;> simp [a141, h1, h2] <;> rfl
theorem letterB_run (c : UInt8) : AqC pur call n a149 [.int .u8 c.toNat] [] = some (.bool (AqU c), []) := by
  rw [k_fn _ _ rfl]; unfold AqU;cases h1 : decide ((97 : Int) ≤ (c.toNat : Int)) <;> cases h2 : decide ((c.toNat : Int) ≤ 122) <;> simp [a149, h1, h2] <;> rfl
theorem digitA_run (c : UInt8) : AqC pur call n a117 [.int .u8 c.toNat] [] = some (.bool (AqK c), []) := by
  rw [k_fn _ _ rfl]; unfold AqK;cases h1 : decide ((48 : Int) ≤ (c.toNat : Int)) <;> cases h2 : decide ((c.toNat : Int) ≤ 57) <;> simp [a117, h1, h2] <;> rfl
theorem digitB_run (c : UInt8) : AqC pur call n a153 [.int .u8 c.toNat] [] = some (.bool (AqK c), []) := by
  rw [k_fn _ _ rfl]; unfold AqK;cases h1 : decide ((48 : Int) ≤ (c.toNat : Int)) <;> cases h2 : decide ((c.toNat : Int) ≤ 57) <;> simp [a153, h1, h2] <;> rfl
theorem wordB_run (h149 : ∀ c : UInt8, call 178 [.int .u8 c.toNat] [] = some (.bool (AqU c), [])) (h153 : ∀ c : UInt8, call 182 [.int .u8 c.toNat] [] = some (.bool (AqK c), [])) (c : UInt8) :
    AqC pur call n a152 [.int .u8 c.toNat] [] = some (.bool (wordB c), []) := by
  rw [k_fn _ _ rfl]; unfold wordB;cases h1 : AqU c <;> cases h2 : AqK c <;> simp [a152, h149, h153, h1, h2] <;> rfl
def spanB (p : UInt8 → Bool) (s : List UInt8) : Nat := (s.takeWhile p).length
end Go.Abs.Z

namespace Go.Abs.Z
open Go.Proofs Go.RowKit
variable {call : Caller} {n : Nat} {σ : Sto}
def l151_0 : ACode := (.seq (.seq (.region [⟨none, (some 7), (.p .mv), [(.slot 1)], [], []⟩, ⟨none, (some 8), (.p .mv), [(.slot 0)], [], []⟩, ⟨none, (some 9), (.p (.len true)), [(.slot 8)], [], []⟩, ⟨none, (some 10), (.p (.bin .lss 0)), [(.slot 7), (.slot 9)], [], []⟩, ⟨none, (some 11), (.p .mv), [(.slot 10)], [], []⟩, ⟨(some (11, true)), (some 12), (.p .mv), [(.slot 2)], [], []⟩, ⟨(some (11, true)), (some 13), (.p .mv), [(.slot 0)], [], []⟩, ⟨(some (11, true)), (some 14), (.p .mv), [(.slot 1)], [], []⟩, ⟨(some (11, true)), (some 15), (.p .sidx), [(.slot 13), (.slot 14)], [], []⟩, ⟨(some (11, true)), (some 16), (.w .calld), [(.slot 12), (.slot 15)], [], []⟩, ⟨none, (some 17), (.p .pick), [(.slot 11), (.slot 16), (.val (.bool false))], [], []⟩]) (.cond (.slot 17) .skip (.exit 0))) (.block 1 (.region [⟨none, (some 18), (.p .mv), [(.slot 1)], [], []⟩, ⟨none, (some 19), (.p (.bin .add 0)), [(.slot 18), (.val (.int .i64 1))], [], []⟩, ⟨none, (some 1), (.p .mv), [(.slot 19)], [], []⟩])))
def m151_0 : List Bool := [true, true, true, false, false, false, false, false, false, false, false, false, true, true, true, true, true, false, false, false, false]
noncomputable def callS (r : Option (PV × Sto)) : Option (List (Option PV) × Sto) := r.map fun (r, σ') => ([some r.Aq0], σ')
theorem k_calld (f : FuncId) (fs cs vs : List PV) : sem pur call (.w .calld) (.func f fs cs :: vs) σ = cond (vs.all PV.free) (cond (pur f) (cond (((fs ++ vs ++ cs).map PV.Aq0).all PV.flat) (callT σ (call f ((fs ++ vs ++ cs).map PV.Aq0) [])) none) (callS (call f ((fs ++ vs ++ cs).map PV.Aq0) σ))) none := by
  simp only [sem, semW];cases vs.all PV.free with
  | false => rfl
  | true =>
    cases pur f with
    | false => rfl
    | true =>
      simp only [if_true, cond_true];cases ((fs ++ vs ++ cs).map PV.Aq0).all PV.flat with
      | false => rfl
      | true =>
        simp only [if_true, cond_true];cases call f ((fs ++ vs ++ cs).map PV.Aq0) [] with
        | none => rfl
        | some r => obtain ⟨r, s⟩ := r; show (if r.flat = true then _ else _) = cond r.flat _ _; cases r.flat <;> rfl
theorem v_free_f (f : FuncId) (x y : List PV) : (PV.func f x y).free = true := rfl
theorem v_dis_f (f : FuncId) (x y : List PV) : (PV.func f x y).Aq0 = .func f x y := rfl
theorem v_flat_f (f : FuncId) : (PV.func f [] []).flat = true := rfl
theorem p_mvf (f : FuncId) (x y : List PV) : semP .mv [.func f x y] = some [some (.func f x y)] := rfl
theorem k_g0 (t : Nat) : getK [] t = none := rfl
attribute [simp] k_calld v_free_f v_dis_f v_flat_f p_mvf k_g0
theorem drop_take (p : UInt8 → Bool) (s : List UInt8) (j : Nat) (c : UInt8) (h : s[j]? = some c) : spanB p (s.drop j) = if p c then spanB p (s.drop (j + 1)) + 1 else 0 := by
  have hlt : j < s.length := (List.getElem?_eq_some_iff.1 h).1
  have hc : s[j] = c := (List.getElem?_eq_some_iff.1 h).2
  rw [List.drop_eq_getElem_cons hlt, hc];unfold spanB;rw [List.takeWhile_cons];cases p c <;> simp
theorem run_loop (f : FuncId) (p : UInt8 → Bool) (hpur : pur f = true) (hf : ∀ c : UInt8, call f [.int .u8 c.toNat] [] = some (.bool (p c), [])) (s : List UInt8) (hs : s.length < 4611686018427387904) (N : Nat) :
    ∀ (r j : Nat), j + r = s.length → ∀ m, r + 1 ≤ m → ∀ x12 x13 x14 x15 x16, ∃ ff, iterK m151_0 (arunK pur call N l151_0) m [(0, some (.str s)), (1, some (.int .i64 j)), (2, some (.func f [] [])), (12, x12), (13, x13), (14, x14), (15, x15), (16, x16)] [] =
      some (.exit 0, ff, []) ∧ getK ff 1 = some (.int .i64 ((j + spanB p (s.drop j) : Nat) : Int)) := by
  intro r
  induction r with
  | zero =>
    intro j hj m hm x12 x13 x14 x15 x16;obtain ⟨m, rfl⟩ : ∃ m', m = m' + 1 := ⟨m - 1, by omega⟩
    have hj' : ¬ ((j : Int) < (s.length : Int)) := by omega
    have hd : s.drop j = [] := List.drop_of_length_le (by omega)
    rw [AjN, hd];simp [l151_0, hj', spanB]
  | succ r ih =>
    intro j hj m hm x12 x13 x14 x15 x16;obtain ⟨m, rfl⟩ : ∃ m', m = m' + 1 := ⟨m - 1, by omega⟩
    have hlt : j < s.length := by omega
    have hj' : ((j : Int) < (s.length : Int)) := by omega
    have hw := AzF j (by omega)
    have hg : s[j]? = some s[j] := by simp [hlt]
    have hi := AzO s j _ hg;rw [AjN, drop_take p s j _ hg];cases hp : p s[j] with
    | false => simp [l151_0, hj', hi, hf, hp, hpur]
    | true =>
      obtain ⟨ff, h1, h2⟩ := ih (j + 1) (by omega) m (by omega) (some (.func f [] [])) (some (.str s)) (some (.int .i64 j)) (some (.int .u8 s[j].toNat)) (some (.bool true))
      refine ⟨ff, ?_, ?_⟩
      · rw [← h1, ← hw];simp [l151_0, m151_0, hj', hi, hf, hp, hpur]
      · rw [h2]
        simp; omega
theorem run_run (f : FuncId) (p : UInt8 → Bool) (hpur : pur f = true) (hf : ∀ c : UInt8, call f [.int .u8 c.toNat] [] = some (.bool (p c), [])) (s : List UInt8) (hs : s.length < 4611686018427387904) (hn : s.length + 1 ≤ n) :
    AqC pur call n a151 [.str s, .int .i64 0, .func f [] []] [] = some (.int .i64 (spanB p s : Nat), []) := by
  rw [k_fn _ _ rfl];obtain ⟨ff, h1, h2⟩ := run_loop (call := call) f p hpur hf s hs n s.length 0 (by omega) n hn none none none none none
  simp only [l151_0, m151_0] at h1;simp at h1 h2;simp [a151, h1, h2];rfl
end Go.Abs.Z

namespace Go.Abs.Z
open Go.Proofs Go.RowKit
theorem getK_mask (ff : FF) : ∀ (keep : List Bool) (i t : Nat), i ≤ t → getK (AqN ff keep i) t = cond ((keep[t - i]?).getD false) (getK ff t) none
  | [], i, t, _ => by simp [k_m0]
  | true :: ks, i, t, h => by
    rw [k_mt, k_get];by_cases hi : i = t
    · subst hi; simp
    · rw [if_neg hi, getK_mask ff ks (i + 1) t (by omega)]
      have : t - i = (t - (i + 1)) + 1 := by omega
      rw [this]; simp
  | false :: ks, i, t, h => by
    rw [k_mf];by_cases hi : i = t
    · subst hi;rw [getK_below ff ks (i + 1) i (by omega)]
      simp
    · rw [getK_mask ff ks (i + 1) t (by omega)]
      have : t - i = (t - (i + 1)) + 1 := by omega
      rw [this]; simp
  where
  getK_below (ff : FF) : ∀ (keep : List Bool) (i t : Nat), t < i → getK (AqN ff keep i) t = none
  | [], i, t, _ => rfl
  | true :: ks, i, t, h => by rw [k_mt, k_get, if_neg (by omega), getK_below ff ks (i + 1) t (by omega)]
  | false :: ks, i, t, h => by rw [k_mf, getK_below ff ks (i + 1) t (by omega)]
theorem AzD (ff : FF) (keep : List Bool) (t : Nat) : getK (AqN ff keep 0) t = cond ((keep[t]?).getD false) (getK ff t) none := by
  rw [getK_mask ff keep 0 t (by omega)]; rfl
theorem iter_inv {keep : List Bool} {body : FF → Sto → RX} {σ : Sto} (I : Nat → FF → Prop) (Q : RX → Prop) (len : Nat)
    (hstop : ∀ ff, I len ff → ∃ r, body ff σ = some r ∧ AxN r.1 = false ∧ Q (some r))
    (hstep : ∀ j, j < len → ∀ ff, I j ff → ∃ r, body ff σ = some r ∧ ((AxN r.1 = false ∧ Q (some r)) ∨ (AxN r.1 = true ∧ r.2.2 = σ ∧ I (j + 1) (AqN r.2.1 keep 0)))) :
    ∀ (r j : Nat), j + r = len → ∀ m, r + 1 ≤ m → ∀ ff, I j ff → Q (iterK keep body m ff σ) := by
  intro r
  induction r with
  | zero =>
    intro j hj m hm ff hI;obtain ⟨m, rfl⟩ : ∃ m', m = m' + 1 := ⟨m - 1, by omega⟩
    obtain rfl : j = len := by omega
    obtain ⟨r, h1, h2, h3⟩ := hstop ff hI;rw [AjN, h1];show Q (cond (AxN r.1) _ _);rw [h2]; exact h3
  | succ r ih =>
    intro j hj m hm ff hI;obtain ⟨m, rfl⟩ : ∃ m', m = m' + 1 := ⟨m - 1, by omega⟩
    obtain ⟨r', h1, h2⟩ := hstep j (by omega) ff hI
    rw [AjN, h1];show Q (cond (AxN r'.1) _ _);rcases h2 with ⟨h2, h3⟩ | ⟨h2, h3, h4⟩
    · rw [h2]; exact h3
    · rw [h2, h3]; exact ih (j + 1) (by omega) m (by omega) _ h4
end Go.Abs.Z

namespace Go.Abs.Z
open Go.Proofs Go.RowKit
variable {call : Caller} {n : Nat} {σ : Sto}
def l28_0 : ACode := (.seq (.seq (.region [⟨none, (some 6), (.p .mv), [(.slot 5)], [], []⟩, ⟨none, (some 7), (.p .mv), [(.slot 0)], [], []⟩, ⟨none, (some 8), (.p (.len false)), [(.slot 7)], [], []⟩, ⟨none, (some 9), (.p (.bin .lss 0)), [(.slot 6), (.slot 8)], [], []⟩]) (.cond (.slot 9) .skip (.exit 0))) (.seq (.block 1 (.seq (.region [⟨none, (some 12), (.p .mv), [(.slot 0)], [], []⟩, ⟨none, (some 13), (.p .mv), [(.slot 5)], [], []⟩, ⟨none, (some 14), (.p (.idx 1)), [(.slot 12), (.slot 13)], [], []⟩, ⟨none, (some 15), (.r (.ld 1 false)), [(.slot 14)], [], []⟩, ⟨none, (some 16), (.p .mv), [(.slot 1)], [], []⟩, ⟨none, (some 17), (.p (.bin .eql 0)), [(.slot 15), (.slot 16)], [], []⟩]) (.cond (.slot 17) (.seq (.region [⟨none, (some 4), (.p .mv), [(.val (.bool true))], [], []⟩]) .ret) .skip))) (.region [⟨none, (some 10), (.p .mv), [(.slot 5)], [], []⟩, ⟨none, (some 11), (.p (.bin .add 0)), [(.slot 10), (.val (.int .i64 1))], [], []⟩, ⟨none, (some 5), (.p .mv), [(.slot 11)], [], []⟩])))
def m28_0 : List Bool := [true, true, false, false, false, true, false, false, false, false, false, false, false, false, false, false, false, false]
theorem hasL_run (o : Bool) (ls : List (List UInt8)) (t : List UInt8) (hl : ls.length < 4611686018427387904) (hn : ls.length + 1 ≤ n) : AqC pur call n a28 [.slice o 1 (ls.map .str), .str t] [] = some (.bool (ls.contains t), []) := by
  rw [k_fn _ _ rfl]
  have h := iter_inv (keep := m28_0) (body := arunK pur call n l28_0) (σ := []) (fun j ff => (getK ff 0 = some (.slice o 1 (ls.map .str)) ∧ getK ff 1 = some (.str t) ∧ getK ff 5 = some (.int .i64 (j : Nat))) ∧ ∀ x ∈ ls.take j, x ≠ t)
    (fun r => ∃ ff, (ls.contains t = true ∧ r = some (.ret, ff, []) ∧ getK ff 4 = some (.bool true)) ∨ (ls.contains t = false ∧ r = some (.exit 0, ff, []))) ls.length
    (by
      rintro ff ⟨⟨h0, h1, h5⟩, hno⟩
      rw [List.take_length] at hno;refine ⟨_, by simp [l28_0, h0, h1, h5]; exact rfl, rfl, _, .inr ⟨?_, rfl⟩⟩
      cases hb : ls.contains t with
      | false => rfl
      | true => exact absurd rfl (hno t (by simpa using hb)))
    (by
      rintro j hj ff ⟨⟨h0, h1, h5⟩, hno⟩
      have hj' : ((j : Int) < (ls.length : Int)) := by omega
      have hw := AzF j (by omega)
      have hi : semP (.idx 1) [.slice false 1 (ls.map .str), .int .i64 (j : Int)] = some [some (.vptr (.str ls[j]))] := p_idx _ _ _ _ _ (by simp [hj])
      by_cases ht : ls[j] = t
      · refine ⟨_, by simp [l28_0, h0, h1, h5, hj', hi, ht]; exact rfl, .inl ⟨rfl, _, .inl ⟨?_, rfl, by simp⟩⟩⟩
        rw [List.contains_iff_mem];exact ht ▸ List.getElem_mem hj
      · have ht' : (ls[j] == t) = false := by simpa using ht
        refine ⟨_, by simp [l28_0, h0, h1, h5, hj', hi, ht']; exact rfl, .inr ⟨rfl, rfl, ⟨?_, ?_⟩⟩⟩
        · simp [-k_mt, -k_mf, -k_m0, AzD, m28_0, h0, h1, h5, hw]
        · intro x hx;rw [List.take_add_one, List.mem_append] at hx;rcases hx with hx | hx
          · exact hno x hx
          · simp [hj] at hx;exact hx ▸ ht)
    ls.length 0 (by omega) n hn
  obtain ⟨ff, h⟩ := h [(0, some (.slice o 1 (ls.map .str))), (1, some (.str t)), (5, some (.int .i64 (0 : Nat)))] (by simp)
  simp only [l28_0, m28_0] at h;rcases h with ⟨hc, h, h4⟩ | ⟨hc, h⟩
  · rw [hc];simp at h;simp [a28, h];rw [k_out1 4 _ h4 rfl]; rfl
  · rw [hc];simp at h;simp [a28, h];rfl
end Go.Abs.Z

namespace Go.Abs.Z
open Go.Proofs Go.RowKit
variable {call : Caller} {n : Nat} {σ : Sto}
def kwList : List (List UInt8) := [[114, 101, 99, 111, 114, 100], [112, 114, 111, 99], [118, 97, 114], [105, 102], [101, 108, 115, 101], [119, 104, 105, 108, 101], [102, 111, 114], [116, 111], [114, 101, 116, 117, 114, 110], [97, 115, 115, 101, 114, 116], [97, 110, 100], [111, 114], [110, 111, 116], [116, 114, 117, 101], [102, 97, 108, 115, 101], [105, 110, 116], [98, 111, 111, 108], [108, 101, 110]]
def AxA (s : List UInt8) : Bool := kwList.contains s
theorem v_cells_s (x : List UInt8) : (PV.str x).cells = [.str x] := rfl
theorem p_bslC (k : Nat) (vs : List PV) : semP (.bsl k) vs = cond (vs.all (fun v => v.cells.length == k && v.flat)) (some [some (.slice true k (vs.map PV.Aq0))]) none := by
  show (if _ then _ else _) = _
  cases vs.all (fun v => v.cells.length == k && v.flat) <;> rfl
attribute [simp] v_cells_s p_bslC
theorem keywordA_run (h28 : ∀ (ls : List (List UInt8)) (t : List UInt8), ls.length < 100 → call 89 [.slice false 1 (ls.map .str), .str t] [] = some (.bool (ls.contains t), [])) (t : List UInt8) :
    AqC pur call n a142 [.str t] [] = some (.bool (AxA t), []) := by
  rw [k_fn _ _ rfl];have h := h28 kwList t (by decide)
  unfold AxA;generalize kwList.contains t = b at h;simp only [kwList, List.map_cons, List.map_nil] at h;simp [a142, h]; rfl
def kwKeys : List Ky := [.s [114, 101, 99, 111, 114, 100], .s [112, 114, 111, 99], .s [118, 97, 114], .s [105, 102], .s [101, 108, 115, 101], .s [119, 104, 105, 108, 101], .s [102, 111, 114], .s [116, 111], .s [114, 101, 116, 117, 114, 110], .s [97, 115, 115, 101, 114, 116], .s [97, 110, 100], .s [111, 114], .s [110, 111, 116], .s [116, 114, 117, 101], .s [102, 97, 108, 115, 101], .s [105, 110, 116], .s [98, 111, 111, 108], .s [108, 101, 110]]
def kwVals : List PV := [.bool true, .bool true, .bool true, .bool true, .bool true, .bool true, .bool true, .bool true, .bool true, .bool true, .bool true, .bool true, .bool true, .bool true, .bool true, .bool true, .bool true, .bool true]
theorem keywords_run : AqC pur call n a164 [] [] = some (.mapv kwKeys kwVals, []) := by kernel_rfl
theorem look_kw (t : List UInt8) : semP (.look (.bool false) false false) [.mapv kwKeys kwVals, .str t] = some [some (.bool (AxA t))] := by
  by_cases h0 : t = [114, 101, 99, 111, 114, 100]
  · subst h0; rfl
  by_cases h1 : t = [112, 114, 111, 99]
  · subst h1; rfl
  by_cases h2 : t = [118, 97, 114]
  · subst h2; rfl
  by_cases h3 : t = [105, 102]
  · subst h3; rfl
  by_cases h4 : t = [101, 108, 115, 101]
  · subst h4; rfl
  by_cases h5 : t = [119, 104, 105, 108, 101]
  · subst h5; rfl
  by_cases h6 : t = [102, 111, 114]
  · subst h6; rfl
  by_cases h7 : t = [116, 111]
  · subst h7; rfl
  by_cases h8 : t = [114, 101, 116, 117, 114, 110]
  · subst h8; rfl
  by_cases h9 : t = [97, 115, 115, 101, 114, 116]
  · subst h9; rfl
  by_cases h10 : t = [97, 110, 100]
  · subst h10; rfl
  by_cases h11 : t = [111, 114]
  · subst h11; rfl
  by_cases h12 : t = [110, 111, 116]
  · subst h12; rfl
  by_cases h13 : t = [116, 114, 117, 101]
  · subst h13; rfl
  by_cases h14 : t = [102, 97, 108, 115, 101]
  · subst h14; rfl
  by_cases h15 : t = [105, 110, 116]
  · subst h15; rfl
  by_cases h16 : t = [98, 111, 111, 108]
  · subst h16; rfl
  by_cases h17 : t = [108, 101, 110]
  · subst h17; rfl
  have ho : AxA t = false := by simp [AxA, kwList, h0, h1, h2, h3, h4, h5, h6, h7, h8, h9, h10, h11, h12, h13, h14, h15, h16, h17]
  have hf : findKey (.s t) kwKeys kwVals = none := by simp only [kwKeys, kwVals, findKey, Ky.s.injEq, Ne.symm h0, Ne.symm h1, Ne.symm h2, Ne.symm h3, Ne.symm h4, Ne.symm h5, Ne.symm h6, Ne.symm h7, Ne.symm h8, Ne.symm h9, Ne.symm h10, Ne.symm h11, Ne.symm h12, Ne.symm h13, Ne.symm h14, Ne.symm h15, Ne.symm h16, Ne.symm h17, if_false]
  simp only [semP, lookV, kyOf];rw [hf, ho]; rfl
theorem keywordB_run (h164 : call 193 [] [] = some (.mapv kwKeys kwVals, [])) (t : List UInt8) : AqC pur call n a150 [.str t] [] = some (.bool (AxA t), []) := by
  rw [k_fn _ _ rfl];simp [a150, h164, look_kw]; rfl
theorem span_lt (p : UInt8 → Bool) : ∀ (s : List UInt8) (j : Nat), j < spanB p s → ∃ c, s[j]? = some c ∧ p c = true
  | [], j, h => by simp [spanB] at h
  | c :: s, j, h => by
    unfold spanB at h;rw [List.takeWhile_cons] at h;cases hp : p c with
    | false => simp [hp] at h
    | true =>
      simp [hp] at h
      match j with
      | 0 => exact ⟨c, rfl, hp⟩
      | j + 1 => exact span_lt p s j (by unfold spanB; omega)
theorem span_le (p : UInt8 → Bool) : ∀ (s : List UInt8), spanB p s ≤ s.length
  | [] => by simp [spanB]
  | c :: s => by
    unfold spanB;rw [List.takeWhile_cons];have := span_le p s;unfold spanB at this;cases p c <;> simp <;> omega
theorem span_end (p : UInt8 → Bool) : ∀ (s : List UInt8), spanB p s = s.length ∨ ∃ c, s[spanB p s]? = some c ∧ p c = false
  | [] => by simp [spanB]
  | c :: s => by
    cases hp : p c with
    | false => right; exact ⟨c, by simp [spanB, hp], hp⟩
    | true =>
      have e : spanB p (c :: s) = spanB p s + 1 := by simp [spanB, hp]
      rw [e];rcases span_end p s with h | ⟨d, h1, h2⟩
      · left; simp [h]
      · right; exact ⟨d, by simpa using h1, h2⟩
theorem drop_get (s : List UInt8) (a j : Nat) : (s.drop a)[j]? = s[a + j]? := by simp
end Go.Abs.Z

namespace Go.Abs.Z
open Go.Proofs Go.RowKit
variable {call : Caller} {n : Nat} {σ : Sto}
theorem p_ssl (s : List UInt8) (l h : Int) (h0 : 0 ≤ l) (h1 : l ≤ h) (h2 : h ≤ s.length) : semP (.ssl true true) [.str s, .int .i64 l, .int .i64 h] = some [some (.str ((s.drop l.toNat).take (h.toNat - l.toNat)))] := by
  simp [semP, cutB, h0, h1, h2]
theorem wrap_in (x : Int) (h : 0 ≤ x) (h' : x < 9223372036854775808) : IntKind.i64.wrap x = x := by
  simp [IntKind.wrap, IntKind.bits, IntKind.signed]; omega
def AjP (c : UInt8) : Bool := ((c.toNat : Int) == 9) || ((c.toNat : Int) == 10) || ((c.toNat : Int) == 13) || ((c.toNat : Int) == 32)
theorem blank_run (c : UInt8) : AqC pur call n a143 [.int .u8 c.toNat] [] = some (.bool (AjP c), []) := by
  rw [k_fn _ _ rfl]; unfold AjP;generalize (c.toNat : Int) = x;by_cases h1 : x = 9
  · simp [a143, h1]; rfl
  · by_cases h2 : x = 10
    · simp [a143, h2]; rfl
    · by_cases h3 : x = 13
      · simp [a143, h3]; rfl
      · simp [a143, h1, h2, h3]; rfl
def sym2 : List (List UInt8) := [[61, 61], [33, 61], [60, 61], [62, 61]]
def sym1 : List (List UInt8) := [[60], [62], [61], [43], [45], [42], [47], [37], [40], [41], [123], [125], [91], [93], [44], [59], [58], [46]]
def symB (s : List UInt8) (at' : Nat) : Nat := if at' + 2 ≤ s.length ∧ sym2.contains ((s.drop at').take 2) = true then 2 else if sym1.contains ((s.drop at').take 1) = true then 1 else 0
theorem sym_run (h28 : ∀ (ls : List (List UInt8)) (t : List UInt8), ls.length < 100 → call 89 [.slice false 1 (ls.map .str), .str t] [] = some (.bool (ls.contains t), [])) (s : List UInt8) (i : Nat) (hi : i < s.length) (hs : s.length < 4611686018427387904) :
    AqC pur call n a144 [.str s, .int .i64 i] [] = some (.int .i64 (symB s i), []) := by
  rw [k_fn _ _ rfl];have hw2 : IntKind.i64.wrap ((i : Int) + 2) = (i : Int) + 2 := wrap_in _ (by omega) (by omega)
  have hw1 : IntKind.i64.wrap ((i : Int) + 1) = (i : Int) + 1 := wrap_in _ (by omega) (by omega)
  have c1 : semP (.ssl true true) [.str s, .int .i64 i, .int .i64 ((i : Int) + 1)] = some [some (.str ((s.drop i).take 1))] := by
    rw [p_ssl s _ _ (by omega) (by omega) (by omega)]
    have : ((i : Int) + 1).toNat - (i : Int).toNat = 1 := by omega
    rw [this]; simp
  have g1 := h28 sym1 ((s.drop i).take 1) (by decide)
  have g2 := h28 sym2 ((s.drop i).take 2) (by decide)
  unfold symB;generalize hb1 : sym1.contains ((s.drop i).take 1) = b1 at g1;generalize hb2 : sym2.contains ((s.drop i).take 2) = b2 at g2;simp only [sym1, List.map_cons, List.map_nil] at g1;simp only [sym2, List.map_cons, List.map_nil] at g2;by_cases h2 : i + 2 ≤ s.length
  · have h2' : (i : Int) + 2 ≤ (s.length : Int) := by omega
    have c2 : semP (.ssl true true) [.str s, .int .i64 i, .int .i64 ((i : Int) + 2)] = some [some (.str ((s.drop i).take 2))] := by
      rw [p_ssl s _ _ (by omega) (by omega) (by omega)]
      have : ((i : Int) + 2).toNat - (i : Int).toNat = 2 := by omega
      rw [this]; simp
    cases b2 with
    | true => simp [a144, hw2, h2, h2', c2, g2]; rfl
    | false =>
      cases b1 with
      | true => simp [a144, hw2, hw1, h2, h2', c2, g2, c1, g1]; rfl
      | false => simp [a144, hw2, hw1, h2, h2', c2, g2, c1, g1]; rfl
  · have h2' : ¬ ((i : Int) + 2 ≤ (s.length : Int)) := by omega
    cases b1 with
    | true => simp [a144, hw2, hw1, h2, h2', c1, g1]; rfl
    | false => simp [a144, hw2, hw1, h2, h2', c1, g1]; rfl
def beginsB (s : List UInt8) (i : Nat) : Bool := AqU (s.getD i 0) || AqK (s.getD i 0) || decide (0 < symB s i)
structure LexCalls (call : Caller) : Prop where
  h141 : ∀ c : UInt8, call 146 [.int .u8 c.toNat] [] = some (.bool (AqU c), [])
  h117 : ∀ c : UInt8, call 149 [.int .u8 c.toNat] [] = some (.bool (AqK c), [])
  h143 : ∀ c : UInt8, call 170 [.int .u8 c.toNat] [] = some (.bool (AjP c), [])
  h144 : ∀ (s : List UInt8) (i : Nat), i < s.length → s.length < 4611686018427387904 → call 171 [.str s, .int .i64 i] [] = some (.int .i64 (symB s i), [])
theorem begins_run (hc : LexCalls call) (s : List UInt8) (i : Nat) (hi : i < s.length) (hs : s.length < 4611686018427387904) : AqC pur call n a145 [.str s, .int .i64 i] [] = some (.bool (beginsB s i), []) := by
  rw [k_fn _ _ rfl];have hg : s[i]? = some s[i] := by simp [hi]
  have hx := AzO s i _ hg;have h1 := hc.h141 s[i];have h2 := hc.h117 s[i];have h3 := hc.h144 s i hi hs;have hd : s.getD i 0 = s[i] := by simp [List.getD, hg]
  unfold beginsB;rw [hd];cases b1 : AqU s[i] with
  | true => simp [a145, hx, h1, b1]; rfl
  | false =>
    cases b2 : AqK s[i] with
    | true => simp [a145, hx, h1, b1, h2, b2]; rfl
    | false => simp [a145, hx, h1, b1, h2, b2, h3]; rfl
end Go.Abs.Z

namespace Go.Abs.Z
open Go.Proofs Go.RowKit
variable {call : Caller} {n : Nat} {σ : Sto}
def l112_0 : ACode := (.seq (.seq (.region [⟨none, (some 13), (.p .mv), [(.slot 6)], [], []⟩, ⟨none, (some 14), (.p .mv), [(.slot 0)], [], []⟩, ⟨none, (some 15), (.p (.len true)), [(.slot 14)], [], []⟩, ⟨none, (some 16), (.p (.bin .lss 0)), [(.slot 13), (.slot 15)], [], []⟩, ⟨none, (some 17), (.p .mv), [(.slot 16)], [], []⟩, ⟨(some (17, true)), (some 18), (.p .mv), [(.slot 0)], [], []⟩, ⟨(some (17, true)), (some 19), (.p .mv), [(.slot 6)], [], []⟩, ⟨(some (17, true)), (some 20), (.p .sidx), [(.slot 18), (.slot 19)], [], []⟩, ⟨(some (17, true)), (some 21), (.c 146), [(.slot 20)], [], []⟩, ⟨(some (17, true)), (some 22), (.p .mv), [(.slot 21)], [], []⟩, ⟨(some (22, false)), (some 23), (.p .mv), [(.slot 0)], [], []⟩, ⟨(some (22, false)), (some 24), (.p .mv), [(.slot 6)], [], []⟩, ⟨(some (22, false)), (some 25), (.p .sidx), [(.slot 23), (.slot 24)], [], []⟩, ⟨(some (22, false)), (some 26), (.c 149), [(.slot 25)], [], []⟩, ⟨(some (17, true)), (some 27), (.p .pick), [(.slot 22), (.val (.bool true)), (.slot 26)], [], []⟩, ⟨(some (17, true)), (some 28), (.p .mv), [(.slot 27)], [], []⟩, ⟨(some (28, false)), (some 29), (.p .mv), [(.slot 0)], [], []⟩, ⟨(some (28, false)), (some 30), (.p .mv), [(.slot 6)], [], []⟩, ⟨(some (28, false)), (some 31), (.p .sidx), [(.slot 29), (.slot 30)], [], []⟩, ⟨(some (28, false)), (some 32), (.p (.bin .eql 0)), [(.slot 31), (.val (.int .u8 95))], [], []⟩, ⟨(some (17, true)), (some 33), (.p .pick), [(.slot 28), (.val (.bool true)), (.slot 32)], [], []⟩, ⟨none, (some 34), (.p .pick), [(.slot 17), (.slot 33), (.val (.bool false))], [], []⟩]) (.cond (.slot 34) .skip (.exit 1))) (.block 2 (.region [⟨none, (some 35), (.p .mv), [(.slot 6)], [], []⟩, ⟨none, (some 36), (.p (.bin .add 0)), [(.slot 35), (.val (.int .i64 1))], [], []⟩, ⟨none, (some 6), (.p .mv), [(.slot 36)], [], []⟩])))
def m112_0 : List Bool := [true, true, false, false, false, false, true, false, false, false, false, false, false, false, false, false, false, false, true, true, true, true, true, true, true, true, true, true, true, true, true, true, true, true, false, false, false, false, false, false, false, false, false, false, false, false, false, false, false, false, false, false, false, false, true, true, true, true, false, false, false, false, false, false, false, false, false, false, false, false, false, false, false, false, false, false, false, true, true, true, true, true, false, false, true, true, true, true, false, false, true, true, true, true, false, false, false, false]
def l112_1 : ACode := (.seq (.seq (.region [⟨none, (some 49), (.p .mv), [(.slot 6)], [], []⟩, ⟨none, (some 50), (.p .mv), [(.slot 0)], [], []⟩, ⟨none, (some 51), (.p (.len true)), [(.slot 50)], [], []⟩, ⟨none, (some 52), (.p (.bin .lss 0)), [(.slot 49), (.slot 51)], [], []⟩, ⟨none, (some 53), (.p .mv), [(.slot 52)], [], []⟩, ⟨(some (53, true)), (some 54), (.p .mv), [(.slot 0)], [], []⟩, ⟨(some (53, true)), (some 55), (.p .mv), [(.slot 6)], [], []⟩, ⟨(some (53, true)), (some 56), (.p .sidx), [(.slot 54), (.slot 55)], [], []⟩, ⟨(some (53, true)), (some 57), (.c 149), [(.slot 56)], [], []⟩, ⟨none, (some 58), (.p .pick), [(.slot 53), (.slot 57), (.val (.bool false))], [], []⟩]) (.cond (.slot 58) .skip (.exit 3))) (.block 4 (.region [⟨none, (some 59), (.p .mv), [(.slot 6)], [], []⟩, ⟨none, (some 60), (.p (.bin .add 0)), [(.slot 59), (.val (.int .i64 1))], [], []⟩, ⟨none, (some 6), (.p .mv), [(.slot 60)], [], []⟩])))
def m112_1 : List Bool := [true, true, false, false, false, false, true, false, false, false, false, false, false, false, false, false, false, false, true, true, true, true, true, true, true, true, true, true, true, true, true, true, true, true, false, false, false, false, false, false, false, false, false, false, false, false, false, false, false, false, false, false, false, false, true, true, true, true, false, false, false, false, false, false, false, false, false, false, false, false, false, false, false, false, false, false, false, true, true, true, true, true, false, false, true, true, true, true, false, false, true, true, true, true, false, false, false, false]
def l112_2 : ACode := (.seq (.seq (.region [⟨none, (some 72), (.p .mv), [(.slot 6)], [], []⟩, ⟨none, (some 73), (.p .mv), [(.slot 0)], [], []⟩, ⟨none, (some 74), (.p (.len true)), [(.slot 73)], [], []⟩, ⟨none, (some 75), (.p (.bin .lss 0)), [(.slot 72), (.slot 74)], [], []⟩, ⟨none, (some 76), (.p .mv), [(.slot 75)], [], []⟩, ⟨(some (76, true)), (some 77), (.p .mv), [(.slot 0)], [], []⟩, ⟨(some (76, true)), (some 78), (.p .mv), [(.slot 6)], [], []⟩, ⟨(some (76, true)), (some 79), (.p .sidx), [(.slot 77), (.slot 78)], [], []⟩, ⟨(some (76, true)), (some 80), (.c 170), [(.slot 79)], [], []⟩, ⟨(some (76, true)), (some 81), (.p .not), [(.slot 80)], [], []⟩, ⟨none, (some 82), (.p .pick), [(.slot 76), (.slot 81), (.val (.bool false))], [], []⟩, ⟨none, (some 83), (.p .mv), [(.slot 82)], [], []⟩, ⟨(some (83, true)), (some 84), (.p .mv), [(.slot 0)], [], []⟩, ⟨(some (83, true)), (some 85), (.p .mv), [(.slot 6)], [], []⟩, ⟨(some (83, true)), (some 86), (.p .sidx), [(.slot 84), (.slot 85)], [], []⟩, ⟨(some (83, true)), (some 87), (.p (.bin .neq 0)), [(.slot 86), (.val (.int .u8 35))], [], []⟩, ⟨none, (some 88), (.p .pick), [(.slot 83), (.slot 87), (.val (.bool false))], [], []⟩, ⟨none, (some 89), (.p .mv), [(.slot 88)], [], []⟩, ⟨(some (89, true)), (some 90), (.p .mv), [(.slot 0)], [], []⟩, ⟨(some (89, true)), (some 91), (.p .mv), [(.slot 6)], [], []⟩, ⟨(some (89, true)), (some 92), (.c 172), [(.slot 90), (.slot 91)], [], []⟩, ⟨(some (89, true)), (some 93), (.p .not), [(.slot 92)], [], []⟩, ⟨none, (some 94), (.p .pick), [(.slot 89), (.slot 93), (.val (.bool false))], [], []⟩]) (.cond (.slot 94) .skip (.exit 5))) (.block 6 (.region [⟨none, (some 95), (.p .mv), [(.slot 6)], [], []⟩, ⟨none, (some 96), (.p (.bin .add 0)), [(.slot 95), (.val (.int .i64 1))], [], []⟩, ⟨none, (some 6), (.p .mv), [(.slot 96)], [], []⟩])))
def m112_2 : List Bool := [true, true, false, false, false, false, true, false, false, false, false, false, false, false, false, false, false, false, true, true, true, true, true, true, true, true, true, true, true, true, true, true, true, true, false, false, false, false, false, false, false, false, false, false, false, false, false, false, false, false, false, false, false, false, true, true, true, true, false, false, false, false, false, false, false, false, false, false, false, false, false, false, false, false, false, false, false, true, true, true, true, true, false, false, true, true, true, true, false, false, true, true, true, true, false, false, false, false]
def wrongB (s : List UInt8) (i : Nat) : Bool := !AjP (s.getD i 0) && ((s.getD i 0).toNat : Int) != 35 && !beginsB s i
def runI (p : Nat → Bool) (len : Nat) : Nat → Nat → Nat
  | 0, _ => 0
  | f + 1, i => if i < len ∧ p i = true then runI p len f (i + 1) + 1 else 0
theorem runI_lt (p : Nat → Bool) (len : Nat) : ∀ (f i j : Nat), j < runI p len f i → i + j < len ∧ p (i + j) = true
  | 0, i, j, h => by simp [runI] at h
  | f + 1, i, j, h => by
    unfold runI at h
    split at h
    · rename_i hi
      match j with
      | 0 => exact hi
      | j + 1 =>
        have := runI_lt p len f (i + 1) j (by omega)
        have e : i + 1 + j = i + (j + 1) := by omega
        rwa [e] at this
    · omega
theorem runI_end (p : Nat → Bool) (len : Nat) : ∀ (f i : Nat), len ≤ i + f → len ≤ i + runI p len f i ∨ p (i + runI p len f i) = false
  | 0, i, h => .inl (by simp [runI]; omega)
  | f + 1, i, h => by
    unfold runI;split
    · rcases runI_end p len f (i + 1) (by omega) with h' | h'
      · left; omega
      · right;have e : i + (runI p len f (i + 1) + 1) = i + 1 + runI p len f (i + 1) := by omega
        rw [e]; exact h'
    · rename_i hi;rcases Nat.lt_or_ge i len with h1 | h1
      · right;simp only [Nat.add_zero]
        cases hp : p i with
        | false => rfl
        | true => exact absurd ⟨h1, hp⟩ hi
      · left; omega
theorem runI_le (p : Nat → Bool) (len : Nat) : ∀ (f i : Nat), i ≤ len → i + runI p len f i ≤ len
  | 0, i, h => by simp [runI]; exact h
  | f + 1, i, h => by
    unfold runI;split
    · rename_i hi;have := runI_le p len f (i + 1) (by omega)
      omega
    · omega
def Aj3 (s : List UInt8) (i : Nat) : Int × Nat :=
  let c := s.getD i 0
  if AqU c then (if AxA ((s.drop i).take (spanB wordB (s.drop i))) then 1 else 0, i + spanB wordB (s.drop i))
  else if AqK c then (2, i + spanB AqK (s.drop i))
  else if 0 < symB s i then (3, i + symB s i)
  else (4, i + runI (wrongB s) s.length (s.length - i) i)
def tokI (s : List UInt8) (i k : Nat) (ff : FF) : Prop := getK ff 0 = some (.str s) ∧ getK ff 1 = some (.int .i64 i) ∧ getK ff 6 = some (.int .i64 k)
theorem tok_word (hc : LexCalls call) (s : List UInt8) (i : Nat) (hi : i < s.length) (hs : s.length < 4611686018427387904) (N m : Nat) (hm : s.length + 1 ≤ m) (ff : FF) (hI : tokI s i i ff) :
    ∃ ff', iterK m112_0 (arunK pur call N l112_0) m ff [] = some (.exit 1, ff', []) ∧ tokI s i (i + spanB wordB (s.drop i)) ff' := by
  have hle := span_le wordB (s.drop i);rw [List.length_drop] at hle
  exact iter_inv (keep := m112_0) (body := arunK pur call N l112_0) (σ := []) (fun j ff => tokI s i (i + j) ff) (fun r => ∃ ff', r = some (.exit 1, ff', []) ∧ tokI s i (i + spanB wordB (s.drop i)) ff') (spanB wordB (s.drop i))
    (by
      rintro ff ⟨h0, h1, h6⟩
      rcases span_end wordB (s.drop i) with he | ⟨c, hg, hp⟩
      · have hj' : ¬ (((i + spanB wordB (s.drop i) : Nat) : Int) < (s.length : Int)) := by rw [List.length_drop] at he; omega
        exact ⟨_, by simp [l112_0, h0, h6, hj', -Int.natCast_add]; exact rfl, rfl, _, rfl, by simp [tokI, h0, h1, h6]⟩
      · rw [drop_get] at hg;have hlt := (List.getElem?_eq_some_iff.1 hg).1
        have hj' : (((i + spanB wordB (s.drop i) : Nat) : Int) < (s.length : Int)) := by omega
        have hx := AzO s _ _ hg;have q1 := hc.h141 c;have q2 := hc.h117 c;unfold wordB at hp;simp only [Bool.or_eq_false_iff] at hp;obtain ⟨⟨b1, b2⟩, b3⟩ := hp;exact ⟨_, by simp [l112_0, h0, h6, hj', hx, q1, q2, b1, b2, b3, -Int.natCast_add, -beqI]; exact rfl, rfl, _, rfl, by simp [tokI, h0, h1, h6]⟩)
    (by
      rintro j hj ff ⟨h0, h1, h6⟩
      obtain ⟨c, hg, hp⟩ := span_lt wordB (s.drop i) j hj;rw [drop_get] at hg;have hlt := (List.getElem?_eq_some_iff.1 hg).1
      have hj' : (((i + j : Nat) : Int) < (s.length : Int)) := by omega
      have hx := AzO s _ _ hg;have hw := AzF (i + j) (by omega)
      have q1 := hc.h141 c;have q2 := hc.h117 c;unfold wordB at hp;cases b1 : AqU c with
      | true =>
        exact ⟨_, by simp [l112_0, h0, h6, hj', hx, q1, b1, -Int.natCast_add]; exact rfl, .inr ⟨rfl, rfl, by simp [tokI, -k_mt, -k_mf, -k_m0, AzD, m112_0, h0, h1, hw, -Int.natCast_add, Nat.add_assoc]⟩⟩
      | false =>
        cases b2 : AqK c with
        | true => exact ⟨_, by simp [l112_0, h0, h6, hj', hx, q1, b1, q2, b2, -Int.natCast_add]; exact rfl, .inr ⟨rfl, rfl, by simp [tokI, -k_mt, -k_mf, -k_m0, AzD, m112_0, h0, h1, hw, -Int.natCast_add, Nat.add_assoc]⟩⟩
        | false =>
          rw [b1, b2] at hp;simp only [Bool.or_self, Bool.false_or] at hp;exact ⟨_, by simp [l112_0, h0, h6, hj', hx, q1, b1, q2, b2, hp, -Int.natCast_add, -beqI]; exact rfl, .inr ⟨rfl, rfl, by simp [tokI, -k_mt, -k_mf, -k_m0, AzD, m112_0, h0, h1, hw, -Int.natCast_add, Nat.add_assoc]⟩⟩)
    (spanB wordB (s.drop i)) 0 (by omega) m (by omega) ff hI
theorem tok_digit (hc : LexCalls call) (s : List UInt8) (i : Nat) (hi : i < s.length) (hs : s.length < 4611686018427387904) (N m : Nat) (hm : s.length + 1 ≤ m) (ff : FF) (hI : tokI s i i ff) :
    ∃ ff', iterK m112_1 (arunK pur call N l112_1) m ff [] = some (.exit 3, ff', []) ∧ tokI s i (i + spanB AqK (s.drop i)) ff' := by
  have hle := span_le AqK (s.drop i);rw [List.length_drop] at hle
  exact iter_inv (keep := m112_1) (body := arunK pur call N l112_1) (σ := []) (fun j ff => tokI s i (i + j) ff) (fun r => ∃ ff', r = some (.exit 3, ff', []) ∧ tokI s i (i + spanB AqK (s.drop i)) ff') (spanB AqK (s.drop i))
    (by
      rintro ff ⟨h0, h1, h6⟩
      rcases span_end AqK (s.drop i) with he | ⟨c, hg, hp⟩
      · have hj' : ¬ (((i + spanB AqK (s.drop i) : Nat) : Int) < (s.length : Int)) := by rw [List.length_drop] at he; omega
        exact ⟨_, by simp [l112_1, h0, h6, hj', -Int.natCast_add]; exact rfl, rfl, _, rfl, by simp [tokI, h0, h1, h6]⟩
      · rw [drop_get] at hg;have hlt := (List.getElem?_eq_some_iff.1 hg).1
        have hj' : (((i + spanB AqK (s.drop i) : Nat) : Int) < (s.length : Int)) := by omega
        have hx := AzO s _ _ hg;have q2 := hc.h117 c;exact ⟨_, by simp [l112_1, h0, h6, hj', hx, q2, hp, -Int.natCast_add]; exact rfl, rfl, _, rfl, by simp [tokI, h0, h1, h6]⟩)
    (by
      rintro j hj ff ⟨h0, h1, h6⟩
      obtain ⟨c, hg, hp⟩ := span_lt AqK (s.drop i) j hj;rw [drop_get] at hg;have hlt := (List.getElem?_eq_some_iff.1 hg).1
      have hj' : (((i + j : Nat) : Int) < (s.length : Int)) := by omega
      have hx := AzO s _ _ hg;have hw := AzF (i + j) (by omega)
      have q2 := hc.h117 c;exact ⟨_, by simp [l112_1, h0, h6, hj', hx, q2, hp, -Int.natCast_add]; exact rfl, .inr ⟨rfl, rfl, by simp [tokI, -k_mt, -k_mf, -k_m0, AzD, m112_1, h0, h1, hw, -Int.natCast_add, Nat.add_assoc]⟩⟩)
    (spanB AqK (s.drop i)) 0 (by omega) m (by omega) ff hI
theorem tok_wrong (hc : LexCalls call) (h145 : ∀ (s : List UInt8) (i : Nat), i < s.length → s.length < 4611686018427387904 → call 172 [.str s, .int .i64 i] [] = some (.bool (beginsB s i), [])) (s : List UInt8) (i : Nat) (hi : i < s.length) (hs : s.length < 4611686018427387904) (N m : Nat) (hm : s.length + 1 ≤ m) (ff : FF) (hI : tokI s i i ff) :
    ∃ ff', iterK m112_2 (arunK pur call N l112_2) m ff [] = some (.exit 5, ff', []) ∧ tokI s i (i + runI (wrongB s) s.length (s.length - i) i) ff' := by
  have hle := runI_le (wrongB s) s.length (s.length - i) i (by omega)
  exact iter_inv (keep := m112_2) (body := arunK pur call N l112_2) (σ := []) (fun j ff => tokI s i (i + j) ff) (fun r => ∃ ff', r = some (.exit 5, ff', []) ∧ tokI s i (i + runI (wrongB s) s.length (s.length - i) i) ff') (runI (wrongB s) s.length (s.length - i) i)
    (by
      rintro ff ⟨h0, h1, h6⟩
      have hend := runI_end (wrongB s) s.length (s.length - i) i (by omega)
      generalize i + runI (wrongB s) s.length (s.length - i) i = k at *;by_cases hk : k < s.length
      · have hj' : ((k : Int) < (s.length : Int)) := by omega
        have hg : s[k]? = some s[k] := by simp [hk]
        have hx := AzO s _ _ hg;have q1 := hc.h143 s[k];have q2 := h145 s k hk hs;rcases hend with he | hp
        · omega
        unfold wrongB at hp;have hd : s.getD k 0 = s[k] := by simp [List.getD, hg]
        rw [hd] at hp;cases b1 : AjP s[k] with
        | true => exact ⟨_, by simp [l112_2, h0, h6, hj', hx, q1, b1]; exact rfl, rfl, _, rfl, by simp [tokI, h0, h1, h6]⟩
        | false =>
          by_cases b2 : ((s[k].toNat : Int)) = 35
          · rw [b2] at q1 hx;exact ⟨_, by simp [l112_2, h0, h6, hj', hx, q1, b1]; exact rfl, rfl, _, rfl, by simp [tokI, h0, h1, h6]⟩
          · have b3 : beginsB s k = true := by simpa [b1, b2] using hp
            exact ⟨_, by simp [l112_2, h0, h6, hj', hx, q1, b1, b2, q2, b3]; exact rfl, rfl, _, rfl, by simp [tokI, h0, h1, h6]⟩
      · have hj' : ¬ ((k : Int) < (s.length : Int)) := by omega
        exact ⟨_, by simp [l112_2, h0, h6, hj']; exact rfl, rfl, _, rfl, by simp [tokI, h0, h1, h6]⟩)
    (by
      rintro j hj ff ⟨h0, h1, h6⟩
      obtain ⟨hk, hp⟩ := runI_lt (wrongB s) s.length (s.length - i) i j hj;have hw := AzF (i + j) (by omega)
      have e : i + (j + 1) = i + j + 1 := by omega
      rw [e];generalize i + j = k at *;have hj' : ((k : Int) < (s.length : Int)) := by omega
      have hg : s[k]? = some s[k] := by simp [hk]
      have hx := AzO s _ _ hg;have q1 := hc.h143 s[k];have q2 := h145 s k hk hs;unfold wrongB at hp;have hd : s.getD k 0 = s[k] := by simp [List.getD, hg]
      rw [hd] at hp;simp only [Bool.and_eq_true, Bool.not_eq_true', bneI, decide_eq_false_iff_not] at hp;obtain ⟨⟨b1, b2⟩, b3⟩ := hp;exact ⟨_, by simp [l112_2, h0, h6, hj', hx, q1, b1, b2, q2, b3]; exact rfl, .inr ⟨rfl, rfl, by simp [tokI, -k_mt, -k_mf, -k_m0, AzD, m112_2, h0, h1, hw, -Int.natCast_add]⟩⟩)
    (runI (wrongB s) s.length (s.length - i) i) 0 (by omega) m (by omega) ff hI
theorem pickF {P : FF → Prop} {Q : FF → FF → Prop} (h : ∀ ff, P ff → ∃ ff', Q ff ff') : ∃ G : FF → FF, ∀ ff, P ff → Q ff (G ff) := by
  have h' : ∀ ff, ∃ ff', P ff → Q ff ff' := fun ff => by
    by_cases hp : P ff
    · obtain ⟨ff', hq⟩ := h ff hp; exact ⟨ff', fun _ => hq⟩
    · exact ⟨ff, fun hp' => absurd hp' hp⟩
  exact ⟨fun ff => Classical.choose (h' ff), fun ff hp => Classical.choose_spec (h' ff) hp⟩
theorem loop_eq {N : Nat} {s : List UInt8} {i k : Nat} {keep : List Bool} {body : ACode} {e : AExit} {G : FF → FF} (hG : ∀ ff, tokI s i i ff → iterK keep (arunK pur call N body) N ff [] = some (e, G ff, []) ∧ tokI s i k (G ff))
    (k0 : keep[0]? = some true) (k1 : keep[1]? = some true) (k6 : keep[6]? = some true) : (∀ ff, getK ff 0 = some (.str s) → getK ff 1 = some (.int .i64 i) → getK ff 6 = some (.int .i64 i) → arunK pur call N (.loop keep body) ff [] = some (e, G (AqN ff keep 0), [])) ∧
      (∀ ff, getK ff 0 = some (.str s) → getK ff 1 = some (.int .i64 i) → getK ff 6 = some (.int .i64 i) → getK (G (AqN ff keep 0)) 0 = some (.str s)) ∧
      (∀ ff, getK ff 0 = some (.str s) → getK ff 1 = some (.int .i64 i) → getK ff 6 = some (.int .i64 i) → getK (G (AqN ff keep 0)) 1 = some (.int .i64 i)) ∧
      (∀ ff, getK ff 0 = some (.str s) → getK ff 1 = some (.int .i64 i) → getK ff 6 = some (.int .i64 i) → getK (G (AqN ff keep 0)) 6 = some (.int .i64 k)) := by
  have hm : ∀ ff, getK ff 0 = some (.str s) → getK ff 1 = some (.int .i64 i) → getK ff 6 = some (.int .i64 i) → tokI s i i (AqN ff keep 0) := fun ff a b c => by
    refine ⟨?_, ?_, ?_⟩ <;> rw [AzD] <;> simp [k0, k1, k6, a, b, c]
  refine ⟨fun ff a b c => (hG _ (hm ff a b c)).1, fun ff a b c => (hG _ (hm ff a b c)).2.1, fun ff a b c => (hG _ (hm ff a b c)).2.2.1, fun ff a b c => (hG _ (hm ff a b c)).2.2.2⟩
theorem token_run (hc : LexCalls call) (h145 : ∀ (s : List UInt8) (i : Nat), i < s.length → s.length < 4611686018427387904 → call 172 [.str s, .int .i64 i] [] = some (.bool (beginsB s i), []))
    (h142 : ∀ t : List UInt8, call 147 [.str t] [] = some (.bool (AxA t), [])) (s : List UInt8) (i : Nat) (hi : i < s.length) (hs : s.length < 2305843009213693952) (hn : s.length + 1 ≤ n) :
    AqC pur call n a112 [.str s, .int .i64 i] [] = some (.tuple [.int .i64 (Aj3 s i).1, .int .i64 (Aj3 s i).2], []) := by
  rw [k_fn _ _ rfl];have hg : s[i]? = some s[i] := by simp [hi]
  have hx := AzO s _ _ hg;have hd : s.getD i 0 = s[i] := by simp [List.getD, hg]
  have q1 := hc.h141 s[i];have q2 := hc.h117 s[i];have q3 := hc.h144 s i hi (by omega)
  unfold Aj3;rw [hd];cases b1 : AqU s[i] with
  | true =>
    have hle := span_le wordB (s.drop i);rw [List.length_drop] at hle;obtain ⟨G, hG⟩ := pickF fun ff hI => tok_word hc s i hi (by omega) n n hn ff hI
    have hA := loop_eq hG (by decide) (by decide) (by decide)
    have hK := h142 ((s.drop i).take (spanB wordB (s.drop i)))
    have hcut : semP (.ssl true true) [.str s, .int .i64 i, .int .i64 ((i + spanB wordB (s.drop i) : Nat) : Int)] = some [some (.str ((s.drop i).take (spanB wordB (s.drop i))))] := by
      rw [p_ssl s _ _ (by omega) (by omega) (by omega)]
      have : ((i + spanB wordB (s.drop i) : Nat) : Int).toNat - (i : Int).toNat = spanB wordB (s.drop i) := by omega
      rw [this]; simp
    simp only [m112_0, l112_0] at hA;cases b2 : AxA ((s.drop i).take (spanB wordB (s.drop i))) with
    | true => simp [a112, hx, q1, b1, -k_loop, -k_mt, -k_mf, -k_m0, hA, -Int.natCast_add, hcut, hK, b2]; rfl
    | false => simp [a112, hx, q1, b1, -k_loop, -k_mt, -k_mf, -k_m0, hA, -Int.natCast_add, hcut, hK, b2]; rfl
  | false =>
    cases b2 : AqK s[i] with
    | true =>
      obtain ⟨G, hG⟩ := pickF fun ff hI => tok_digit hc s i hi (by omega) n n hn ff hI
      have hA := loop_eq hG (by decide) (by decide) (by decide)
      simp only [m112_1, l112_1] at hA;simp [a112, hx, q1, b1, q2, b2, -k_loop, -k_mt, -k_mf, -k_m0, hA, -Int.natCast_add]; rfl
    | false =>
      by_cases b3 : 0 < symB s i
      · have b3' : ((0 : Int) < (symB s i : Int)) := by omega
        have hw : IntKind.i64.wrap ((i : Int) + (symB s i : Int)) = ((i + symB s i : Nat) : Int) := by
          have hle : symB s i ≤ 2 := by
            unfold symB
            repeat' split
            all_goals omega
          rw [wrap_in _ (by omega) (by omega)]; omega
        simp [a112, hx, q1, b1, q2, b2, q3, b3, b3', -k_loop, -k_mt, -k_mf, -k_m0, hw, -Int.natCast_add]; rfl
      · have b3' : ¬ ((0 : Int) < (symB s i : Int)) := by omega
        obtain ⟨G, hG⟩ := pickF fun ff hI => tok_wrong hc h145 s i hi (by omega) n n hn ff hI
        have hA := loop_eq hG (by decide) (by decide) (by decide)
        simp only [m112_2, l112_2] at hA;simp [a112, hx, q1, b1, q2, b2, q3, b3, b3', -k_loop, -k_mt, -k_mf, -k_m0, hA, -Int.natCast_add]; rfl
end Go.Abs.Z

namespace Go.Abs.Z
open Go.Proofs Go.RowKit
variable {call : Caller} {n : Nat} {σ : Sto}
def l72_0 : ACode := (.seq (.seq (.region [⟨none, (some 14), (.p .mv), [(.slot 5)], [], []⟩, ⟨none, (some 15), (.p .mv), [(.slot 0)], [], []⟩, ⟨none, (some 16), (.p (.len true)), [(.slot 15)], [], []⟩, ⟨none, (some 17), (.p (.bin .lss 0)), [(.slot 14), (.slot 16)], [], []⟩]) (.cond (.slot 17) .skip (.exit 0))) (.seq (.block 1 (.seq (.seq (.region [⟨none, (some 20), (.p .mv), [(.slot 0)], [], []⟩, ⟨none, (some 21), (.p .mv), [(.slot 5)], [], []⟩, ⟨none, (some 22), (.p .sidx), [(.slot 20), (.slot 21)], [], []⟩, ⟨none, (some 23), (.c 149), [(.slot 22)], [], []⟩, ⟨none, (some 24), (.p .not), [(.slot 23)], [], []⟩]) (.cond (.slot 24) (.seq (.region [⟨none, (some 2), (.p .mv), [(.val (.int .i64 0))], [], []⟩, ⟨none, (some 3), (.p .mv), [(.val (.bool false))], [], []⟩]) .ret) .skip)) (.region [⟨none, (some 25), (.p .mv), [(.slot 4)], [], []⟩, ⟨none, (some 26), (.p (.bin .mul 0)), [(.val (.int .i64 10)), (.slot 25)], [], []⟩, ⟨none, (some 27), (.p .mv), [(.slot 0)], [], []⟩, ⟨none, (some 28), (.p .mv), [(.slot 5)], [], []⟩, ⟨none, (some 29), (.p .sidx), [(.slot 27), (.slot 28)], [], []⟩, ⟨none, (some 30), (.p (.bin .sub 0)), [(.slot 29), (.val (.int .u8 48))], [], []⟩, ⟨none, (some 31), (.p (.cvt .i64)), [(.slot 30)], [], []⟩, ⟨none, (some 32), (.p (.bin .add 0)), [(.slot 26), (.slot 31)], [], []⟩, ⟨none, (some 4), (.p .mv), [(.slot 32)], [], []⟩]))) (.region [⟨none, (some 18), (.p .mv), [(.slot 5)], [], []⟩, ⟨none, (some 19), (.p (.bin .add 0)), [(.slot 18), (.val (.int .i64 1))], [], []⟩, ⟨none, (some 5), (.p .mv), [(.slot 19)], [], []⟩])))
def m72_0 : List Bool := [true, false, false, false, true, true, false, false, false, false, false, false, false, false, false, false, false, false, false, false, false, false, false, false, false, false, false, false, false, false, false, false, false, false]
def l159_0 : ACode := (.seq (.region [⟨none, (some 25), (.p (.bin .lss 0)), [(.slot 24), (.slot 23)], [], []⟩]) (.seq (.cond (.slot 25) .skip (.exit 0)) (.seq (.block 1 (.seq (.region [⟨none, (some 26), (.p (.idx 1)), [(.slot 22), (.slot 24)], [], []⟩, ⟨none, (some 27), (.r (.ld 1 false)), [(.slot 26)], [], []⟩, ⟨none, (some 6), (.p .mv), [(.slot 27)], [], []⟩]) (.region [⟨none, (some 28), (.p .mv), [(.slot 4)], [], []⟩, ⟨none, (some 29), (.p (.bin .mul 0)), [(.val (.int .i64 10)), (.slot 28)], [], []⟩, ⟨none, (some 30), (.p .mv), [(.slot 6)], [], []⟩, ⟨none, (some 31), (.p (.bin .sub 0)), [(.slot 30), (.val (.int .u8 48))], [], []⟩, ⟨none, (some 32), (.p (.cvt .i64)), [(.slot 31)], [], []⟩, ⟨none, (some 33), (.p (.bin .add 0)), [(.slot 29), (.slot 32)], [], []⟩, ⟨none, (some 4), (.p .mv), [(.slot 33)], [], []⟩]))) (.region [⟨none, (some 34), (.p (.bin .add 0)), [(.slot 24), (.val (.int .i64 1))], [], []⟩, ⟨none, (some 24), (.p .mv), [(.slot 34)], [], []⟩]))))
def m159_0 : List Bool := [false, false, false, false, true, false, false, false, false, false, false, false, false, false, false, false, false, false, false, false, false, false, true, true, true, false, false, false, false, false, false, false, false, false, false, false]
def nameB (s : List UInt8) : Bool := decide (1 ≤ s.length) && decide (s.length ≤ 16) && AqU (s.getD 0 0) && !AxA s && decide (spanB wordB s = s.length)
theorem v_flat_t (x : List PV) : (PV.tuple x).flat = x.all PV.flat0 := rfl
theorem v_dis_t (x : List PV) : (PV.tuple x).Aq0 = .tuple x := rfl
theorem v_free_t (x : List PV) : (PV.tuple x).free = true := rfl
theorem v_flat0_i (k : IntKind) (x : Int) : (PV.int k x).flat0 = true := rfl
theorem v_flat0_b (x : Bool) : (PV.bool x).flat0 = true := rfl
theorem v_flat0_s (x : List UInt8) : (PV.str x).flat0 = true := rfl
attribute [simp] v_flat_t v_dis_t v_free_t v_flat0_i v_flat0_b v_flat0_s
theorem nameA_run (h141 : ∀ c : UInt8, call 146 [.int .u8 c.toNat] [] = some (.bool (AqU c), [])) (h142 : ∀ t : List UInt8, call 147 [.str t] [] = some (.bool (AxA t), []))
    (h112 : ∀ (s : List UInt8) (i : Nat), i < s.length → s.length < 100 → call 131 [.str s, .int .i64 i] [] = some (.tuple [.int .i64 (Aj3 s i).1, .int .i64 (Aj3 s i).2], [])) (s : List UInt8) :
    AqC pur call n a107 [.str s] [] = some (.bool (nameB s), []) := by
  rw [k_fn _ _ rfl];unfold nameB;by_cases h1 : 1 ≤ s.length
  · have h1' : ¬ ((s.length : Int) < 1) := by omega
    by_cases h2 : s.length ≤ 16
    · have h2' : ¬ ((16 : Int) < (s.length : Int)) := by omega
      have hg : s[0]? = some s[0] := by simp
      have hx : semP .sidx [.str s, .int .i64 0] = some [some (.int .u8 s[0].toNat)] := AzO s 0 _ hg;have hd : s.getD 0 0 = s[0] := by simp [List.getD, hg]
      have q1 := h141 s[0];have q2 := h142 s;have q3 : call 131 [.str s, .int .i64 0] [] = _ := h112 s 0 h1 (by omega)
      rw [hd];cases b1 : AqU s[0] with
      | false => simp [a107, h1', h2', hx, q1, b1]; rfl
      | true =>
        cases b2 : AxA s with
        | true => simp [a107, h1', h2', hx, q1, b1, q2, b2]; rfl
        | false =>
          have ht : (Aj3 s 0).2 = spanB wordB s := by
            unfold Aj3;simp only [hd, b1, if_true]; simp
          rw [ht] at q3;simp [a107, h1, h2, h1', h2', hx, q1, b1, q2, b2, q3];by_cases b3 : spanB wordB s = s.length
          · simp [b3]; rfl
          · have b3' : ¬ ((spanB wordB s : Int) = (s.length : Int)) := by omega
            simp [b3, b3']; rfl
    · have h2' : ((16 : Int) < (s.length : Int)) := by omega
      simp [a107, h1', h2, h2']; rfl
  · have h1' : ((s.length : Int) < 1) := by omega
    simp [a107, h1, h1']; rfl
theorem nameB_run (h149 : ∀ c : UInt8, call 178 [.int .u8 c.toNat] [] = some (.bool (AqU c), [])) (h150 : ∀ t : List UInt8, call 179 [.str t] [] = some (.bool (AxA t), []))
    (h151 : ∀ (s : List UInt8), s.length < 100 → call 180 [.str s, .int .i64 0, .func 181 [] []] [] = some (.int .i64 (spanB wordB s : Nat), [])) (s : List UInt8) :
    AqC pur call n a123 [.str s] [] = some (.bool (nameB s), []) := by
  rw [k_fn _ _ rfl];unfold nameB;by_cases h1 : 1 ≤ s.length
  · have h1' : (s == []) = false := by cases s <;> simp at h1 ⊢
    by_cases h2 : s.length ≤ 16
    · have h2' : ¬ ((16 : Int) < (s.length : Int)) := by omega
      have hg : s[0]? = some s[0] := by simp
      have hx : semP .sidx [.str s, .int .i64 0] = some [some (.int .u8 s[0].toNat)] := AzO s 0 _ hg;have hd : s.getD 0 0 = s[0] := by simp [List.getD, hg]
      have q1 := h149 s[0];have q2 := h150 s;have q3 := h151 s (by omega)
      rw [hd];cases b1 : AqU s[0] with
      | false => simp [a123, h1', h2', hx, q1, b1]; rfl
      | true =>
        cases b2 : AxA s with
        | true => simp [a123, h1', h2', hx, q1, b1, q2, b2]; rfl
        | false =>
          simp [a123, h1, h2, h1', h2', hx, q1, b1, q2, b2, q3];by_cases b3 : spanB wordB s = s.length
          · simp [b3]; rfl
          · have b3' : ¬ ((spanB wordB s : Int) = (s.length : Int)) := by omega
            simp [b3, b3']; rfl
    · have h2' : ((16 : Int) < (s.length : Int)) := by omega
      simp [a123, h1', h2, h2']; rfl
  · have h1' : s = [] := by cases s <;> simp at h1 ⊢
    subst h1';simp [a123]; rfl
def numV (s : List UInt8) : Int := s.foldl (fun n c => 10 * n + ((c.toNat : Int) - 48)) 0
def numOk (s : List UInt8) : Bool := decide (1 ≤ s.length) && decide (s.length ≤ 9) && s.all AqK
theorem numV_snoc (s : List UInt8) (c : UInt8) : numV (s ++ [c]) = 10 * numV s + ((c.toNat : Int) - 48) := by simp [numV]
theorem digit_rng {c : UInt8} (h : AqK c = true) : (48 : Int) ≤ (c.toNat : Int) ∧ (c.toNat : Int) ≤ 57 := by
  simpa [AqK] using h
theorem numV_take (s : List UInt8) (j : Nat) (h : ∀ c ∈ s.take j, AqK c = true) : 0 ≤ numV (s.take j) ∧ numV (s.take j) < 10 ^ j := by
  induction j with
  | zero => simp [numV]
  | succ j ih =>
    have ih' := ih fun c hc => h c (List.mem_of_mem_take (i := j) (by rw [List.take_take]; simpa [Nat.min_eq_left (Nat.le_succ j)] using hc))
    rw [List.take_add_one];cases hg : s[j]? with
    | none =>
      simp;have : (10 : Int) ^ (j + 1) = 10 * 10 ^ j := by rw [Int.pow_succ]; omega
      omega
    | some c =>
      have hc : AqK c = true := h c (by rw [List.take_add_one, hg]; simp)
      have := digit_rng hc;simp only [Option.toList_some, numV_snoc];have : (10 : Int) ^ (j + 1) = 10 * 10 ^ j := by rw [Int.pow_succ]; omega
      omega
end Go.Abs.Z

namespace Go.Abs.Z
open Go.Proofs Go.RowKit
variable {call : Caller} {n : Nat} {σ : Sto}
theorem p_sub8 (x y : Int) : semP (.bin .sub 0) [.int .u8 x, .int .u8 y] = some [some (.int .u8 (IntKind.u8.wrap (x - y)))] := rfl
theorem p_mul (x y : Int) : semP (.bin .mul 0) [.int .i64 x, .int .i64 y] = some [some (.int .i64 (IntKind.i64.wrap (x * y)))] := rfl
theorem p_sub (x y : Int) : semP (.bin .sub 0) [.int .i64 x, .int .i64 y] = some [some (.int .i64 (IntKind.i64.wrap (x - y)))] := rfl
theorem p_cvt8 (x : Int) : semP (.cvt .i64) [.int .u8 x] = some [some (.int .i64 (IntKind.i64.wrap x))] := rfl
theorem p_cvb (l : List UInt8) : semP .cvb [.str l] = some [some (.slice false 1 (l.map fun b => .int .u8 b.toNat))] := rfl
theorem p_ldi8 {σ : Sto} (x : Int) : semR (.ld 1 false) [.vptr (.int .u8 x)] σ = some [some (.int .u8 x)] := rfl
attribute [simp] p_sub8 p_mul p_sub p_cvt8 p_cvb p_ldi8
theorem wrap8 (x : Int) (h : 0 ≤ x) (h' : x < 256) : IntKind.u8.wrap x = x := by
  simp [IntKind.wrap, IntKind.bits, IntKind.signed]; omega
theorem pow9 (j : Nat) (h : j ≤ 9) : (10 : Int) ^ j ≤ 1000000000 := by
  have : j = 0 ∨ j = 1 ∨ j = 2 ∨ j = 3 ∨ j = 4 ∨ j = 5 ∨ j = 6 ∨ j = 7 ∨ j = 8 ∨ j = 9 := by omega
  rcases this with rfl | rfl | rfl | rfl | rfl | rfl | rfl | rfl | rfl | rfl <;> decide
theorem num_round (s : List UInt8) (j : Nat) (c : UInt8) (hg : s[j]? = some c) (hj : j < 9) (hall : ∀ c ∈ s.take j, AqK c = true) (hc : AqK c = true) :
    IntKind.i64.wrap (IntKind.i64.wrap (10 * numV (s.take j)) + IntKind.i64.wrap (IntKind.u8.wrap ((c.toNat : Int) - 48))) = numV (s.take (j + 1)) := by
  have hb := numV_take s j hall;have hp := pow9 j (by omega)
  have hr := digit_rng hc;rw [List.take_add_one, hg, Option.toList_some, numV_snoc, wrap8 _ (by omega) (by omega), wrap_in (10 * _) (by omega) (by omega), wrap_in ((c.toNat : Int) - 48) (by omega) (by omega), wrap_in _ (by omega) (by omega)]
theorem all_snoc (s : List UInt8) (j : Nat) (c : UInt8) (hg : s[j]? = some c) (hall : ∀ c ∈ s.take j, AqK c = true) (hc : AqK c = true) : ∀ c ∈ s.take (j + 1), AqK c = true := by
  intro d hd;rw [List.take_add_one, hg] at hd;simp at hd;rcases hd with hd | rfl
  · exact hall d hd
  · exact hc
theorem numOk_of (s : List UInt8) (h1 : 1 ≤ s.length) (h2 : s.length ≤ 9) (h : ∀ c ∈ s.take s.length, AqK c = true) : numOk s = true := by
  rw [List.take_length] at h;simp [numOk, h1, h2]; exact h
theorem numOk_not (s : List UInt8) (j : Nat) (c : UInt8) (hg : s[j]? = some c) (hc : AqK c = false) : numOk s = false := by
  have : s.all AqK = false := by
    simp only [List.all_eq_false];exact ⟨c, List.mem_of_getElem? hg, by simp [hc]⟩
  simp [numOk, this]
theorem k_out2 {ff : FF} {σ : Sto} (t u : Nat) (v w : PV) (h : getK ff t = some v) (h' : getK ff u = some w) (hf : v.free = true) (hf' : w.free = true) (hl : v.Aq0.flat = true) (hl' : w.Aq0.flat = true) : outT [(t, none), (u, none)] (some (.ret, ff, σ)) = some (.tuple [v.Aq0, w.Aq0], σ) := by
  show ((resK ff [(t, none), (u, none)]).bind fun vs => (packR vs).map fun x => (x, σ)) = _
  have : resK ff [(t, none), (u, none)] = some [v.Aq0, w.Aq0] := by
    have h2 : resK ff [(u, none)] = some [w.Aq0] := by
      show (match getK ff u, some [] with | some v, some vs => if resOk v none then some (v.Aq0 :: vs) else none | _, _ => none) = _
      rw [h']; simp [resOk, hf']
    show (match getK ff t, resK ff [(u, none)] with | some v, some vs => if resOk v none then some (v.Aq0 :: vs) else none | _, _ => none) = _
    rw [h, h2]; simp [resOk, hf]
  rw [this]; simp [packR, hl, hl']
theorem numberA_run (h117 : ∀ c : UInt8, call 149 [.int .u8 c.toNat] [] = some (.bool (AqK c), [])) (s : List UInt8) (hn : 11 ≤ n) :
    AqC pur call n a72 [.str s] [] = some (.tuple [.int .i64 (if numOk s then numV s else 0), .bool (numOk s)], []) := by
  rw [k_fn _ _ rfl];by_cases h1 : 1 ≤ s.length
  · have h1' : ¬ ((s.length : Int) < 1) := by omega
    by_cases h2 : s.length ≤ 9
    · have h2' : ¬ ((9 : Int) < (s.length : Int)) := by omega
      have h := iter_inv (keep := m72_0) (body := arunK pur call n l72_0) (σ := []) (fun j ff => (getK ff 0 = some (.str s) ∧ getK ff 4 = some (.int .i64 (numV (s.take j))) ∧ getK ff 5 = some (.int .i64 (j : Nat))) ∧ ∀ c ∈ s.take j, AqK c = true)
        (fun r => ∃ ff, (numOk s = true ∧ r = some (.exit 0, ff, []) ∧ getK ff 4 = some (.int .i64 (numV s))) ∨ (numOk s = false ∧ r = some (.ret, ff, []) ∧ getK ff 2 = some (.int .i64 0) ∧ getK ff 3 = some (.bool false))) s.length
        (by
          rintro ff ⟨⟨h0, h4, h5⟩, hall⟩
          refine ⟨_, by simp [l72_0, h0, h5]; exact rfl, rfl, _, .inl ⟨numOk_of s h1 h2 hall, rfl, ?_⟩⟩
          rw [List.take_length] at h4;simp [h4])
        (by
          rintro j hj ff ⟨⟨h0, h4, h5⟩, hall⟩
          have hj' : ((j : Int) < (s.length : Int)) := by omega
          have hw := AzF j (by omega)
          have hg : s[j]? = some s[j] := by simp [hj]
          have hx := AzO s _ _ hg;have q := h117 s[j];cases hb : AqK s[j] with
          | false => exact ⟨_, by simp [l72_0, h0, h5, hj', hx, q, hb]; exact rfl, .inl ⟨rfl, _, .inr ⟨numOk_not s j _ hg hb, rfl, by simp, by simp⟩⟩⟩
          | true =>
            have hr := num_round s j _ hg (by omega) hall hb
            exact ⟨_, by simp [l72_0, h0, h4, h5, hj', hx, q, hb]; exact rfl, .inr ⟨rfl, rfl, by simp [-k_mt, -k_mf, -k_m0, AzD, m72_0, h0, h4, hw, hr], all_snoc s j _ hg hall hb⟩⟩)
        s.length 0 (by omega) n (by omega) [(0, some (.str s)), (4, some (.int .i64 0)), (5, some (.int .i64 (0 : Nat)))] (by simp [numV])
      obtain ⟨ff, h⟩ := h;simp only [l72_0, m72_0] at h;rcases h with ⟨hc, h, h4⟩ | ⟨hc, h, h4, h5⟩
      · simp at h;simp [a72, h1', h2', h, h4, hc]; rfl
      · simp at h;simp [a72, h1', h2', h, hc];exact k_out2 2 3 _ _ h4 h5 rfl rfl rfl rfl
    · have h2' : ((9 : Int) < (s.length : Int)) := by omega
      simp [a72, h1', h2', numOk, h2]; rfl
  · have h1' : ((s.length : Int) < 1) := by omega
    simp [a72, h1', numOk, h1]; rfl
theorem span_all (p : UInt8 → Bool) : ∀ s : List UInt8, spanB p s = s.length ↔ s.all p = true
  | [] => by simp [spanB]
  | c :: s => by
    have ih := span_all p s;have hle := span_le p s;cases hp : p c with
    | false => simp [spanB, hp]
    | true =>
      have e : spanB p (c :: s) = spanB p s + 1 := by simp [spanB, hp]
      rw [e, List.length_cons, List.all_cons, hp, Bool.true_and, ← ih]; omega
theorem numberB_run (h151 : ∀ (s : List UInt8), s.length < 100 → call 180 [.str s, .int .i64 0, .func 182 [] []] [] = some (.int .i64 (spanB AqK s : Nat), [])) (s : List UInt8) (hn : 11 ≤ n) :
    AqC pur call n a159 [.str s] [] = some (.tuple [.int .i64 (if numOk s then numV s else 0), .bool (numOk s)], []) := by
  rw [k_fn _ _ rfl];by_cases h1 : 1 ≤ s.length
  · have h1' : (s == []) = false := by cases s <;> simp at h1 ⊢
    by_cases h2 : s.length ≤ 9
    · have h2' : ¬ ((9 : Int) < (s.length : Int)) := by omega
      have q := h151 s (by omega)
      have hle := span_le AqK s;by_cases h3 : spanB AqK s = s.length
      · have hall : s.all AqK = true := (span_all AqK s).1 h3;have h3' : ¬ ((spanB AqK s : Int) < (s.length : Int)) := by omega
        have hok : numOk s = true := by simp only [numOk, h1, h2, hall]; rfl
        have hat : ∀ j, ∀ c ∈ s.take j, AqK c = true := fun j c hc => List.all_eq_true.1 hall c (List.mem_of_mem_take hc)
        have h := iter_inv (keep := m159_0) (body := arunK pur call n l159_0) (σ := []) (fun j ff => getK ff 4 = some (.int .i64 (numV (s.take j))) ∧ getK ff 22 = some (.slice false 1 (s.map fun b => .int .u8 b.toNat)) ∧ getK ff 23 = some (.int .i64 (s.length : Nat)) ∧ getK ff 24 = some (.int .i64 (j : Nat)))
          (fun r => ∃ ff, r = some (.exit 0, ff, []) ∧ getK ff 4 = some (.int .i64 (numV s))) s.length
          (by
            rintro ff ⟨h4, h22, h23, h24⟩
            refine ⟨_, by simp [l159_0, h23, h24]; exact rfl, rfl, _, rfl, ?_⟩
            rw [List.take_length] at h4;simp [h4])
          (by
            rintro j hj ff ⟨h4, h22, h23, h24⟩
            have hj' : ((j : Int) < (s.length : Int)) := by omega
            have hw := AzF j (by omega)
            have hg : s[j]? = some s[j] := by simp [hj]
            have hx : semP (.idx 1) [.slice false 1 (s.map fun b => .int .u8 b.toNat), .int .i64 (j : Int)] = some [some (.vptr (.int .u8 s[j].toNat))] := p_idx _ _ _ _ _ (by rw [List.getElem?_map, hg]; rfl)
            have hb : AqK s[j] = true := List.all_eq_true.1 hall _ (List.getElem_mem hj);have hr := num_round s j _ hg (by omega) (hat j) hb
            exact ⟨_, by simp [l159_0, h4, h22, h23, h24, hj', hx]; exact rfl, .inr ⟨rfl, rfl, by simp [-k_mt, -k_mf, -k_m0, AzD, m159_0, h22, h23, hw, hr]⟩⟩)
          s.length 0 (by omega) n (by omega) [(4, some (.int .i64 0)), (22, some (.slice false 1 (s.map fun b => .int .u8 b.toNat))), (23, some (.int .i64 (s.length : Nat))), (24, some (.int .i64 (0 : Nat)))] (by simp [numV])
        obtain ⟨ff, h, h4⟩ := h;simp only [l159_0, m159_0] at h;simp at h;simp [a159, h1', h2', q, h3', h, h4, hok]; rfl
      · have h3' : ((spanB AqK s : Int) < (s.length : Int)) := by omega
        have hok : numOk s = false := by
          cases hb : s.all AqK with
          | false => simp only [numOk, hb, Bool.and_false]
          | true => exact absurd ((span_all AqK s).2 hb) h3
        simp [a159, h1', h2', q, h3', hok]; rfl
    · have h2' : ((9 : Int) < (s.length : Int)) := by omega
      simp [a159, h1', h2', numOk, h2]; rfl
  · have h1' : s = [] := by cases s <;> simp at h1 ⊢
    subst h1';simp [a159, numOk]; rfl
def AxU (s : List UInt8) : Bool := numOk s && (s == [48] || ((s.getD 0 0).toNat : Int) != 48)
theorem number3_run (h72 : ∀ s : List UInt8, call 96 [.str s] [] = some (.tuple [.int .i64 (if numOk s then numV s else 0), .bool (numOk s)], [])) (s : List UInt8) : AqC pur call n a108 [.str s] [] = some (.bool (AxU s), []) := by
  rw [k_fn _ _ rfl];have q := h72 s;unfold AxU;cases hok : numOk s with
  | false =>
    rw [hok] at q;simp [a108, q]; rfl
  | true =>
    rw [hok] at q;have h1 : 1 ≤ s.length := by simp [numOk] at hok; omega
    have hg : s[0]? = some s[0] := by simp
    have hx : semP .sidx [.str s, .int .i64 0] = some [some (.int .u8 s[0].toNat)] := AzO s 0 _ hg;have hd : s.getD 0 0 = s[0] := by simp [List.getD, hg]
    rw [hd];cases b1 : (s == [48]) with
    | true => simp [a108, q, b1]; rfl
    | false => simp [a108, q, b1, hx]; rfl
theorem numberT_run (h159 : ∀ s : List UInt8, call 188 [.str s] [] = some (.tuple [.int .i64 (if numOk s then numV s else 0), .bool (numOk s)], [])) (s : List UInt8) : AqC pur call n a130 [.str s] [] = some (.bool (AxU s), []) := by
  rw [k_fn _ _ rfl];have q := h159 s;unfold AxU;cases hok : numOk s with
  | false =>
    rw [hok] at q;simp [a130, q]; rfl
  | true =>
    rw [hok] at q;have h1 : 1 ≤ s.length := by simp [numOk] at hok; omega
    have hg : s[0]? = some s[0] := by simp
    have hx : semP .sidx [.str s, .int .i64 0] = some [some (.int .u8 s[0].toNat)] := AzO s 0 _ hg;have hd : s.getD 0 0 = s[0] := by simp [List.getD, hg]
    rw [hd];cases b1 : (s == [48]) with
    | true => simp [a130, q, b1]; rfl
    | false => simp [a130, q, b1, hx]; rfl
end Go.Abs.Z
