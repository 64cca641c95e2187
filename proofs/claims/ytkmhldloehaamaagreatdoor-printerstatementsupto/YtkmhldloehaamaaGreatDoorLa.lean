/- A part of the proof: L1 L2 G5. -/
import Derived.Test.YtkmhldloehaamaaGreatDoorYa
import Derived.Test.YtkmhldloehaamaaGreatDoorGa

set_option linter.unusedVariables false
set_option linter.unusedSimpArgs false
namespace Go.Abs.Z
open Go.Proofs Go.RowKit
abbrev Wd := Nat × List UInt8
def tokOk (kd : Nat) (x rest : List UInt8) : Prop := ∀ pre : List UInt8, Aj3 (pre ++ (x ++ rest)) pre.length = ((kd : Int), pre.length + x.length)
def startB (x : List UInt8) : Bool := match x with
  | [] => false
  | c :: _ => !AjP c && (c != 35)
def wdOk (kd : Nat) (x : List UInt8) : Bool := decide (kd ≤ 3) && (kd != 2 || numOk x) && (kd != 0 || decide (x.length ≤ 16))
inductive Lx : List UInt8 → List Wd → Prop
  | nil {b : List UInt8} (hb : b.all AjP = true) : Lx b []
  | cons {b x rest : List UInt8} {ws : List Wd} {kd : Nat} (hb : b.all AjP = true) (hx : tokOk kd x rest) (hs : startB x = true) (ho : wdOk kd x = true) (h : Lx rest ws) : Lx (b ++ (x ++ rest)) ((kd, x) :: ws)
def sepB : List UInt8 → Bool
  | [] => true
  | c :: _ => !wordB c && (c != 61)
theorem sep_app {b rest : List UInt8} (h : sepB b = true) (hr : sepB rest = true) : sepB (b ++ rest) = true := by cases b <;> assumption
def LXs (a : List UInt8) (w : List Wd) : Prop := ∀ (rest : List UInt8) (ws : List Wd), sepB rest = true → Lx rest ws → Lx (a ++ rest) (w ++ ws)
theorem LXs.all {a : List UInt8} {w : List Wd} (h : LXs a w) : Lx a w := by
  have := h [] [] rfl (.nil rfl);simpa using this
theorem Az6 : LXs [] [] := fun _ _ _ h => h
theorem LXs.cat {a b : List UInt8} {w v : List Wd} (h : LXs a w) (h' : LXs b v) (hs : sepB b = true) : LXs (a ++ b) (w ++ v) := fun rest ws hr hl => by
  rw [List.append_assoc, List.append_assoc];exact h (b ++ rest) (v ++ ws) (sep_app hs hr) (h' rest ws hr hl)
theorem lx_blank {c : UInt8} (hc : AjP c = true) {b : List UInt8} {v : List Wd} (h : Lx b v) : Lx (c :: b) v := by
  cases h with
  | nil hb => exact .nil (by simp [hc, hb])
  | cons hb hx hs ho h => exact .cons (b := c :: _) (by simp [hc, hb]) hx hs ho h
theorem LXs.blank {b : List UInt8} {v : List Wd} (h : LXs b v) : LXs ([32] ++ b) v := fun rest ws hr hl => lx_blank (by decide) (h rest ws hr hl)
theorem LXs.line {b : List UInt8} {v : List Wd} (h : LXs b v) : LXs ([10] ++ b) v := fun rest ws hr hl => lx_blank (by decide) (h rest ws hr hl)
theorem lxs_word {x : List UInt8} {kd : Nat} (h : ∀ rest, sepB rest = true → tokOk kd x rest) (hs : startB x = true) (ho : wdOk kd x = true) : LXs x [(kd, x)] := fun _ _ hr hl => .cons (b := []) rfl (h _ hr) hs ho hl
theorem LXs.sym {x b : List UInt8} {v : List Wd} (h : ∀ rest, tokOk 3 x rest) (hs : startB x = true) (hb : LXs b v) : LXs (x ++ b) ((3, x) :: v) := fun rest ws hr hl => by
  rw [List.append_assoc];exact .cons (b := []) rfl (h _) hs rfl (hb rest ws hr hl)
theorem span_app (p : UInt8 → Bool) : ∀ (x rest : List UInt8), x.all p = true → (∀ c, rest.head? = some c → p c = false) → spanB p (x ++ rest) = x.length
  | [], rest, _, hr => by
    cases rest with
    | nil => rfl
    | cons c r => simp [spanB, hr c rfl]
  | c :: x, rest, hx, hr => by
    simp only [List.all_cons, Bool.and_eq_true] at hx;have := span_app p x rest hx.2 hr;unfold spanB at this ⊢;rw [List.cons_append, List.takeWhile_cons, hx.1, if_pos rfl]; simp [this]
theorem drop_pre (pre l : List UInt8) : (pre ++ l).drop pre.length = l := by simp
theorem getD_pre (pre l : List UInt8) : (pre ++ l).getD pre.length 0 = l.getD 0 0 := by
  simp [List.getD, List.getElem?_append_right]
theorem getD_app {x rest : List UInt8} (h : x ≠ []) : (x ++ rest).getD 0 0 = x.getD 0 0 := by
  cases x with
  | nil => exact absurd rfl h
  | cons => rfl
theorem sep_word {rest : List UInt8} (h : sepB rest = true) : ∀ c, rest.head? = some c → wordB c = false := by
  intro c hc;cases rest with
  | nil => cases hc
  | cons d r => cases hc; simp [sepB] at h; exact h.1
theorem tok_letters {x rest : List UInt8} {kd : Nat} (hl : AqU (x.getD 0 0) = true) (hw : x.all wordB = true) (hk : (if AxA x then (1 : Nat) else 0) = kd) (hs : sepB rest = true) : tokOk kd x rest := by
  intro pre;have hne : x ≠ [] := by rintro rfl; simp [AqU] at hl
  unfold Aj3;simp only [getD_pre, drop_pre, getD_app hne, hl, if_true, span_app wordB x rest hw (sep_word hs)];have : (x ++ rest).take x.length = x := by simp
  rw [this, ← hk];cases AxA x <;> rfl
theorem tok_name {x rest : List UInt8} (h : nameB x = true) (hs : sepB rest = true) : tokOk 0 x rest := by
  simp only [nameB, Bool.and_eq_true, Bool.not_eq_true', decide_eq_true_eq] at h;obtain ⟨⟨⟨⟨_, _⟩, h3⟩, h4⟩, h5⟩ := h;exact tok_letters h3 ((span_all wordB x).1 h5) (by rw [h4]; rfl) hs
theorem letter_not_digit {c : UInt8} (h : AqK c = true) : AqU c = false := by
  have := digit_rng h;simp only [AqU, Bool.and_eq_false_iff, decide_eq_false_iff_not];omega
theorem tok_num {x rest : List UInt8} (h : numOk x = true) (hs : sepB rest = true) : tokOk 2 x rest := by
  intro pre;simp only [numOk, Bool.and_eq_true, decide_eq_true_eq] at h;obtain ⟨⟨h1, _⟩, h3⟩ := h;have hne : x ≠ [] := by rintro rfl; simp at h1
  have hd : AqK (x.getD 0 0) = true := by
    cases x with
    | nil => exact absurd rfl hne
    | cons c r => simp only [List.all_cons, Bool.and_eq_true] at h3; exact h3.1
  have hr : ∀ c, rest.head? = some c → AqK c = false := fun c hc => by
    have := sep_word hs c hc;simp only [wordB, Bool.or_eq_false_iff] at this;exact this.1.2
  unfold Aj3;simp only [getD_pre, drop_pre, getD_app hne, letter_not_digit hd, hd, if_true, Bool.false_eq_true, if_false, span_app AqK x rest h3 hr];rfl
theorem sym_pre (pre l : List UInt8) : symB (pre ++ l) pre.length = if 2 ≤ l.length ∧ sym2.contains (l.take 2) = true then 2 else if sym1.contains (l.take 1) = true then 1 else 0 := by
  unfold symB;rw [drop_pre];have : (pre.length + 2 ≤ (pre ++ l).length) ↔ 2 ≤ l.length := by simp
  simp only [this]
def loneB (c : UInt8) : Bool := sym1.contains [c] && !(AqU c) && !(AqK c) && (c != 61) && (c != 33) && (c != 60) && (c != 62)
theorem tok_lone {c : UInt8} (h : loneB c = true) (rest : List UInt8) : tokOk 3 [c] rest := by
  intro pre;simp only [loneB, Bool.and_eq_true, Bool.not_eq_true', bne_iff_ne, ne_eq] at h;obtain ⟨⟨⟨⟨⟨⟨h1, h2⟩, h3⟩, h4⟩, h5⟩, h6⟩, h7⟩ := h
  have hs : symB (pre ++ ([c] ++ rest)) pre.length = 1 := by
    rw [sym_pre]
    have hn : sym2.contains (([c] ++ rest).take 2) = false := by
      cases rest with
      | nil => simp [sym2]
      | cons d r => simp [sym2, h4, h5, h6, h7]
    rw [if_neg (fun h => by rw [hn] at h; exact absurd h.2 (by decide)), if_pos (by simpa using h1)]
  unfold Aj3;simp only [getD_pre];show (if AqU c = true then _ else _) = _
  rw [if_neg (by simp [h2]), if_neg (by simp [h3]), hs]
  rfl
theorem tok_one {c : UInt8} (h1 : sym1.contains [c] = true) (h2 : AqU c = false) (h3 : AqK c = false) {rest : List UInt8} (hs : sepB rest = true) : tokOk 3 [c] rest := by
  intro pre
  have hs : symB (pre ++ ([c] ++ rest)) pre.length = 1 := by
    rw [sym_pre]
    have hn : sym2.contains (([c] ++ rest).take 2) = false := by
      cases rest with
      | nil => simp [sym2]
      | cons d r =>
        simp [sepB] at hs;simp [sym2, hs.2]
    rw [if_neg (fun h => by rw [hn] at h; exact absurd h.2 (by decide)), if_pos (by simpa using h1)]
  unfold Aj3;simp only [getD_pre];show (if AqU c = true then _ else _) = _
  rw [if_neg (by simp [h2]), if_neg (by simp [h3]), hs]
  rfl
theorem tok_two {c d : UInt8} (h1 : sym2.contains [c, d] = true) (h2 : AqU c = false) (h3 : AqK c = false) (rest : List UInt8) : tokOk 3 [c, d] rest := by
  intro pre
  have hs : symB (pre ++ ([c, d] ++ rest)) pre.length = 2 := by
    rw [sym_pre, if_pos ⟨by simp, by simpa using h1⟩]
  unfold Aj3;simp only [getD_pre];show (if AqU c = true then _ else _) = _
  rw [if_neg (by simp [h2]), if_neg (by simp [h3]), hs]
  rfl
def symW (c : UInt8) : Wd := (3, [c])
def kwW (x : List UInt8) : Wd := (1, x)
def parW (k : Int) (t : List UInt8) (i : Nat) (U : Tr) (w : List Wd) : List Wd := if parV k t i U.kind U.text then symW 40 :: (w ++ [symW 41]) else w
def atW (l : List (Int × List Wd)) (i : Nat) : Int × List Wd := (l[i]?).getD (0, [])
def AzR (x : Int × List Wd) : List Wd := if x.1 = 0 then [] else symW 58 :: x.2
def AxE : List (Int × List Wd) → List Wd
  | [] => []
  | [x] => x.2
  | x :: l => x.2 ++ (symW 44 :: AxE l)
def opW (t : List UInt8) : Wd := (if t = [111, 114] ∨ t = [97, 110, 100] then 1 else 3, t)
def nodeW (k : Int) (t : List UInt8) (l : List (Int × List Wd)) : List Wd :=
  if k = 2 then (l.map (·.2)).flatten
  else if k = 3 then kwW [114, 101, 99, 111, 114, 100] :: (0, t) :: symW 123 :: (AxE l ++ [symW 125])
  else if k = 4 ∨ k = 7 then (0, t) :: AzR (atW l 0)
  else if k = 5 then kwW [112, 114, 111, 99] :: (0, t) :: symW 40 :: ((atW l 0).2 ++ (symW 41 :: (AzR (atW l 1) ++ (atW l 2).2)))
  else if k = 6 then AxE l
  else if k = 8 then kwW [118, 97, 114] :: (0, t) :: AzR (atW l 0)
  else if k = 9 then [(if AxA t then 1 else 0, t)]
  else if k = 10 then [kwW [105, 110, 116], symW 91, (2, t), symW 93]
  else if k = 11 then symW 123 :: ((l.map (·.2)).flatten ++ [symW 125])
  else if k = 12 then kwW [118, 97, 114] :: (0, t) :: (AzR (atW l 0) ++ (symW 61 :: ((atW l 1).2 ++ [symW 59])))
  else if k = 13 then (atW l 0).2 ++ (symW 61 :: ((atW l 1).2 ++ [symW 59]))
  else if k = 14 then kwW [105, 102] :: ((atW l 0).2 ++ ((atW l 1).2 ++ (if (atW l 2).1 = 0 then [] else kwW [101, 108, 115, 101] :: (atW l 2).2)))
  else if k = 15 then kwW [119, 104, 105, 108, 101] :: ((atW l 0).2 ++ (atW l 1).2)
  else if k = 16 then kwW [102, 111, 114] :: (0, t) :: symW 61 :: ((atW l 0).2 ++ (kwW [116, 111] :: ((atW l 1).2 ++ (atW l 2).2)))
  else if k = 17 then kwW [114, 101, 116, 117, 114, 110] :: ((if (atW l 0).1 = 0 then [] else (atW l 0).2) ++ [symW 59])
  else if k = 18 then kwW [97, 115, 115, 101, 114, 116] :: ((atW l 0).2 ++ [symW 59])
  else if k = 19 then (0, t) :: symW 40 :: (AxE l ++ [symW 41, symW 59])
  else if k = 21 then (atW l 0).2 ++ (symW 91 :: ((atW l 1).2 ++ [symW 93]))
  else if k = 22 then (atW l 0).2 ++ [symW 46, (0, t)]
  else if k = 23 then kwW [108, 101, 110] :: symW 40 :: ((atW l 0).2 ++ [symW 41])
  else if k = 24 then [(2, t)]
  else if k = 25 then [(1, t)]
  else if k = 26 then symW 91 :: (AxE l ++ [symW 93])
  else if k = 27 then (0, t) :: symW 40 :: (AxE l ++ [symW 41])
  else if k = 28 then (if t = [110, 111, 116] then 1 else 3, t) :: (atW l 0).2
  else if k = 29 then (atW l 0).2 ++ (opW t :: (atW l 1).2)
  else if k = 20 then [(0, t)]
  else []
mutual
def tks : Tr → List Wd
  | .mk k t _ _ _ ks => nodeW k t (tkss ks k t 0)
def tkss : List Tr → Int → List UInt8 → Nat → List (Int × List Wd)
  | [], _, _, _ => []
  | U :: us, k, t, i => (U.kind, parW k t i U (tks U)) :: tkss us k t (i + 1)
end
theorem AqH (T : Tr) : tks T = nodeW T.kind T.text (tkss T.kids T.kind T.text 0) := by
  obtain ⟨k, t, a, e, n, ks⟩ := T;rw [tks]; rfl
end Go.Abs.Z

namespace Go.Abs.Z
open Go.Proofs Go.RowKit
theorem start_of {x : List UInt8} (h : AqU (x.getD 0 0) = true ∨ AqK (x.getD 0 0) = true) : startB x = true := by
  cases x with
  | nil => simp [AqU, AqK] at h
  | cons c r =>
    have h' : AqU c = true ∨ AqK c = true := h;simp only [AqU, AqK, Bool.and_eq_true, decide_eq_true_eq] at h'
    have hn : ∀ m : Nat, m < 48 → ((c.toNat : Int) == (m : Int)) = false := by
      intro m hm;have : (c.toNat : Int) ≠ (m : Int) := by omega
      simp [this]
    have h35 : c ≠ 35 := by rintro rfl; revert h'; decide
    have a := hn 9 (by omega)
    have b := hn 10 (by omega)
    have d := hn 13 (by omega)
    have e := hn 32 (by omega)
    simp only [startB, AjP];simp only [Int.cast_ofNat_Int] at a b d e;rw [a, b, d, e];simp [h35]
theorem nameL {x : List UInt8} (h : nameB x = true) : LXs x [(0, x)] := by
  simp only [nameB, Bool.and_eq_true, decide_eq_true_eq] at h;refine lxs_word (fun r hr => tok_name (by simp only [nameB, Bool.and_eq_true, decide_eq_true_eq]; exact h) hr) (start_of (.inl h.1.1.2)) ?_
  simp [wdOk, h.1.1.1.2]
theorem numL {x : List UInt8} (h : numOk x = true) : LXs x [(2, x)] := by
  refine lxs_word (fun r hr => tok_num h hr) (start_of (.inr ?_)) (by simp [wdOk, h])
  simp only [numOk, Bool.and_eq_true, decide_eq_true_eq] at h;cases x with
  | nil => simp at h
  | cons c r => have := h.2; simp only [List.all_cons, Bool.and_eq_true] at this; exact this.1
theorem kwL (x : List UInt8) (h1 : AqU (x.getD 0 0) = true := by decide) (h2 : x.all wordB = true := by decide) (h3 : AxA x = true := by decide) : LXs x [kwW x] :=
  lxs_word (fun r hr => tok_letters h1 h2 (by rw [h3]; rfl) hr) (start_of (.inl h1)) rfl
theorem oneL (c : UInt8) (h1 : sym1.contains [c] = true := by decide) (h2 : AqU c = false := by decide) (h3 : AqK c = false := by decide) (h4 : startB [c] = true := by decide) : LXs [c] [symW c] :=
  lxs_word (fun r hr => tok_one h1 h2 h3 hr) h4 rfl
theorem LXs.s {b : List UInt8} {v : List Wd} (hb : LXs b v) (c : UInt8) (h : loneB c = true := by decide) (h4 : startB [c] = true := by decide) : LXs ([c] ++ b) (symW c :: v) := LXs.sym (tok_lone h) h4 hb
theorem twoL (c d : UInt8) (h1 : sym2.contains [c, d] = true := by decide) (h2 : AqU c = false := by decide) (h3 : AqK c = false := by decide) (h4 : startB [c, d] = true := by decide) : LXs [c, d] [(3, [c, d])] :=
  lxs_word (fun r _ => tok_two h1 h2 h3 r) h4 rfl
theorem opL {t : List UInt8} (h : AqZ.contains t = true) : LXs t [opW t] := by
  simp [AqZ] at h;rcases h with rfl | rfl | rfl | rfl | rfl | rfl | rfl | rfl | rfl | rfl | rfl | rfl | rfl
  · exact kwL _
  · exact kwL _
  · exact twoL _ _
  · exact twoL _ _
  · exact oneL _
  · exact twoL _ _
  · exact oneL _
  · exact twoL _ _
  · exact oneL _
  · exact oneL _
  · exact oneL _
  · exact oneL _
  · exact oneL _
theorem LXs.parL {k : Int} {t : List UInt8} {i : Nat} {U : Tr} {a : List UInt8} {w : List Wd} (h : LXs a w) : LXs (par k t i U a) (parW k t i U w) := by
  unfold par parW;cases parV k t i U.kind U.text with
  | false => exact h
  | true =>
    show LXs ([40] ++ a ++ [41]) (symW 40 :: (w ++ [symW 41]));rw [List.append_assoc];exact LXs.s (h.cat (LXs.s Az6 41) rfl) 40
def KL : List (Int × List UInt8) → List (Int × List Wd) → Prop
  | [], [] => True
  | x :: l, y :: m => x.1 = y.1 ∧ LXs x.2 y.2 ∧ KL l m
  | _, _ => False
theorem commas2 (x y : Int × List UInt8) (l : List (Int × List UInt8)) : AqM (x :: y :: l) = x.2 ++ ([44] ++ ([32] ++ AqM (y :: l))) := by
  unfold AqM;rw [List.map_cons, List.map_cons, Lib.join_cons, Lib.join_cons];simp [Lib.joinTail]
theorem commasL : ∀ (l : List (Int × List UInt8)) (m : List (Int × List Wd)), KL l m → LXs (AqM l) (AxE m)
  | [], [], _ => Az6
  | [x], [y], h => by
    have : AqM [x] = x.2 := by simp [AqM, Lib.join_one]
    rw [this]; exact h.2.1
  | x :: x' :: l, y :: y' :: m, h => by
    rw [commas2];exact h.2.1.cat (LXs.s (LXs.blank (commasL (x' :: l) (y' :: m) h.2.2)) 44) rfl
  | [x], _ :: _ :: _, h => h.2.2.elim
  | _ :: _ :: _, [_], h => h.2.2.elim
  | [], _ :: _, h => h.elim
  | _ :: _, [], h => h.elim
theorem kidsL (k : Int) (t : List UInt8) (d : Nat) : ∀ (ks : List Tr) (i : Nat), (∀ U ∈ ks, LXs (prt U d) (tks U)) → KL (prts ks k t i d) (tkss ks k t i)
  | [], i, _ => by rw [prts, tkss]; trivial
  | U :: us, i, h => by
    rw [prts, tkss];exact ⟨rfl, (h U (List.mem_cons_self ..)).parL, kidsL k t d us (i + 1) fun V hV => h V (List.mem_cons_of_mem _ hV)⟩
theorem typedL {U : Tr} {d : Nat} {rest : List UInt8} {v : List Wd} (h : LXs (prt U d) (tks U)) (hr : LXs rest v) (hs : sepB rest = true) : LXs (AxK (U.kind, prt U d) ++ rest) (AzR (U.kind, tks U) ++ v) := by
  unfold AxK AzR;by_cases hk : U.kind = 0
  · simp only [hk, if_true]; exact hr
  · simp only [hk, if_false];show LXs (([58, 32] ++ prt U d) ++ rest) ((symW 58 :: tks U) ++ v);rw [List.append_assoc];exact LXs.s (LXs.blank (h.cat hr hs)) 58
theorem typed_sep (x : Int × List UInt8) {rest : List UInt8} (h : sepB rest = true) : sepB (AxK x ++ rest) = true := by
  unfold AxK;split
  · exact h
  · rfl
theorem typedL' {U : Tr} {d : Nat} (h : LXs (prt U d) (tks U)) : LXs (AxK (U.kind, prt U d)) (AzR (U.kind, tks U)) := by
  have := typedL (rest := []) (v := []) h Az6 rfl;simpa using this
theorem typed_sep' (x : Int × List UInt8) : sepB (AxK x) = true := by
  unfold AxK
  split <;> rfl
theorem ind_blank (n : Nat) {b : List UInt8} {v : List Wd} (h : LXs b v) : LXs (ind n ++ b) v := by
  induction n with
  | zero => exact h
  | succ n ih =>
    have : ind (n + 1) ++ b = [32] ++ ([32] ++ (ind n ++ b)) := by simp [ind, Lib.repeatL]
    rw [this]; exact LXs.blank (LXs.blank ih)
theorem linesL (n : Nat) {rest : List UInt8} {v : List Wd} (hr : LXs rest v) : ∀ (l : List (Int × List UInt8)) (m : List (Int × List Wd)), KL l m → LXs (AxX n l ++ rest) ((m.map (·.2)).flatten ++ v)
  | [], [], _ => hr
  | x :: l, y :: m, h => by
    have e : AxX n (x :: l) ++ rest = ind n ++ (x.2 ++ ([10] ++ (AxX n l ++ rest))) := by simp [AxX]
    rw [e, List.map_cons, List.flatten_cons, List.append_assoc];exact ind_blank n (h.2.1.cat (LXs.line (linesL n hr l m h.2.2)) rfl)
  | [], _ :: _, h => h.elim
  | _ :: _, [], h => h.elim
theorem progL : ∀ (l : List (Int × List UInt8)) (m : List (Int × List Wd)), KL l m → LXs ((l.map fun x => x.2 ++ [10]).flatten) ((m.map (·.2)).flatten)
  | [], [], _ => Az6
  | x :: l, y :: m, h => by
    have e : ((x :: l).map fun x => x.2 ++ [10]).flatten = x.2 ++ ([10] ++ (l.map fun x => x.2 ++ [10]).flatten) := by simp
    rw [e, List.map_cons, List.flatten_cons];exact h.2.1.cat (LXs.line (progL l m h.2.2)) rfl
  | [], _ :: _, h => h.elim
  | _ :: _, [], h => h.elim
def IHL (T : Tr) (d : Nat) : Prop := ∀ U ∈ T.kids, ∀ d', d' ≤ d + 1 → LXs (prt U d') (tks U)
theorem Az3 {k : Int} {t : List UInt8} {i : Nat} {U : Tr} {w : List Wd} (h : U.kind < 20) : parW k t i U w = w := by
  unfold parW;have : parV k t i U.kind U.text = false := by simp [parV]; omega
  rw [this]; simp
theorem lx20 {T : Tr} {d : Nat} (hk : T.kind = 20) (hg : Good T d) (ih : IHL T d) : LXs (prt T d) (tks T) := by
  obtain ⟨_, _, _, htx, _⟩ := Aq7 hg.loc;rw [hk] at htx;have hnm : nameB T.text = true := by simpa [Aq5] using htx
  have he : prt T d = T.text := by rw [Aq9]; simp [prts, nodeT, at2, hk]
  have hw : tks T = [(0, T.text)] := by rw [AqH]; simp [tkss, nodeW, atW, hk]
  rw [he, hw];exact (nameL hnm)
theorem lx24 {T : Tr} {d : Nat} (hk : T.kind = 24) (hg : Good T d) (ih : IHL T d) : LXs (prt T d) (tks T) := by
  obtain ⟨_, _, _, htx, _⟩ := Aq7 hg.loc;rw [hk] at htx
  have hnum : numOk T.text = true := by
    have : AxU T.text = true := by simpa [Aq5] using htx
    simp only [AxU, Bool.and_eq_true] at this;exact this.1
  have he : prt T d = T.text := by rw [Aq9]; simp [prts, nodeT, at2, hk]
  have hw : tks T = [(2, T.text)] := by rw [AqH]; simp [tkss, nodeW, atW, hk]
  rw [he, hw];exact (numL hnum)
theorem lx25 {T : Tr} {d : Nat} (hk : T.kind = 25) (hg : Good T d) (ih : IHL T d) : LXs (prt T d) (tks T) := by
  obtain ⟨_, _, _, htx, _⟩ := Aq7 hg.loc;rw [hk] at htx;have he : prt T d = T.text := by rw [Aq9]; simp [nodeT, hk]
  have hw : tks T = [(1, T.text)] := by rw [AqH]; simp [nodeW, hk]
  rw [he, hw];simp [Aq5] at htx;rcases htx with h | h <;> rw [h]
  · exact kwL _
  · exact kwL _
theorem lx21 {T : Tr} {d : Nat} (hk : T.kind = 21) (hg : Good T d) (ih : IHL T d) : LXs (prt T d) (tks T) := by
  obtain ⟨U, V, hks, c0, c1⟩ := inv2 hg.loc hk rfl rfl;simp [kidOk] at c0 c1;have mU : U ∈ T.kids := by rw [hks]; simp
  have mV : V ∈ T.kids := by rw [hks]; simp
  have he : prt T d = (par T.kind T.text 0 U (prt U d) ++ ([91] ++ (par T.kind T.text 1 V (prt V d) ++ ([93] ++ [])))) := by rw [Aq9, hks]; simp [prts, nodeT, at2, hk]
  have hw : tks T = (parW T.kind T.text 0 U (tks U) ++ (symW 91 :: (parW T.kind T.text 1 V (tks V) ++ (symW 93 :: [])))) := by rw [AqH, hks]; simp [tkss, nodeW, atW, hk]
  rw [he, hw];exact ((ih U mU d (by omega)).parL.cat (LXs.s ((ih V mV d (by omega)).parL.cat (LXs.s Az6 93) rfl) 91) rfl)
theorem lx22 {T : Tr} {d : Nat} (hk : T.kind = 22) (hg : Good T d) (ih : IHL T d) : LXs (prt T d) (tks T) := by
  obtain ⟨U, hks, c0⟩ := inv1 hg.loc hk rfl rfl;simp [kidOk] at c0;have mU : U ∈ T.kids := by rw [hks]; simp
  obtain ⟨_, _, _, htx, _⟩ := Aq7 hg.loc;rw [hk] at htx;have hnm : nameB T.text = true := by simpa [Aq5] using htx
  have he : prt T d = (par T.kind T.text 0 U (prt U d) ++ ([46] ++ T.text)) := by rw [Aq9, hks]; simp [prts, nodeT, at2, hk]
  have hw : tks T = (parW T.kind T.text 0 U (tks U) ++ (symW 46 :: [(0, T.text)])) := by rw [AqH, hks]; simp [tkss, nodeW, atW, hk]
  rw [he, hw];exact ((ih U mU d (by omega)).parL.cat (LXs.s (nameL hnm) 46) rfl)
theorem lx23 {T : Tr} {d : Nat} (hk : T.kind = 23) (hg : Good T d) (ih : IHL T d) : LXs (prt T d) (tks T) := by
  obtain ⟨U, hks, c0⟩ := inv1 hg.loc hk rfl rfl;simp [kidOk] at c0;have mU : U ∈ T.kids := by rw [hks]; simp
  have he : prt T d = ([108, 101, 110] ++ ([40] ++ (par T.kind T.text 0 U (prt U d) ++ ([41] ++ [])))) := by rw [Aq9, hks]; simp [prts, nodeT, at2, hk]
  have hw : tks T = ([kwW [108, 101, 110]] ++ (symW 40 :: (parW T.kind T.text 0 U (tks U) ++ (symW 41 :: [])))) := by rw [AqH, hks]; simp [tkss, nodeW, atW, hk]
  rw [he, hw];exact ((kwL [108, 101, 110]).cat (LXs.s ((ih U mU d (by omega)).parL.cat (LXs.s Az6 41) rfl) 40) rfl)
theorem lx26 {T : Tr} {d : Nat} (hk : T.kind = 26) (hg : Good T d) (ih : IHL T d) : LXs (prt T d) (tks T) := by
  have he : prt T d = ([91] ++ (AqM (prts T.kids T.kind T.text 0 d) ++ ([93] ++ []))) := by rw [Aq9]; simp [prts, nodeT, at2, hk]
  have hw : tks T = (symW 91 :: (AxE (tkss T.kids T.kind T.text 0) ++ (symW 93 :: []))) := by rw [AqH]; simp [tkss, nodeW, atW, hk]
  rw [he, hw];exact (LXs.s ((commasL _ _ (kidsL _ _ d T.kids 0 fun U hU => ih U hU d (by omega))).cat (LXs.s Az6 93) rfl) 91)
theorem lx27 {T : Tr} {d : Nat} (hk : T.kind = 27) (hg : Good T d) (ih : IHL T d) : LXs (prt T d) (tks T) := by
  obtain ⟨_, _, _, htx, _⟩ := Aq7 hg.loc;rw [hk] at htx;have hnm : nameB T.text = true := by simpa [Aq5] using htx
  have he : prt T d = (T.text ++ ([40] ++ (AqM (prts T.kids T.kind T.text 0 d) ++ ([41] ++ [])))) := by rw [Aq9]; simp [prts, nodeT, at2, hk]
  have hw : tks T = ([(0, T.text)] ++ (symW 40 :: (AxE (tkss T.kids T.kind T.text 0) ++ (symW 41 :: [])))) := by rw [AqH]; simp [tkss, nodeW, atW, hk]
  rw [he, hw];exact ((nameL hnm).cat (LXs.s ((commasL _ _ (kidsL _ _ d T.kids 0 fun U hU => ih U hU d (by omega))).cat (LXs.s Az6 41) rfl) 40) rfl)
theorem lx28 {T : Tr} {d : Nat} (hk : T.kind = 28) (hg : Good T d) (ih : IHL T d) : LXs (prt T d) (tks T) := by
  obtain ⟨U, hks, c0⟩ := inv1 hg.loc hk rfl rfl;simp [kidOk] at c0;have mU : U ∈ T.kids := by rw [hks]; simp
  obtain ⟨_, _, _, htx, _⟩ := Aq7 hg.loc;rw [hk] at htx;by_cases hn : T.text = [110, 111, 116]
  · have he : prt T d = [110, 111, 116] ++ ([32] ++ par T.kind T.text 0 U (prt U d)) := by rw [Aq9, hks]; simp [prts, nodeT, at2, hk, hn]
    have hw : tks T = [kwW [110, 111, 116]] ++ parW T.kind T.text 0 U (tks U) := by rw [AqH, hks]; simp [tkss, nodeW, atW, hk, hn, kwW]
    rw [he, hw];exact (kwL _).cat (LXs.blank (ih U mU d (by omega)).parL) rfl
  · have ht2 : T.text = [45] := by simpa [Aq5, hn] using htx
    have he : prt T d = [45] ++ par T.kind T.text 0 U (prt U d) := by rw [Aq9, hks]; simp [prts, nodeT, at2, hk, ht2]
    have hw : tks T = symW 45 :: parW T.kind T.text 0 U (tks U) := by rw [AqH, hks]; simp [tkss, nodeW, atW, hk, ht2, symW]
    rw [he, hw];exact LXs.s (ih U mU d (by omega)).parL 45
theorem lx29 {T : Tr} {d : Nat} (hk : T.kind = 29) (hg : Good T d) (ih : IHL T d) : LXs (prt T d) (tks T) := by
  obtain ⟨U, V, hks, c0, c1⟩ := inv2 hg.loc hk rfl rfl;simp [kidOk] at c0 c1;have mU : U ∈ T.kids := by rw [hks]; simp
  have mV : V ∈ T.kids := by rw [hks]; simp
  obtain ⟨_, _, _, htx, _⟩ := Aq7 hg.loc;rw [hk] at htx;have hop : AqZ.contains T.text = true := by simpa [Aq5] using htx
  have he : prt T d = (par T.kind T.text 0 U (prt U d) ++ ([32] ++ (T.text ++ ([32] ++ par T.kind T.text 1 V (prt V d))))) := by rw [Aq9, hks]; simp [prts, nodeT, at2, hk]
  have hw : tks T = (parW T.kind T.text 0 U (tks U) ++ ([opW T.text] ++ parW T.kind T.text 1 V (tks V))) := by rw [AqH, hks]; simp [tkss, nodeW, atW, hk]
  rw [he, hw];exact ((ih U mU d (by omega)).parL.cat (LXs.blank ((opL hop).cat (LXs.blank (ih V mV d (by omega)).parL) rfl)) rfl)
theorem lx19 {T : Tr} {d : Nat} (hk : T.kind = 19) (hg : Good T d) (ih : IHL T d) : LXs (prt T d) (tks T) := by
  obtain ⟨_, _, _, htx, _⟩ := Aq7 hg.loc;rw [hk] at htx;have hnm : nameB T.text = true := by simpa [Aq5] using htx
  have he : prt T d = (T.text ++ ([40] ++ (AqM (prts T.kids T.kind T.text 0 d) ++ ([41] ++ ([59] ++ []))))) := by rw [Aq9]; simp [prts, nodeT, at2, hk]
  have hw : tks T = ([(0, T.text)] ++ (symW 40 :: (AxE (tkss T.kids T.kind T.text 0) ++ (symW 41 :: (symW 59 :: []))))) := by rw [AqH]; simp [tkss, nodeW, atW, hk]
  rw [he, hw];exact ((nameL hnm).cat (LXs.s ((commasL _ _ (kidsL _ _ d T.kids 0 fun U hU => ih U hU d (by omega))).cat (LXs.s (LXs.s Az6 59) 41) rfl) 40) rfl)
theorem lx3 {T : Tr} {d : Nat} (hk : T.kind = 3) (hg : Good T d) (ih : IHL T d) : LXs (prt T d) (tks T) := by
  obtain ⟨_, _, _, htx, _⟩ := Aq7 hg.loc;rw [hk] at htx;have hnm : nameB T.text = true := by simpa [Aq5] using htx
  have he : prt T d = ([114, 101, 99, 111, 114, 100] ++ ([32] ++ (T.text ++ ([32] ++ ([123] ++ ([32] ++ (AqM (prts T.kids T.kind T.text 0 d) ++ ([32] ++ ([125] ++ []))))))))) := by rw [Aq9]; simp [prts, nodeT, at2, hk]
  have hw : tks T = ([kwW [114, 101, 99, 111, 114, 100]] ++ ([(0, T.text)] ++ (symW 123 :: (AxE (tkss T.kids T.kind T.text 0) ++ (symW 125 :: []))))) := by rw [AqH]; simp [tkss, nodeW, atW, hk]
  rw [he, hw];exact ((kwL [114, 101, 99, 111, 114, 100]).cat (LXs.blank ((nameL hnm).cat (LXs.blank (LXs.s (LXs.blank ((commasL _ _ (kidsL _ _ d T.kids 0 fun U hU => ih U hU d (by omega))).cat (LXs.blank (LXs.s Az6 125)) rfl)) 123)) rfl)) rfl)
theorem lx10 {T : Tr} {d : Nat} (hk : T.kind = 10) (hg : Good T d) (ih : IHL T d) : LXs (prt T d) (tks T) := by
  obtain ⟨_, _, _, htx, _⟩ := Aq7 hg.loc;rw [hk] at htx
  have hnum : numOk T.text = true := by
    have : AxU T.text = true := by simpa [Aq5] using htx
    simp only [AxU, Bool.and_eq_true] at this;exact this.1
  have he : prt T d = ([105, 110, 116] ++ ([91] ++ (T.text ++ ([93] ++ [])))) := by rw [Aq9]; simp [prts, nodeT, at2, hk]
  have hw : tks T = ([kwW [105, 110, 116]] ++ (symW 91 :: ([(2, T.text)] ++ (symW 93 :: [])))) := by rw [AqH]; simp [tkss, nodeW, atW, hk]
  rw [he, hw];exact ((kwL [105, 110, 116]).cat (LXs.s ((numL hnum).cat (LXs.s Az6 93) rfl) 91) rfl)
theorem lx9 {T : Tr} {d : Nat} (hk : T.kind = 9) (hg : Good T d) (ih : IHL T d) : LXs (prt T d) (tks T) := by
  obtain ⟨_, _, _, htx, _⟩ := Aq7 hg.loc;rw [hk] at htx;have he : prt T d = T.text := by rw [Aq9]; simp [nodeT, hk]
  have hw : tks T = [(if AxA T.text then 1 else 0, T.text)] := by rw [AqH]; simp [nodeW, hk]
  rw [he, hw];simp [Aq5] at htx;rcases htx with (h | h) | h
  · rw [h]; exact kwL _
  · rw [h]; exact kwL _
  · have hkw : AxA T.text = false := by
      simp only [nameB, Bool.and_eq_true, Bool.not_eq_true'] at h;exact h.1.2
    rw [hkw]; exact nameL h
theorem lx4 {T : Tr} {d : Nat} (hk : T.kind = 4) (hg : Good T d) (ih : IHL T d) : LXs (prt T d) (tks T) := by
  obtain ⟨U, hks, c0⟩ := inv1 hg.loc hk rfl rfl;simp [kidOk] at c0;have mU : U ∈ T.kids := by rw [hks]; simp
  obtain ⟨_, _, _, htx, _⟩ := Aq7 hg.loc;rw [hk] at htx;have hnm : nameB T.text = true := by simpa [Aq5] using htx
  have he : prt T d = (T.text ++ AxK (U.kind, prt U d)) := by rw [Aq9, hks]; simp [prts, nodeT, at2, hk, Ax7 (show U.kind < 20 by omega)]
  have hw : tks T = ([(0, T.text)] ++ AzR (U.kind, tks U)) := by rw [AqH, hks]; simp [tkss, nodeW, atW, hk, Az3 (show U.kind < 20 by omega)]
  rw [he, hw];exact ((nameL hnm).cat (typedL' (ih U mU d (by omega))) (typed_sep' _))
theorem lx7 {T : Tr} {d : Nat} (hk : T.kind = 7) (hg : Good T d) (ih : IHL T d) : LXs (prt T d) (tks T) := by
  obtain ⟨U, hks, c0⟩ := inv1 hg.loc hk rfl rfl;simp [kidOk] at c0;have mU : U ∈ T.kids := by rw [hks]; simp
  obtain ⟨_, _, _, htx, _⟩ := Aq7 hg.loc;rw [hk] at htx;have hnm : nameB T.text = true := by simpa [Aq5] using htx
  have rU := AjI (by simpa using c0)
  have he : prt T d = (T.text ++ AxK (U.kind, prt U d)) := by rw [Aq9, hks]; simp [prts, nodeT, at2, hk, Ax7 (show U.kind < 20 by omega)]
  have hw : tks T = ([(0, T.text)] ++ AzR (U.kind, tks U)) := by rw [AqH, hks]; simp [tkss, nodeW, atW, hk, Az3 (show U.kind < 20 by omega)]
  rw [he, hw];exact ((nameL hnm).cat (typedL' (ih U mU d (by omega))) (typed_sep' _))
theorem lx8 {T : Tr} {d : Nat} (hk : T.kind = 8) (hg : Good T d) (ih : IHL T d) : LXs (prt T d) (tks T) := by
  obtain ⟨U, hks, c0⟩ := inv1 hg.loc hk rfl rfl;simp [kidOk] at c0;have mU : U ∈ T.kids := by rw [hks]; simp
  obtain ⟨_, _, _, htx, _⟩ := Aq7 hg.loc;rw [hk] at htx;have hnm : nameB T.text = true := by simpa [Aq5] using htx
  have rU := AjI (by simpa using c0)
  have he : prt T d = ([118, 97, 114] ++ ([32] ++ (T.text ++ AxK (U.kind, prt U d)))) := by rw [Aq9, hks]; simp [prts, nodeT, at2, hk, Ax7 (show U.kind < 20 by omega)]
  have hw : tks T = ([kwW [118, 97, 114]] ++ ([(0, T.text)] ++ AzR (U.kind, tks U))) := by rw [AqH, hks]; simp [tkss, nodeW, atW, hk, Az3 (show U.kind < 20 by omega)]
  rw [he, hw];exact ((kwL [118, 97, 114]).cat (LXs.blank ((nameL hnm).cat (typedL' (ih U mU d (by omega))) (typed_sep' _))) rfl)
theorem lx12 {T : Tr} {d : Nat} (hk : T.kind = 12) (hg : Good T d) (ih : IHL T d) : LXs (prt T d) (tks T) := by
  obtain ⟨U, V, hks, c0, c1⟩ := inv2 hg.loc hk rfl rfl;simp [kidOk] at c0 c1;have mU : U ∈ T.kids := by rw [hks]; simp
  have mV : V ∈ T.kids := by rw [hks]; simp
  obtain ⟨_, _, _, htx, _⟩ := Aq7 hg.loc;rw [hk] at htx;have hnm : nameB T.text = true := by simpa [Aq5] using htx
  have rU := AjI (by simpa using c0)
  have he : prt T d = ([118, 97, 114] ++ ([32] ++ (T.text ++ (AxK (U.kind, prt U d) ++ ([32] ++ ([61] ++ ([32] ++ (par T.kind T.text 1 V (prt V d) ++ ([59] ++ []))))))))) := by rw [Aq9, hks]; simp [prts, nodeT, at2, hk, Ax7 (show U.kind < 20 by omega)]
  have hw : tks T = ([kwW [118, 97, 114]] ++ ([(0, T.text)] ++ (AzR (U.kind, tks U) ++ ([symW 61] ++ (parW T.kind T.text 1 V (tks V) ++ (symW 59 :: [])))))) := by rw [AqH, hks]; simp [tkss, nodeW, atW, hk, Az3 (show U.kind < 20 by omega)]
  rw [he, hw];exact ((kwL [118, 97, 114]).cat (LXs.blank ((nameL hnm).cat (typedL (ih U mU d (by omega)) (LXs.blank ((oneL 61).cat (LXs.blank ((ih V mV d (by omega)).parL.cat (LXs.s Az6 59) rfl)) rfl)) rfl) (typed_sep _ rfl))) rfl)
theorem lx13 {T : Tr} {d : Nat} (hk : T.kind = 13) (hg : Good T d) (ih : IHL T d) : LXs (prt T d) (tks T) := by
  obtain ⟨U, V, hks, c0, c1⟩ := inv2 hg.loc hk rfl rfl;simp [kidOk] at c0 c1;have mU : U ∈ T.kids := by rw [hks]; simp
  have mV : V ∈ T.kids := by rw [hks]; simp
  have he : prt T d = (par T.kind T.text 0 U (prt U d) ++ ([32] ++ ([61] ++ ([32] ++ (par T.kind T.text 1 V (prt V d) ++ ([59] ++ [])))))) := by rw [Aq9, hks]; simp [prts, nodeT, at2, hk]
  have hw : tks T = (parW T.kind T.text 0 U (tks U) ++ ([symW 61] ++ (parW T.kind T.text 1 V (tks V) ++ (symW 59 :: [])))) := by rw [AqH, hks]; simp [tkss, nodeW, atW, hk]
  rw [he, hw];exact ((ih U mU d (by omega)).parL.cat (LXs.blank ((oneL 61).cat (LXs.blank ((ih V mV d (by omega)).parL.cat (LXs.s Az6 59) rfl)) rfl)) rfl)
theorem lx18 {T : Tr} {d : Nat} (hk : T.kind = 18) (hg : Good T d) (ih : IHL T d) : LXs (prt T d) (tks T) := by
  obtain ⟨U, hks, c0⟩ := inv1 hg.loc hk rfl rfl;simp [kidOk] at c0;have mU : U ∈ T.kids := by rw [hks]; simp
  have he : prt T d = ([97, 115, 115, 101, 114, 116] ++ ([32] ++ (par T.kind T.text 0 U (prt U d) ++ ([59] ++ [])))) := by rw [Aq9, hks]; simp [prts, nodeT, at2, hk]
  have hw : tks T = ([kwW [97, 115, 115, 101, 114, 116]] ++ (parW T.kind T.text 0 U (tks U) ++ (symW 59 :: []))) := by rw [AqH, hks]; simp [tkss, nodeW, atW, hk]
  rw [he, hw];exact ((kwL [97, 115, 115, 101, 114, 116]).cat (LXs.blank ((ih U mU d (by omega)).parL.cat (LXs.s Az6 59) rfl)) rfl)
theorem lx17 {T : Tr} {d : Nat} (hk : T.kind = 17) (hg : Good T d) (ih : IHL T d) : LXs (prt T d) (tks T) := by
  obtain ⟨U, hks, c0⟩ := inv1 hg.loc hk rfl rfl;simp [kidOk] at c0;have mU : U ∈ T.kids := by rw [hks]; simp
  by_cases h0 : U.kind = 0
  · have he : prt T d = [114, 101, 116, 117, 114, 110] ++ ([59] ++ []) := by rw [Aq9, hks]; simp [prts, nodeT, at2, hk, h0]
    have hw : tks T = [kwW [114, 101, 116, 117, 114, 110]] ++ (symW 59 :: []) := by rw [AqH, hks]; simp [tkss, nodeW, atW, hk, h0]
    rw [he, hw];exact (kwL _).cat (LXs.s Az6 59) rfl
  · have he : prt T d = [114, 101, 116, 117, 114, 110] ++ ([32] ++ (par T.kind T.text 0 U (prt U d) ++ ([59] ++ []))) := by rw [Aq9, hks]; simp [prts, nodeT, at2, hk, h0]
    have hw : tks T = [kwW [114, 101, 116, 117, 114, 110]] ++ (parW T.kind T.text 0 U (tks U) ++ (symW 59 :: [])) := by rw [AqH, hks]; simp [tkss, nodeW, atW, hk, h0]
    rw [he, hw];exact (kwL _).cat (LXs.blank ((ih U mU d (by omega)).parL.cat (LXs.s Az6 59) rfl)) rfl
theorem lx15 {T : Tr} {d : Nat} (hk : T.kind = 15) (hg : Good T d) (ih : IHL T d) : LXs (prt T d) (tks T) := by
  obtain ⟨U, V, hks, c0, c1⟩ := inv2 hg.loc hk rfl rfl;simp [kidOk] at c0 c1;have mU : U ∈ T.kids := by rw [hks]; simp
  have mV : V ∈ T.kids := by rw [hks]; simp
  have he : prt T d = ([119, 104, 105, 108, 101] ++ ([32] ++ (par T.kind T.text 0 U (prt U d) ++ ([32] ++ prt V d)))) := by rw [Aq9, hks]; simp [prts, nodeT, at2, hk, Ax7 (show V.kind < 20 by omega)]
  have hw : tks T = ([kwW [119, 104, 105, 108, 101]] ++ (parW T.kind T.text 0 U (tks U) ++ tks V)) := by rw [AqH, hks]; simp [tkss, nodeW, atW, hk, Az3 (show V.kind < 20 by omega)]
  rw [he, hw];exact ((kwL [119, 104, 105, 108, 101]).cat (LXs.blank ((ih U mU d (by omega)).parL.cat (LXs.blank (ih V mV d (by omega))) rfl)) rfl)
theorem lx16 {T : Tr} {d : Nat} (hk : T.kind = 16) (hg : Good T d) (ih : IHL T d) : LXs (prt T d) (tks T) := by
  obtain ⟨U, V, X, hks, c0, c1, c2⟩ := inv3 hg.loc hk rfl rfl;simp [kidOk] at c0 c1 c2;have mU : U ∈ T.kids := by rw [hks]; simp
  have mV : V ∈ T.kids := by rw [hks]; simp
  have mX : X ∈ T.kids := by rw [hks]; simp
  obtain ⟨_, _, _, htx, _⟩ := Aq7 hg.loc;rw [hk] at htx;have hnm : nameB T.text = true := by simpa [Aq5] using htx
  have he : prt T d = ([102, 111, 114] ++ ([32] ++ (T.text ++ ([32] ++ ([61] ++ ([32] ++ (par T.kind T.text 0 U (prt U d) ++ ([32] ++ ([116, 111] ++ ([32] ++ (par T.kind T.text 1 V (prt V d) ++ ([32] ++ prt X d)))))))))))) := by rw [Aq9, hks]; simp [prts, nodeT, at2, hk, Ax7 (show X.kind < 20 by omega)]
  have hw : tks T = ([kwW [102, 111, 114]] ++ ([(0, T.text)] ++ ([symW 61] ++ (parW T.kind T.text 0 U (tks U) ++ ([kwW [116, 111]] ++ (parW T.kind T.text 1 V (tks V) ++ tks X)))))) := by rw [AqH, hks]; simp [tkss, nodeW, atW, hk, Az3 (show X.kind < 20 by omega)]
  rw [he, hw];exact ((kwL [102, 111, 114]).cat (LXs.blank ((nameL hnm).cat (LXs.blank ((oneL 61).cat (LXs.blank ((ih U mU d (by omega)).parL.cat (LXs.blank ((kwL [116, 111]).cat (LXs.blank ((ih V mV d (by omega)).parL.cat (LXs.blank (ih X mX d (by omega))) rfl)) rfl)) rfl)) rfl)) rfl)) rfl)
theorem lx14 {T : Tr} {d : Nat} (hk : T.kind = 14) (hg : Good T d) (ih : IHL T d) : LXs (prt T d) (tks T) := by
  obtain ⟨U, V, X, hks, c0, c1, c2⟩ := inv3 hg.loc hk rfl rfl;simp [kidOk] at c0 c1 c2;have mU : U ∈ T.kids := by rw [hks]; simp
  have mV : V ∈ T.kids := by rw [hks]; simp
  have mX : X ∈ T.kids := by rw [hks]; simp
  have rX : X.kind = 11 ∨ X.kind = 14 ∨ X.kind = 0 := by omega
  by_cases h0 : X.kind = 0
  · have he : prt T d = ([105, 102] ++ ([32] ++ (par T.kind T.text 0 U (prt U d) ++ ([32] ++ prt V d)))) := by rw [Aq9, hks]; simp [prts, nodeT, at2, hk, h0, Ax7 (show V.kind < 20 by omega)]
    have hw : tks T = ([kwW [105, 102]] ++ (parW T.kind T.text 0 U (tks U) ++ tks V)) := by rw [AqH, hks]; simp [tkss, nodeW, atW, hk, h0, Az3 (show V.kind < 20 by omega)]
    rw [he, hw];exact ((kwL [105, 102]).cat (LXs.blank ((ih U mU d (by omega)).parL.cat (LXs.blank (ih V mV d (by omega))) rfl)) rfl)
  · have he : prt T d = ([105, 102] ++ ([32] ++ (par T.kind T.text 0 U (prt U d) ++ ([32] ++ (prt V d ++ ([32] ++ ([101, 108, 115, 101] ++ ([32] ++ prt X d)))))))) := by rw [Aq9, hks]; simp [prts, nodeT, at2, hk, h0, Ax7 (show V.kind < 20 by omega), Ax7 (show X.kind < 20 by omega)]
    have hw : tks T = ([kwW [105, 102]] ++ (parW T.kind T.text 0 U (tks U) ++ (tks V ++ ([kwW [101, 108, 115, 101]] ++ tks X)))) := by rw [AqH, hks]; simp [tkss, nodeW, atW, hk, h0, Az3 (show V.kind < 20 by omega), Az3 (show X.kind < 20 by omega)]
    rw [he, hw];exact ((kwL [105, 102]).cat (LXs.blank ((ih U mU d (by omega)).parL.cat (LXs.blank ((ih V mV d (by omega)).cat (LXs.blank ((kwL [101, 108, 115, 101]).cat (LXs.blank (ih X mX d (by omega))) rfl)) rfl)) rfl)) rfl)
theorem lx11 {T : Tr} {d : Nat} (hk : T.kind = 11) (hg : Good T d) (ih : IHL T d) : LXs (prt T d) (tks T) := by
  have he : prt T d = [123] ++ ([10] ++ (AxX (d + 1) (prts T.kids T.kind T.text 0 (d + 1)) ++ (ind d ++ ([125] ++ [])))) := by rw [Aq9]; simp [nodeT, hk]
  have hw : tks T = symW 123 :: (((tkss T.kids T.kind T.text 0).map (·.2)).flatten ++ (symW 125 :: [])) := by rw [AqH]; simp [nodeW, hk]
  rw [he, hw];exact LXs.s (LXs.line (linesL (d + 1) (ind_blank d (LXs.s Az6 125)) _ _ (kidsL _ _ (d + 1) T.kids 0 fun U hU => ih U hU (d + 1) (by omega)))) 123
theorem lx6 {T : Tr} {d : Nat} (hk : T.kind = 6) (hg : Good T d) (ih : IHL T d) : LXs (prt T d) (tks T) := by
  have he : prt T d = AqM (prts T.kids T.kind T.text 0 d) := by rw [Aq9]; simp [prts, nodeT, at2, hk]
  have hw : tks T = AxE (tkss T.kids T.kind T.text 0) := by rw [AqH]; simp [tkss, nodeW, atW, hk]
  rw [he, hw];exact (commasL _ _ (kidsL _ _ d T.kids 0 fun U hU => ih U hU d (by omega)))
theorem lx5 {T : Tr} {d : Nat} (hk : T.kind = 5) (hg : Good T d) (ih : IHL T d) : LXs (prt T d) (tks T) := by
  obtain ⟨U, V, X, hks, c0, c1, c2⟩ := inv3 hg.loc hk rfl rfl;simp [kidOk] at c0 c1 c2;have mU : U ∈ T.kids := by rw [hks]; simp
  have mV : V ∈ T.kids := by rw [hks]; simp
  have mX : X ∈ T.kids := by rw [hks]; simp
  obtain ⟨_, _, _, htx, _⟩ := Aq7 hg.loc;rw [hk] at htx;have hnm : nameB T.text = true := by simpa [Aq5] using htx
  have rV := AjI (by simpa using c1)
  have he : prt T d = ([112, 114, 111, 99] ++ ([32] ++ (T.text ++ ([40] ++ (prt U d ++ ([41] ++ (AxK (V.kind, prt V d) ++ ([32] ++ prt X d)))))))) := by rw [Aq9, hks]; simp [prts, nodeT, at2, hk, Ax7 (show U.kind < 20 by omega), Ax7 (show V.kind < 20 by omega), Ax7 (show X.kind < 20 by omega)]
  have hw : tks T = ([kwW [112, 114, 111, 99]] ++ ([(0, T.text)] ++ (symW 40 :: (tks U ++ (symW 41 :: (AzR (V.kind, tks V) ++ tks X)))))) := by rw [AqH, hks]; simp [tkss, nodeW, atW, hk, Az3 (show U.kind < 20 by omega), Az3 (show V.kind < 20 by omega), Az3 (show X.kind < 20 by omega)]
  rw [he, hw];exact ((kwL [112, 114, 111, 99]).cat (LXs.blank ((nameL hnm).cat (LXs.s ((ih U mU d (by omega)).cat (LXs.s (typedL (ih V mV d (by omega)) (LXs.blank (ih X mX d (by omega))) rfl) 41) rfl) 40) rfl)) rfl)
theorem lx2 {T : Tr} {d : Nat} (hk : T.kind = 2) (hg : Good T d) (ih : IHL T d) : LXs (prt T d) (tks T) := by
  have he : prt T d = ((prts T.kids T.kind T.text 0 d).map fun x => x.2 ++ [10]).flatten := by rw [Aq9]; simp [nodeT, hk]
  have hw : tks T = ((tkss T.kids T.kind T.text 0).map (·.2)).flatten := by rw [AqH]; simp [nodeW, hk]
  rw [he, hw];exact progL _ _ (kidsL _ _ d T.kids 0 fun U hU => ih U hU d (by omega))
theorem lx0 {T : Tr} {d : Nat} (hk : T.kind = 0) (hg : Good T d) (ih : IHL T d) : LXs (prt T d) (tks T) := by
  obtain ⟨_, _, _, htx, _⟩ := Aq7 hg.loc;rw [hk] at htx;have ht : T.text = [] := by simpa [Aq5] using htx
  have he : prt T d = [] := by rw [Aq9]; simp [nodeT, hk, ht]
  have hw : tks T = [] := by rw [AqH]; simp [nodeW, hk]
  rw [he, hw]; exact Az6
theorem lxs_prt : ∀ (n : Nat) (T : Tr) (d : Nat), T.pre.length ≤ n → Good T d → LXs (prt T d) (tks T)
  | 0, T, d, h, _ => by obtain ⟨k, t, a, e, n, ks⟩ := T; simp [Tr.pre] at h
  | n + 1, T, d, h, hg => by
    have ih : IHL T d := fun U hU d' hd => lxs_prt n U d' (by have := AzX T U hU; omega) (hg.kid hU d' hd)
    obtain ⟨h0, h29, h1, _⟩ := Aq7 hg.loc;rcases kinds30 h0 h29 with hk | hk | hk | hk | hk | hk | hk | hk | hk | hk | hk | hk | hk | hk | hk | hk | hk | hk | hk | hk | hk | hk | hk | hk | hk | hk | hk | hk | hk | hk
    · exact lx0 hk hg ih
    · exact absurd hk h1
    · exact lx2 hk hg ih
    · exact lx3 hk hg ih
    · exact lx4 hk hg ih
    · exact lx5 hk hg ih
    · exact lx6 hk hg ih
    · exact lx7 hk hg ih
    · exact lx8 hk hg ih
    · exact lx9 hk hg ih
    · exact lx10 hk hg ih
    · exact lx11 hk hg ih
    · exact lx12 hk hg ih
    · exact lx13 hk hg ih
    · exact lx14 hk hg ih
    · exact lx15 hk hg ih
    · exact lx16 hk hg ih
    · exact lx17 hk hg ih
    · exact lx18 hk hg ih
    · exact lx19 hk hg ih
    · exact lx20 hk hg ih
    · exact lx21 hk hg ih
    · exact lx22 hk hg ih
    · exact lx23 hk hg ih
    · exact lx24 hk hg ih
    · exact lx25 hk hg ih
    · exact lx26 hk hg ih
    · exact lx27 hk hg ih
    · exact lx28 hk hg ih
    · exact lx29 hk hg ih
end Go.Abs.Z

namespace Go.Abs.Z
open Go.Proofs Go.RowKit
structure Tk where
  k : Nat
  f : Nat
  a : Nat
  e : Nat
def Tk.pv (t : Tk) : PV := .agg [N t.k, N t.f, N t.a, N t.e]
structure Dg where
  c : Nat
  a : Nat
  e : Nat
  t : List UInt8
def Dg.pv (d : Dg) : PV := .agg [N d.c, N d.a, N d.e, .str d.t, .nils]
def pc (s : List UInt8) (ls : List Tk) (k last : Nat) (D : List PV) : List PV := [.str s, .slice true 4 (ls.map Tk.pv), N k, N last, accP 5 D]
section
variable (s : List UInt8) (ls : List Tk) (k last : Nat) (D : List PV)
theorem AxO {o : Bool} {s : Nat} {ts : List Tk} {t : Tk} (j : Nat) (h : ts[j]? = some t) : semP (.idx s) [.slice o s (ts.map Tk.pv), .int .i64 (j : Nat)] = some [some (.vptr t.pv)] := p_idx _ _ _ _ _ (by rw [List.getElem?_map, h]; rfl)
theorem len_tks (o : Bool) (s : Nat) (ts : List Tk) : semP (.len false) [.slice o s (ts.map Tk.pv)] = some [some (.int .i64 (ts.length : Nat))] := by
  show some [some (PV.int .i64 ((ts.map Tk.pv).length : Nat))] = _;rw [List.length_map]
theorem Aj5 (T : Tr) : semP (.ldl 0 5 true) [T.pv] = some [some T.pv] := by
  rw [Tr.pv_nd];show (sub (nd T.kind T.text T.st T.en T.kp) 0 5 true).map _ = _;have hk := T.kp_ok
  have : sub (nd T.kind T.text T.st T.en T.kp) 0 5 true = some (nd T.kind T.text T.st T.en T.kp) := by
    show (if _ then _ else _) = _
    rw [if_pos]
    · rfl
    · refine ⟨Nat.le_refl 5, ?_⟩
      show (false || (false || (false || (false || (T.kp.isSelf || false))))) = false
      rw [hk.2.2]; rfl
  rw [this, Option.map_some, nd_disown hk]
theorem ld_D : semR (.ld 1 false) [.ref 0 4] [pc s ls k last D] = some [some (accD 5 D)] := by cases D <;> rfl
theorem stK (k' : Nat) : OpEv pur run (.w (.st 1)) [.ref 0 2, N k'] [pc s ls k last D] [] [pc s ls k' last D] := ⟨0, fun n _ => by cases D <;> rfl⟩
theorem stL (last' : Nat) : OpEv pur run (.w (.st 1)) [.ref 0 3, N last'] [pc s ls k last D] [] [pc s ls k last' D] := ⟨0, fun n _ => by cases D <;> rfl⟩
theorem pvs_snoc (ts : List Tr) (U : Tr) : Tr.pvs (ts ++ [U]) = Tr.pvs ts ++ [U.pv] := by rw [Tr.AzU, Tr.AzU, List.map_append]; rfl
theorem app_trs {ts : List Tr} (o : Bool) (U : Tr) (h : ts.length + 1 ≤ Ax1) : semP (.app 5) [.slice true 5 (Tr.pvs ts), .slice o 5 [U.pv]] = some [some (.slice true 5 (Tr.pvs (ts ++ [U]))), some (.slice false 5 (Tr.pvs ts))] := by
  rw [pvs_snoc];exact app_lit (by rw [Tr.AzU, List.length_map]; exact h) rfl (by simp)
theorem ref_disown (a b : Nat) : (PV.ref a b).Aq0 = .ref a b := rfl
theorem ref_free (a b : Nat) : (PV.ref a b).free = true := rfl
theorem tk_disown (t : Tk) : t.pv.Aq0 = t.pv := rfl
theorem tk_free (t : Tk) : t.pv.free = true := rfl
theorem tk_flat (t : Tk) : t.pv.flat = true := rfl
theorem tk_ones (t : Tk) : t.pv.ones = true := rfl
theorem nils_one : PV.nils.one = true := rfl
attribute [simp] ref_disown ref_free tk_disown tk_free tk_flat tk_ones nils_one
theorem e29_1 : E 151 [I 1] [] (.slice false 1 [.str [111, 114]]) [] := ev_at 1 fun m _ => run29 m 1 (by simp)
theorem e29_2 : E 151 [I 2] [] (.slice false 1 [.str [97, 110, 100]]) [] := ev_at 1 fun m _ => run29 m 2 (by simp)
theorem e29_4 : E 151 [I 4] [] (.slice false 1 [.str [61, 61], .str [33, 61], .str [60], .str [60, 61], .str [62], .str [62, 61]]) [] := ev_at 1 fun m _ => run29 m 4 (by simp)
theorem e29_5 : E 151 [I 5] [] (.slice false 1 [.str [43], .str [45]]) [] := ev_at 1 fun m _ => run29 m 5 (by simp)
theorem e29_6 : E 151 [I 6] [] (.slice false 1 [.str [42], .str [47], .str [37]]) [] := ev_at 1 fun m _ => run29 m 6 (by simp)
theorem app_tks {ts : List Tk} (o : Bool) (t : Tk) (h : ts.length + 1 ≤ Ax1) : semP (.app 4) [.slice true 4 (ts.map Tk.pv), .slice o 4 [t.pv]] = some [some (.slice true 4 ((ts ++ [t]).map Tk.pv)), some (.slice false 4 (ts.map Tk.pv))] := by
  rw [List.map_append];exact app_lit (by rw [List.length_map]; exact h) rfl rfl
theorem ldoT (D : List PV) : OpEv pur run (.w .ldo) [.ref 0 1] [[.str s, accP 4 D, I 0, I 0, .nils]] [some (accP 4 D)] [[.str s, accD 4 D, I 0, I 0, .nils]] := ⟨0, fun n _ => by cases D <;> rfl⟩
theorem stoT (D D' : List PV) : OpEv pur run (.w .sto) [.ref 0 1, accP 4 D'] [[.str s, accD 4 D, I 0, I 0, .nils]] [some (accD 4 D')] [[.str s, accP 4 D', I 0, I 0, .nils]] := ⟨0, fun n _ => by cases D <;> cases D' <;> rfl⟩
theorem oW {f : FuncId} {xs : List PV} {σ σ' : Sto} {r : PV} (h : E f xs σ r σ') (hp : pur f = false := by rfl) (hs : xs.map PV.Aq0 = xs ∧ xs.all PV.free = true ∧ r.Aq0 = r := by first | exact ⟨rfl, rfl, rfl⟩ | simp) : OpEv pur run (.w (.call f)) xs σ [some r] σ' := op_wc h hp hs.1 hs.2.1 hs.2.2
end
abbrev r0 : PV := .ref 0 0
abbrev Z0 : PV := .agg [(I 0), (.str []), (I 0), (I 0), .nils]
abbrev H39 (x : Sto) (m : Nat) : Prop := E 44 [r0] x (N m) x
abbrev Hb (f : FuncId) (w : List UInt8) (x : Sto) (b : Bool) (y : Sto) : Prop := E f [r0, .str w] x (.bool b) y
abbrev Hs (f : FuncId) (x : Sto) (w : List UInt8) (y : Sto) : Prop := E f [r0] x (.str w) y
abbrev Hx (n : Int) (x : Sto) (U : Tr) (y : Sto) : Prop := E 54 [r0, I n] x U.pv y
abbrev Ht (f : FuncId) (x : Sto) (U : Tr) (y : Sto) : Prop := E f [r0] x U.pv y
abbrev Hn (j : Nat) (k : Int) (w : List UInt8) (ks : PV) (x : Sto) (U : Tr) : Prop := E 50 [r0, N j, I k, .str w, ks] x U.pv x
theorem bs0 (q : Sto) : OpEv pur run (.p (.bsl 5)) [] q [some (.slice true 5 [])] q := op_p (bsl_of (by simp) (by simp))
theorem bs1 (q : Sto) (U : Tr) : OpEv pur run (.p (.bsl 5)) [U.pv] q [some (.slice true 5 [U.pv])] q := op_p (bsl_of (by simp) (by simp))
theorem bs2 (q : Sto) (U V : Tr) : OpEv pur run (.p (.bsl 5)) [U.pv, V.pv] q [some (.slice true 5 [U.pv, V.pv])] q := op_p (bsl_of (by simp) (by simp))
theorem bs3 (q : Sto) (U V W : Tr) : OpEv pur run (.p (.bsl 5)) [U.pv, V.pv, W.pv] q [some (.slice true 5 [U.pv, V.pv, W.pv])] q := op_p (bsl_of (by simp) (by simp))
theorem wn {j : Nat} {k : Int} {w : List UInt8} {xs : List PV} {q : Sto} {U : Tr} (h : Hn j k w (.slice false 5 xs) q U) : OpEv pur run (.w (.call 50)) [r0, N j, I k, .str w, .slice true 5 xs] q [some U.pv] q := op_wc h (by rfl) (by rfl) (by rfl) (by simp)
theorem zl (q : Sto) (U : Tr) : OpEv pur run (.p (.stl 0 5)) [Z0, U.pv] q [some U.pv] q := PS q (stl_lit (I 0) (.str []) (I 0) (I 0) .nils U)
theorem rz (U : Tr) : (resK [(2, some U.pv)] [(2, some 5)]).bind packR = some U.pv := by simp [AzJ, packR]
end Go.Abs.Z
