/- A part of the proof: D1 D2 D3 D4 D5 D6 D7. -/
import Derived.Test.YtfahhgdeociahaaGreatDoorGa
import Derived.Test.YtfahhgdeociahaaGreatDoorWa

set_option linter.unusedVariables false
set_option linter.unusedSimpArgs false
namespace Go.Abs.Z
abbrev Wd := Nat × List UInt8
inductive AT where
  | mk (kd : Nat) (tx : List UInt8) (f k : Nat) (b : Bool) (ks : List AT)
  deriving Inhabited
structure AD where
  c : Nat
  i : Nat
  t : List UInt8
inductive El where
  | fd | pa | ex
inductive NT where
  | ex (L : Nat)
  | lp (L f : Nat) (x : AT)
  | tl (e : El) (acc : List AT)
  | bk | sts (acc : List AT) | st | br | sk (f : Nat) | sp | pg (acc : List AT)
abbrev Rs := AT × List AT
inductive Pg where
  | ret (v : Rs)
  | look (f : Wd → Wd → Nat → Pg)
  | read (p : Pg)
  | report (c : Nat) (t : List UInt8) (p : Pg)
  | call (x : NT) (f : Rs → Pg)
abbrev wRec : List UInt8 := [114, 101, 99, 111, 114, 100]
abbrev wProc : List UInt8 := [112, 114, 111, 99]
abbrev wVar : List UInt8 := [118, 97, 114]
abbrev wIf : List UInt8 := [105, 102]
abbrev wElse : List UInt8 := [101, 108, 115, 101]
abbrev AwJ : List UInt8 := [119, 104, 105, 108, 101]
abbrev wFor : List UInt8 := [102, 111, 114]
abbrev wTo : List UInt8 := [116, 111]
abbrev AxZ : List UInt8 := [114, 101, 116, 117, 114, 110]
abbrev AjD : List UInt8 := [97, 115, 115, 101, 114, 116]
abbrev wAnd : List UInt8 := [97, 110, 100]
abbrev wOr : List UInt8 := [111, 114]
abbrev wNot : List UInt8 := [110, 111, 116]
abbrev wTrue : List UInt8 := [116, 114, 117, 101]
abbrev BqT : List UInt8 := [102, 97, 108, 115, 101]
abbrev wInt : List UInt8 := [105, 110, 116]
abbrev wBool : List UInt8 := [98, 111, 111, 108]
abbrev wLen : List UInt8 := [108, 101, 110]
abbrev wName : List UInt8 := [110, 97, 109, 101]
abbrev wNumber : List UInt8 := [110, 117, 109, 98, 101, 114]
abbrev wType : List UInt8 := [116, 121, 112, 101]
abbrev wEnd : List UInt8 := [101, 110, 100]
def dgt (x : List UInt8) : List UInt8 := let y := x.dropWhile (· == 48); if y = [] ∧ x ≠ [] then [48] else y
namespace Pg
def ifW (ws : List (List UInt8)) (p q : Pg) : Pg := .look fun a _ _ => if ws.contains a.2 then p else q
def ifK (k : Nat) (p q : Pg) : Pg := .look fun a _ _ => if a.1 = k then p else q
def mrk (g : Nat → Pg) : Pg := .look fun _ _ k => g k
def xp (x : List UInt8) (p : Pg) : Pg := ifW [x] (.read p) (.report 4 x p)
def rd (g : List UInt8 → Pg) : Pg := .look fun a _ _ => .read (g a.2)
def nm (g : List UInt8 → Pg) : Pg := ifK 0 (rd g) (.report 4 wName (g []))
def num (g : List UInt8 → Pg) : Pg := ifK 2 (rd fun x => g (dgt x)) (.report 4 wNumber (g []))
def bd (kd : Nat) (tx : List UInt8) (f : Nat) (b : Bool) (ks : List AT) (g : AT → Pg) : Pg := .look fun _ _ k => g (.mk kd tx f k b ks)
def nod (kd : Nat) (tx : List UInt8) (f : Nat) (ks : List AT) : Pg := bd kd tx f true ks fun x => .ret (x, [])
def cl (x : NT) (g : AT → Pg) : Pg := .call x fun r => g r.1
def lst (x : NT) : Pg := .call x .ret
def nop (g : AT → Pg) : Pg := mrk fun f => bd 0 [] f false [] g
def miss (g : AT → Pg) : Pg := mrk fun f => bd 1 [] f false [] g
end Pg
open Pg
def written (g : AT → Pg) : Pg := ifW [[58]] (.read (mrk fun f =>
    ifW [wInt] (.read (ifW [[91]] (.read (num fun n => xp [93] (bd 10 n f false [] g))) (bd 9 wInt f false [] g)))
      (ifW [wBool] (.read (bd 9 wBool f false [] g)) (ifK 0 (rd fun x => bd 9 x f false [] g) (.report 4 wType (miss g))))))
  (nop g)
def AvZ (g : AT → Pg) : Pg := mrk fun f => nm fun x => xp [58] (ifW [wInt, wBool] (mrk fun f2 => rd fun t => bd 9 t f2 false [] fun y => bd 4 x f false [y] g)
  (.report 4 wType (miss fun y => bd 4 x f false [y] g)))
def AvN (g : AT → Pg) : Pg := mrk fun f => ifW [wVar] (.read (nm fun x => written fun t => bd 8 x f false [t] g)) (nm fun x => written fun t => bd 7 x f false [t] g)
def elemP : El → (AT → Pg) → Pg
  | .fd => AvZ
  | .pa => AvN
  | .ex => cl (.ex 1)
def listP (e : El) (g : List AT → Pg) : Pg := elemP e fun x => .call (.tl e [x]) fun r => g r.2
def AwX (g : AT → Pg) : Pg := mrk fun f => .read (nm fun x => xp [123] (listP .fd fun l => xp [125] (bd 3 x f false l g)))
def AvB (g : AT → Pg) : Pg := mrk fun f => xp [40] (ifW [[41]] (xp [41] (bd 6 [] f true [] g)) (listP .pa fun l => xp [41] (bd 6 [] f true l g)))
def procP (g : AT → Pg) : Pg := mrk fun f => .read (nm fun x => AvB fun a => written fun t => cl .bk fun b => bd 5 x f false [a, t, b] g)
def argsP (g : List AT → Pg) : Pg := .read (ifW [[41]] (xp [41] (g [])) (listP .ex fun l => xp [41] (g l)))
def AxT (g : AT → Pg) : Pg := mrk fun f => nm fun x => bd 20 x f false [] g
def Bq1 (g : AT → Pg) : Pg := mrk fun f => AxT fun v => ifW [[91]] (.read (cl (.ex 1) fun y => xp [93] (bd 21 [] f false [v, y] g)))
  (ifW [[46]] (.read (nm fun x => bd 22 x f false [v] g)) (g v))
def opL : Nat → List (List UInt8)
  | 1 => [wOr]
  | 2 => [wAnd]
  | 4 => [[61, 61], [33, 61], [60], [60, 61], [62], [62, 61]]
  | 5 => [[43], [45]]
  | 6 => [[42], [47], [37]]
  | _ => []
def lv4P : Pg := mrk fun f => cl (.ex 5) fun x => ifW (opL 4) (rd fun o => cl (.ex 5) fun y => nod 29 o f [x, y]) (.ret (x, []))
def primP : Pg := mrk fun f =>
  ifK 2 (rd fun x => nod 24 (dgt x) f [])
  (ifW [wTrue, BqT] (rd fun x => nod 25 x f [])
  (.look fun a b _ => if a.1 = 0 ∧ b.2 = [40] then rd fun x => argsP fun l => nod 27 x f l
    else if a.1 = 0 then Bq1 fun x => .ret (x, [])
    else ifW [[91]] (.read (listP .ex fun l => xp [93] (nod 26 [] f l)))
      (ifW [wLen] (.read (xp [40] (AxT fun v => xp [41] (nod 23 [] f [v]))))
      (ifW [[40]] (.read (cl (.ex 1) fun x => xp [41] (.ret (x, []))))
      (.report 5 [] (miss fun x => .ret (x, [])))))))
def svP : Pg := mrk fun f => .read (nm fun x => written fun t => xp [61] (cl (.ex 1) fun v => xp [59] (nod 12 x f [t, v])))
def whileP : Pg := mrk fun f => .read (cl (.ex 1) fun c => cl .bk fun b => nod 15 [] f [c, b])
def forP : Pg := mrk fun f => .read (nm fun x => xp [61] (cl (.ex 1) fun a => xp wTo (cl (.ex 1) fun c => cl .bk fun b => nod 16 x f [a, c, b])))
def begW : List (List UInt8) := [wTrue, BqT, wNot, wLen, [45], [40], [91]]
def begE (a : Wd) : Bool := a.1 == 0 || a.1 == 2 || begW.contains a.2
def returnP : Pg := mrk fun f => .read (.look fun a _ _ => if begE a then cl (.ex 1) fun x => xp [59] (nod 17 [] f [x]) else nop fun x => xp [59] (nod 17 [] f [x]))
def assertP : Pg := mrk fun f => .read (cl (.ex 1) fun x => xp [59] (nod 18 [] f [x]))
def simpleP : Pg := mrk fun f => .look fun _ b _ => if b.2 = [40] then rd fun x => argsP fun l => xp [59] (nod 19 x f l)
  else Bq1 fun x => xp [61] (cl (.ex 1) fun y => xp [59] (nod 13 [] f [x, y]))
def stopW : List (List UInt8) := [[125], wProc, wRec]
def stopsW : List (List UInt8) := [[125], wProc, wRec, wVar, wIf, AwJ, wFor, AxZ, AjD]
def prog : NT → Pg
  | .ex 3 => mrk fun f => ifW [wNot] (.read (cl (.ex 3) fun x => nod 28 wNot f [x])) lv4P
  | .ex 7 => mrk fun f => ifW [[45]] (.read (cl (.ex 7) fun x => nod 28 [45] f [x])) primP
  | .ex L => mrk fun f => cl (.ex (L + 1)) fun x => lst (.lp L f x)
  | .lp L f x => ifW (opL L) (rd fun o => cl (.ex (L + 1)) fun y => bd 29 o f false [x, y] fun z => lst (.lp L f z)) (.ret (x, []))
  | .tl e acc => ifW [[44]] (.read (elemP e fun x => lst (.tl e (acc ++ [x])))) (.ret (default, acc))
  | .bk => mrk fun f => ifW [[123]] (.read (.call (.sts []) fun r => xp [125] (nod 11 [] f r.2))) (.report 4 [123] (bd 11 [] f false [] fun x => .ret (x, [])))
  | .sts acc => ifW stopW (.ret (default, acc)) (ifK 5 (.ret (default, acc)) (cl .st fun x => lst (.sts (acc ++ [x]))))
  | .st => ifW [wVar] svP (ifW [wIf] (lst .br) (ifW [AwJ] whileP (ifW [wFor] forP (ifW [AxZ] returnP (ifW [AjD] assertP (ifK 0 simpleP
      (.report 6 [] (mrk fun f => .call (.sk f) fun _ => nod 1 [] f []))))))))
  | .br => mrk fun f => .read (cl (.ex 1) fun c => cl .bk fun b => ifW [wElse] (.read (ifW [wIf] (cl .br fun o => nod 14 [] f [c, b, o]) (cl .bk fun o => nod 14 [] f [c, b, o])))
      (nop fun o => nod 14 [] f [c, b, o]))
  | .sk f => ifK 5 (.ret default) (mrk fun k => if k = f then ifW stopW (.ret default) (rd fun x => if x = [59] then .ret default else lst (.sk f))
      else ifW stopsW (.ret default) (rd fun x => if x = [59] then .ret default else lst (.sk f)))
  | .sp => ifK 5 (.ret default) (ifW [wProc, wRec] (.ret default) (.read (lst .sp)))
  | .pg acc => ifK 5 (.ret (default, acc)) (ifW [wRec] (AwX fun x => lst (.pg (acc ++ [x]))) (ifW [wProc] (procP fun x => lst (.pg (acc ++ [x])))
      (.report 7 [] (mrk fun f => .read (.call .sp fun _ => bd 1 [] f false [] fun x => lst (.pg (acc ++ [x])))))))
def rp (D : List AD) (c k : Nat) (t : List UInt8) : List AD := if D.getLast?.map AD.i = some k then D else D ++ [⟨c, k, t⟩]
abbrev Ans3 := Option (Rs × Nat × List AD)
section
variable (w : Nat → Wd)
def runP (c : NT → Nat → List AD → Ans3) : Pg → Nat → List AD → Ans3
  | .ret v, k, D => some (v, k, D)
  | .look f, k, D => runP c (f (w k) (w (k + 1)) k) k D
  | .read p, k, D => if (w k).1 = 5 then none else runP c p (k + 1) D
  | .report e t p, k, D => runP c p k (rp D e k t)
  | .call x f, k, D => (c x k D).bind fun r => runP c (f r.1) r.2.1 r.2.2
def runN : Nat → NT → Nat → List AD → Ans3
  | 0, _, _, _ => none
  | n + 1, x, k, D => runP w (runN n) (prog x) k D
end
end Go.Abs.Z

namespace Go.Abs.Z
open Go.Proofs Go.RowKit
def wd (s : List UInt8) (t : Tk) : List UInt8 := (s.drop t.a).take (t.e - t.a)
def wAt (s : List UInt8) (ls : List Tk) (k : Nat) : Wd := match ls[k]? with | some t => (t.k, wd s t) | none => (5, [])
def tA (ls : List Tk) (k : Nat) : Nat := match ls[k]? with | some t => t.a | none => 0
def tE (ls : List Tk) (k : Nat) : Nat := match ls[k]? with | some t => t.e | none => 0
def en (ls : List Tk) : Nat → Nat
  | 0 => 0
  | k + 1 => tE ls k
def spW : List (List UInt8) := [wRec, wProc, wVar, wIf, wElse, AwJ, wFor, wTo, AxZ, AjD, wAnd, wOr, wNot, wTrue, BqT, wInt, wBool, wLen,
  [61, 61], [33, 61], [60], [60, 61], [62], [62, 61], [43], [45], [42], [47], [37], [40], [41], [123], [125], [91], [93], [44], [59], [58], [46], [61]]
def begK : List (List UInt8) := [wVar, wIf, AwJ, wFor, AxZ, AjD]
structure Toks (s : List UInt8) (ls : List Tk) (m : Nat) : Prop where
  len : ls.length = m + 1
  big : m < 1000000
  small : s.length < 1000000
  fin : ∃ t, ls[m]? = some t ∧ t.k = 5 ∧ t.e = t.a
  ord : ∀ (k : Nat) (t : Tk), ls[k]? = some t → t.a ≤ t.e ∧ t.e ≤ s.length
  inc : ∀ (i j : Nat) (t u : Tk), ls[i]? = some t → ls[j]? = some u → i < j → t.a < u.a ∧ t.e ≤ u.a
  kd : ∀ (k : Nat) (t : Tk), ls[k]? = some t → k < m → t.k < 4
  sp : ∀ (k : Nat) (t : Tk), ls[k]? = some t → spW.contains (wd s t) = true → t.k = 1 ∨ t.k = 3
  par : ∀ (k : Nat) (t : Tk), ls[k]? = some t → wd s t = [40] → t.k = 3
  kw : ∀ (k : Nat) (t : Tk), ls[k]? = some t → begK.contains (wd s t) = true → t.k = 1
def wrP (q : Nat) (D : List AD) : PV := match D with | [] => .nils | d :: D => .arr q D.length 0 (D.length + 1) 5
def bfP (ls : List Tk) (D : List AD) : Int := match D.getLast? with | none => -1 | some d => (tA ls d.i : Nat)
def dgp (ls : List Tk) (d : AD) : PV := (Dg.mk d.c (tA ls d.i) (tE ls d.i) d.t).pv
def arS (ls : List Tk) (D : List AD) : Sto := match D with | [] => [] | d :: D => [[.arrv D.length 5 ((d :: D).map (dgp ls))]]
def PS4 (s : List UInt8) (ls : List Tk) (B : Sto) (k : Nat) (D : List AD) : Sto := pc s ls k (en ls k) (wrP (B.length + 1) D) (bfP ls D) :: (B ++ arS ls D)
section
variable {s : List UInt8} {ls : List Tk} {m : Nat}
theorem Toks.at (H : Toks s ls m) {k : Nat} (h : k ≤ m) : ∃ t, ls[k]? = some t := ⟨_, List.getElem?_eq_getElem (by rw [H.len]; omega)⟩
theorem Ak7 {k : Nat} {t : Tk} (h : ls[k]? = some t) : wAt s ls k = (t.k, wd s t) := by simp [wAt, h]
theorem tA_eq {k : Nat} {t : Tk} (h : ls[k]? = some t) : tA ls k = t.a := by simp [tA, h]
theorem tE_eq {k : Nat} {t : Tk} (h : ls[k]? = some t) : tE ls k = t.e := by simp [tE, h]
theorem Toks.end' (H : Toks s ls m) : wAt s ls m = (5, []) := by
  obtain ⟨t, h1, h2, h3⟩ := H.fin;rw [Ak7 h1, h2]; simp [wd, h3]
theorem Toks.lt (H : Toks s ls m) {k : Nat} (h : k ≤ m) (h5 : (wAt s ls k).1 ≠ 5) : k < m := by
  rcases Nat.lt_or_ge k m with h' | h'
  · exact h'
  · have : k = m := by omega
    subst this; rw [H.end'] at h5; exact absurd rfl h5
theorem wr_self (q : Nat) (D : List AD) : (wrP q D).isSelf = false := by cases D <;> rfl
theorem p137 (ws : List (List UInt8)) (x : List UInt8) (hl : ws.length < 1000) : ∀ (n j : Nat), j + n = ws.length → (∀ i, i < j → ws[i]? ≠ some x) →
    (∃ i, LE AvR AvW [(0, some (.slice false 1 (ws.map PV.str))), (1, some (.str x)), (7, some (N ws.length)), (8, some (N j))] [] .ret [(4, some (N i))] [] ∧ ws.contains x = true) ∨
    (LE AvR AvW [(0, some (.slice false 1 (ws.map PV.str))), (1, some (.str x)), (7, some (N ws.length)), (8, some (N j))] [] (.exit 0) [(0, some (.slice false 1 (ws.map PV.str)))] [] ∧ ws.contains x = false) := by
  intro n
  induction n with
  | zero =>
    intro j hj h;refine .inr ⟨r137_l0_out1 (by omega), ?_⟩
    rw [← Bool.not_eq_true, List.contains_iff_mem, List.mem_iff_getElem?]
    rintro ⟨i, hi⟩
    have := (List.getElem?_eq_some_iff.1 hi).1
    exact h i (by omega) hi
  | succ n ih =>
    intro j hj h;have hlt : j < ws.length := by omega
    have hg := List.getElem?_eq_getElem hlt
    by_cases hx : x = ws[j]
    · refine .inl ⟨j, r137_l0_out2 (by omega) hg hx, ?_⟩
      rw [List.contains_iff_mem, hx]; exact List.getElem_mem hlt
    · rcases ih (j + 1) (by omega) (fun i hi => by
        rcases Nat.lt_or_ge i j with h' | h'
        · exact h i h'
        · have : i = j := by omega
          subst this; rw [hg]; intro e; exact hx (Option.some.inj e).symm) with ⟨i, h1, h2⟩ | ⟨h1, h2⟩
      · exact .inl ⟨i, AkF (by omega) hg hx (by omega) h1, h2⟩
      · exact .inr ⟨AkF (by omega) hg hx (by omega) h1, h2⟩
theorem p101 (ws : List (List UInt8)) (x : List UInt8) (hl : ws.length < 1000) : E 101 [.slice false 1 (ws.map PV.str), .str x] [] (.bool (ws.contains x)) [] := by
  rcases p137 ws x hl ws.length 0 (by omega) (fun i h => by omega) with ⟨i, h1, h2⟩ | ⟨h1, h2⟩
  · have := r101 (r137_2 h1);rw [h2]
    rwa [decide_eq_true (by omega)] at this
  · have := r101 (r137_1 h1);rw [h2];exact this
variable {B : Sto} {k : Nat} {D : List AD}
theorem p47 (H : Toks s ls m) (h : k ≤ m) {j : Nat} (hj : j ≤ 1) {t : Tk} (ht : ls[min (k + j) m]? = some t) : E 47 [.ref 0 0, N j] (PS4 s ls B k D) t.pv (PS4 s ls B k D) := by
  have := H.big;refine r47 (by omega) (by omega) (by rw [H.len]; omega) (by rw [H.len]; omega) ?_
  rw [H.len]; exact ht
theorem p47' (H : Toks s ls m) (h : k ≤ m) {t : Tk} (ht : ls[k]? = some t) : E 47 [.ref 0 0, I 0] (PS4 s ls B k D) t.pv (PS4 s ls B k D) :=
  p47 H h (j := 0) (by omega) (by rw [show min (k + 0) m = k by omega]; exact ht)
theorem p102' (H : Toks s ls m) {i : Nat} {t : Tk} (ht : ls[i]? = some t) {l : Nat} {wr : PV} {bf : Int} {T : Sto} : E 102 [.ref 0 0, t.pv] (pc s ls k l wr bf :: T) (.str (wd s t)) (pc s ls k l wr bf :: T) := by
  obtain ⟨h1, h2⟩ := H.ord i t ht;exact r102 (p_ssl s t.a t.e h1 h2)
theorem p102 (H : Toks s ls m) {i : Nat} {t : Tk} (ht : ls[i]? = some t) : E 102 [.ref 0 0, t.pv] (PS4 s ls B k D) (.str (wd s t)) (PS4 s ls B k D) := p102' H ht
theorem p50 (H : Toks s ls m) (h : k ≤ m) (ws : List (List UInt8)) (hl : ws.length < 1000) (hw : ws.all spW.contains = true) : E 50 [.ref 0 0, .slice false 1 (ws.map PV.str)] (PS4 s ls B k D) (.bool (ws.contains (wAt s ls k).2)) (PS4 s ls B k D) := by
  obtain ⟨t, ht⟩ := H.at h;have h1 := p47' (B := B) (D := D) H h ht;have h2 := p102 (k := k) (B := B) (D := D) H ht;rw [Ak7 ht];by_cases c1 : t.k = 1
  · exact r50_1 h1 (by omega) h2 (p101 ws _ hl)
  · by_cases c3 : t.k = 3
    · exact r50_2 h1 (by omega) (by omega) h2 (p101 ws _ hl)
    · have hf : ws.contains (wd s t) = false := by
        rw [← Bool.not_eq_true, List.contains_iff_mem];intro hm;have := H.sp k t ht (List.all_eq_true.1 hw _ hm);omega
      show E 50 _ _ (.bool (ws.contains (wd s t))) _;rw [hf];exact r50_3 h1 (by omega) (by omega)
theorem p49 (H : Toks s ls m) (h : k ≤ m) (j : Nat) : E 49 [.ref 0 0, N j] (PS4 s ls B k D) (.bool (decide ((wAt s ls k).1 = j))) (PS4 s ls B k D) := by
  obtain ⟨t, ht⟩ := H.at h;have := r49 (j := (j : Int)) (p47' (B := B) (D := D) H h ht);rw [Ak7 ht]
  have e : (((t.k : Nat) : Int) == (j : Int)) = decide (t.k = j) := by
    by_cases hk : t.k = j
    · simp [hk]
    · rw [decide_eq_false hk, beq_eq_false_iff_ne]; omega
  rwa [e] at this
theorem p75 : E 75 [.ref 0 0] (PS4 s ls B k D) (.tuple [N k, N (en ls k)]) (PS4 s ls B k D) := r75
theorem p76 (H : Toks s ls m) (h : k < m) : E 76 [.ref 0 0] (PS4 s ls B k D) (.str (wAt s ls k).2) (PS4 s ls B (k + 1) D) := by
  obtain ⟨t, ht⟩ := H.at (Nat.le_of_lt h);have := H.big;have := r76 (wr_self _ _) (p47' (B := B) (D := D) H (Nat.le_of_lt h) ht) (by omega) (p102' H ht)
  rw [Ak7 ht];have e : en ls (k + 1) = t.e := tE_eq ht;unfold PS4;rw [e]; exact this
theorem rp_snoc (D : List AD) (d : AD) : arS ls (D ++ [d]) = [[.arrv D.length 5 (D.map (dgp ls) ++ [dgp ls d])]] ∧ ∀ q, wrP q (D ++ [d]) = .arr q D.length 0 (D.length + 1) 5 := by
  cases D with
  | nil => exact ⟨rfl, fun _ => rfl⟩
  | cons e D =>
    refine ⟨?_, fun q => ?_⟩
    · show [[PV.arrv (D ++ [d]).length 5 ((e :: (D ++ [d])).map (dgp ls))]] = _;simp
    · show PV.arr q (D ++ [d]).length 0 ((D ++ [d]).length + 1) 5 = _;simp
theorem p53 (H : Toks s ls m) (h : k ≤ m) (hD : ∀ d ∈ D, d.i ≤ m) (hn : D.length < 1000000000) (c : Nat) (x : List UInt8) : E 53 [.ref 0 0, N c, .str x] (PS4 s ls B k D) (.tuple []) (PS4 s ls B k (rp D c k x)) := by
  obtain ⟨t, ht⟩ := H.at h;have h47 := p47' (B := B) (D := D) H h ht;have hA : tA ls k = t.a := tA_eq ht
  have hlast : D.getLast?.map AD.i = some k ↔ ((t.a : Nat) : Int) = bfP ls D := by
    unfold bfP;cases hl : D.getLast? with
    | none => simp
    | some d =>
      have hdi := hD d (List.mem_of_getLast? hl);obtain ⟨u, hu⟩ := H.at hdi;simp only [Option.map_some, Option.some.injEq];rw [tA_eq hu];refine ⟨fun e => ?_, fun e => ?_⟩
      · subst e; rw [ht] at hu; cases hu; rfl
      · rcases Nat.lt_trichotomy d.i k with hlt | heq | hgt
        · have := (H.inc _ _ _ _ hu ht hlt).1; omega
        · exact heq
        · have := (H.inc _ _ _ _ ht hu hgt).1; omega
  unfold rp;by_cases hc : D.getLast?.map AD.i = some k
  · rw [if_pos hc];have hb := hlast.1 hc;cases D with
    | nil => simp at hc
    | cons d D =>
      have := r53a_2 (s := s) (ls := ls) (k := k) (l := en ls k) (B := B) (g := D.length) (n := D.length + 1) (Ds := (d :: D).map (dgp ls)) (bf := bfP ls (d :: D)) (c := c) (tx := x) (by simp) (by simp [AqE] at hn ⊢; omega) h47 hb
      unfold PS4;rw [hb] at this;exact this
  · rw [if_neg hc];have hb : ((t.a : Nat) : Int) ≠ bfP ls D := fun e => hc (hlast.2 e)
    obtain ⟨e1, e2⟩ := rp_snoc (ls := ls) D ⟨c, k, x⟩;have e3 : bfP ls (D ++ [⟨c, k, x⟩]) = ((t.a : Nat) : Int) := by simp [bfP, hA]
    have e4 : dgp ls ⟨c, k, x⟩ = (.agg [N c, N t.a, N t.e, .str x, .nils]) := by
      show (Dg.mk c (tA ls k) (tE ls k) x).pv = _;rw [hA, tE_eq ht]; rfl
    unfold PS4;rw [e1, e2, e3, e4];cases D with
    | nil =>
      have := r53n_1 (s := s) (ls := ls) (k := k) (l := en ls k) (T := B) (bf := bfP ls []) (c := c) (tx := x) (t1 := t) (by simpa [PS4, arS, wrP] using h47) hb
      simpa [PS4, arS, wrP] using this
    | cons d D =>
      exact r53a_1 (s := s) (ls := ls) (k := k) (l := en ls k) (B := B) (g := D.length) (n := D.length + 1) (Ds := (d :: D).map (dgp ls)) (bf := bfP ls (d :: D)) (c := c) (tx := x) (by simp) (by simp [AqE] at hn ⊢; omega) h47 hb
end
end Go.Abs.Z

namespace Go.Abs.Z
def Dok (k : Nat) (D : List AD) : Prop := D.Pairwise (fun a b => a.i < b.i) ∧ ∀ d ∈ D, d.i ≤ k
theorem Dok.le {k k' : Nat} {D : List AD} (h : Dok k D) (hk : k ≤ k') : Dok k' D := ⟨h.1, fun d hd => Nat.le_trans (h.2 d hd) hk⟩
theorem Dok.rp {k : Nat} {D : List AD} (h : Dok k D) (c : Nat) (x : List UInt8) : Dok k (rp D c k x) := by
  unfold Z.rp;split
  · exact h
  · rename_i hl;refine ⟨List.pairwise_append.2 ⟨h.1, by simp, fun a ha b hb => ?_⟩, fun d hd => ?_⟩
    · rw [List.mem_singleton] at hb;subst hb;show a.i < k;rcases Nat.lt_or_ge a.i k with h' | h'
      · exact h'
      · exfalso
        have hak : a.i = k := by have := h.2 a ha; omega
        apply hl;obtain ⟨i, hi⟩ := List.mem_iff_getElem?.1 ha;have hne : D ≠ [] := by intro e; subst e; cases ha
        rw [List.getLast?_eq_some_getLast hne, Option.map_some]
        have hm := List.getLast_mem hne;have h1 := h.2 _ hm;congr 1;have hlt := (List.getElem?_eq_some_iff.1 hi).1
        by_cases he : i = D.length - 1
        · rw [List.getLast_eq_getElem hne];have := (List.getElem?_eq_some_iff.1 hi).2
          subst he;rw [this]; exact hak
        · have hp := List.pairwise_iff_getElem.1 h.1 i (D.length - 1) hlt (by omega) (by omega)
          rw [(List.getElem?_eq_some_iff.1 hi).2] at hp
          rw [List.getLast_eq_getElem hne];rw [List.getLast_eq_getElem hne] at h1;omega
    · rcases List.mem_append.1 hd with hd | hd
      · exact h.2 d hd
      · rw [List.mem_singleton] at hd; subst hd; exact Nat.le_refl _
theorem pair_len : ∀ (D : List AD) (a k : Nat), D.Pairwise (fun a b => a.i < b.i) → (∀ d ∈ D, a ≤ d.i ∧ d.i ≤ k) → a ≤ k + 1 → D.length + a ≤ k + 1
  | [], a, k, _, _, h => by simpa using h
  | d :: D, a, k, hp, hb, _ => by
    obtain ⟨h1, h2⟩ := hb d (List.mem_cons_self ..);rw [List.pairwise_cons] at hp;have := pair_len D (d.i + 1) k hp.2 (fun e he => ⟨hp.1 e he, (hb e (List.mem_cons_of_mem _ he)).2⟩) (by omega)
    simp only [List.length_cons]; omega
theorem Dok.len {k : Nat} {D : List AD} (h : Dok k D) : D.length ≤ k + 1 := by
  have := pair_len D 0 k h.1 (fun d hd => ⟨Nat.zero_le _, h.2 d hd⟩) (by omega)
  omega
section
variable {w : Nat → Wd} {m : Nat} {c : NT → Nat → List AD → Ans3}
def Inv3 (m : Nat) (k : Nat) (D : List AD) (r : Rs × Nat × List AD) : Prop := k ≤ r.2.1 ∧ r.2.1 ≤ m ∧ Dok r.2.1 r.2.2
def OkI (m : Nat) (c : NT → Nat → List AD → Ans3) : Prop := ∀ x k D r, c x k D = some r → k ≤ m → Dok k D → Inv3 m k D r
theorem AkD (hm : (w m).1 = 5) (hc : OkI m c) : ∀ (p : Pg) (k : Nat) (D : List AD) (r : Rs × Nat × List AD), runP w c p k D = some r → k ≤ m → Dok k D → Inv3 m k D r := by
  intro p
  induction p with
  | ret v => intro k D r h hk hD; cases h; exact ⟨Nat.le_refl _, hk, hD⟩
  | look f ih => intro k D r h hk hD; exact ih _ _ _ k D r h hk hD
  | read p ih =>
    intro k D r h hk hD;simp only [runP] at h
    split at h
    · cases h
    · rename_i h5
      have hlt : k < m := by
        rcases Nat.lt_or_ge k m with h' | h'
        · exact h'
        · have : k = m := by omega
          subst this; exact absurd hm h5
      obtain ⟨h1, h2, h3⟩ := ih (k + 1) D r h hlt (hD.le (by omega))
      exact ⟨by omega, h2, h3⟩
  | report e t p ih =>
    intro k D r h hk hD;exact ih k (rp D e k t) r h hk (hD.rp e t)
  | call x f ih =>
    intro k D r h hk hD;simp only [runP] at h;obtain ⟨⟨v, k1, D1⟩, h1, h2⟩ := Option.bind_eq_some_iff.1 h;obtain ⟨a1, a2, a3⟩ := hc x k D _ h1 hk hD;obtain ⟨b1, b2, b3⟩ := ih v k1 D1 r h2 a2 a3;exact ⟨Nat.le_trans a1 b1, b2, b3⟩
theorem AxR (hm : (w m).1 = 5) : ∀ n, OkI m (runN w n)
  | 0 => fun x k D r h => by cases h
  | n + 1 => fun x k D r h => AkD hm (AxR hm n) (prog x) k D r h
structure G3 (w : Nat → Wd) (m : Nat) (c : NT → Nat → List AD → Ans3) (r : Rs × Nat × List AD) (p : Pg) (k : Nat) (D : List AD) : Prop where
  run : runP w c p k D = some r
  le : k ≤ m
  ok : Dok k D
variable {r : Rs × Nat × List AD} {p q : Pg} {k : Nat} {D : List AD}
theorem G3.ifW {ws : List (List UInt8)} (h : G3 w m c r (Pg.ifW ws p q) k D) : (ws.contains (w k).2 = true ∧ G3 w m c r p k D) ∨ (ws.contains (w k).2 = false ∧ G3 w m c r q k D) := by
  have hr : runP w c (if ws.contains (w k).2 = true then p else q) k D = some r := h.run
  cases hb : ws.contains (w k).2 with
  | true => rw [hb] at hr; exact .inl ⟨rfl, hr, h.le, h.ok⟩
  | false => rw [hb] at hr; exact .inr ⟨rfl, hr, h.le, h.ok⟩
theorem G3.ifK {j : Nat} (h : G3 w m c r (Pg.ifK j p q) k D) : ((w k).1 = j ∧ G3 w m c r p k D) ∨ ((w k).1 ≠ j ∧ G3 w m c r q k D) := by
  have hr : runP w c (if (w k).1 = j then p else q) k D = some r := h.run
  by_cases hb : (w k).1 = j
  · rw [if_pos hb] at hr; exact .inl ⟨hb, hr, h.le, h.ok⟩
  · rw [if_neg hb] at hr; exact .inr ⟨hb, hr, h.le, h.ok⟩
theorem G3.look {f : Wd → Wd → Nat → Pg} (h : G3 w m c r (.look f) k D) : G3 w m c r (f (w k) (w (k + 1)) k) k D := ⟨h.run, h.le, h.ok⟩
theorem G3.mrk {g : Nat → Pg} (h : G3 w m c r (Pg.mrk g) k D) : G3 w m c r (g k) k D := ⟨h.run, h.le, h.ok⟩
theorem G3.bd {kd f : Nat} {tx : List UInt8} {b : Bool} {ks : List AT} {g : AT → Pg} (h : G3 w m c r (Pg.bd kd tx f b ks g) k D) : G3 w m c r (g (.mk kd tx f k b ks)) k D := ⟨h.run, h.le, h.ok⟩
theorem G3.read (hm : (w m).1 = 5) (h : G3 w m c r (.read p) k D) : k < m ∧ G3 w m c r p (k + 1) D := by
  have hr := h.run;simp only [runP] at hr
  split at hr
  · cases hr
  · rename_i h5
    have hlt : k < m := by
      rcases Nat.lt_or_ge k m with h' | h'
      · exact h'
      · have : k = m := by have := h.le; omega
        subst this; exact absurd hm h5
    exact ⟨hlt, hr, hlt, h.ok.le (by omega)⟩
theorem G3.rd (hm : (w m).1 = 5) {g : List UInt8 → Pg} (h : G3 w m c r (Pg.rd g) k D) : k < m ∧ G3 w m c r (g (w k).2) (k + 1) D := G3.read hm (p := g (w k).2) ⟨h.run, h.le, h.ok⟩
theorem G3.rep {e : Nat} {t : List UInt8} (h : G3 w m c r (.report e t p) k D) : G3 w m c r p k (rp D e k t) := ⟨h.run, h.le, h.ok.rp e t⟩
theorem G3.call (hc : OkI m c) {x : NT} {f : Rs → Pg} (h : G3 w m c r (.call x f) k D) : ∃ v k1 D1, c x k D = some (v, k1, D1) ∧ k ≤ k1 ∧ G3 w m c r (f v) k1 D1 := by
  have hr := h.run;simp only [runP] at hr;obtain ⟨⟨v, k1, D1⟩, h1, h2⟩ := Option.bind_eq_some_iff.1 hr;obtain ⟨a1, a2, a3⟩ := hc x k D _ h1 h.le h.ok;exact ⟨v, k1, D1, h1, a1, h2, a2, a3⟩
theorem G3.cl (hc : OkI m c) {x : NT} {g : AT → Pg} (h : G3 w m c r (Pg.cl x g) k D) : ∃ v k1 D1, c x k D = some (v, k1, D1) ∧ k ≤ k1 ∧ G3 w m c r (g v.1) k1 D1 := G3.call hc (f := fun v => g v.1) ⟨h.run, h.le, h.ok⟩
theorem G3.lst {x : NT} (h : G3 w m c r (Pg.lst x) k D) : c x k D = some r := by
  have hr : (c x k D).bind (fun r => some (r.1, r.2.1, r.2.2)) = some r := h.run
  obtain ⟨v, h1, h2⟩ := Option.bind_eq_some_iff.1 hr;cases h2; exact h1
theorem G3.ret {v : Rs} (h : G3 w m c r (.ret v) k D) : r = (v, k, D) := by
  have := h.run; cases this; rfl
end
end Go.Abs.Z

namespace Go.Abs.Z
open Go.Proofs Go.RowKit
mutual

def trP (ls : List Tk) : AT → Tr
  | .mk kd tx f k _ ks => .mk kd tx (match trPs ls ks with | [] => if f < k then (tA ls f : Nat) else (en ls k : Nat) | u :: _ => min (if f < k then ((tA ls f : Nat) : Int) else (en ls k : Nat)) u.st) (en ls k : Nat) ks.isEmpty (trPs ls ks)
def trPs (ls : List Tk) : List AT → List Tr
  | [] => []
  | x :: xs => trP ls x :: trPs ls xs
end
theorem Bz3 (ls : List Tk) : ∀ xs : List AT, trPs ls xs = xs.map (trP ls)
  | [] => rfl
  | x :: xs => by rw [trPs, Bz3 ls xs]; rfl
theorem AjF (ls : List Tk) (xs : List AT) (x : AT) : trPs ls (xs ++ [x]) = trPs ls xs ++ [trP ls x] := by simp [Bz3]
theorem Az5 (ls : List Tk) (xs : List AT) : (trPs ls xs).length = xs.length := by simp [Bz3]
abbrev rf : PV := .ref 0 0
abbrev Z0 : PV := .agg [I 0, .str [], I 0, I 0, .nils]
abbrev sl1 (ws : List (List UInt8)) : PV := .slice false 1 (ws.map PV.str)
section
variable {s : List UInt8} {ls : List Tk} {m : Nat} {B : Sto} {k f : Nat} {D : List AD}
theorem nd0 (H : Toks s ls m) (hf : f ≤ k) (hk : k ≤ m) (kd : Nat) (tx : List UInt8) (b : Bool) : E 78 [rf, N kd, .str tx, N f, N (en ls f), .nils] (PS4 s ls B k D) (trP ls (.mk kd tx f k b [])).pv (PS4 s ls B k D) := by
  by_cases h : f < k
  · obtain ⟨t, ht⟩ := H.at (k := f) (by omega)
    have := r78n_1 (s := s) (l := en ls k) (wr := wrP (B.length + 1) D) (bf := bfP ls D) (T := B ++ arS ls D) (kd := (kd : Int)) (tx := tx) (la := en ls f) (k := k) (by omega) ht
    have e : (trP ls (.mk kd tx f k b [])).pv = .agg [N kd, .str tx, N t.a, N (en ls k), .nils] := by
      rw [trP]; simp only [trPs, if_pos h, tA_eq ht]; rfl
    rw [e]; exact this
  · have hfk : f = k := by omega
    subst hfk;have := r78n_2 (s := s) (ls := ls) (l := en ls f) (wr := wrP (B.length + 1) D) (bf := bfP ls D) (T := B ++ arS ls D) (kd := (kd : Int)) (tx := tx) (la := en ls f) (k := f) (fi := f) (by omega)
    have e : (trP ls (.mk kd tx f f b [])).pv = .agg [N kd, .str tx, N (en ls f), N (en ls f), .nils] := by
      rw [trP]; simp only [trPs, if_neg h]; rfl
    rw [e]; exact this
theorem nd1 (H : Toks s ls m) (hf : f ≤ k) (hk : k ≤ m) (kd : Nat) (tx : List UInt8) (b : Bool) (us : List AT) (hu : us ≠ []) : E 78 [rf, N kd, .str tx, N f, N (en ls f), .slice false 5 (Tr.pvs (trPs ls us))] (PS4 s ls B k D) (trP ls (.mk kd tx f k b us)).pv (PS4 s ls B k D) := by
  cases us with
  | nil => exact absurd rfl hu
  | cons u us =>
    have hl : (((trPs ls (u :: us)).length : Nat) : Int) > 0 := by simp [trPs]
    have h0 : (trPs ls (u :: us))[0]? = some (trP ls u) := rfl;by_cases h : f < k
    · obtain ⟨t, ht⟩ := H.at (k := f) (by omega)
      have := r78_1 (s := s) (l := en ls k) (wr := wrP (B.length + 1) D) (bf := bfP ls D) (T := B ++ arS ls D) (kd := (kd : Int)) (tx := tx) (la := en ls f) (k := k) (by omega) ht hl h0
      have e : (trP ls (.mk kd tx f k b (u :: us))).pv = .agg [N kd, .str tx, I (min ((t.a : Nat) : Int) (trP ls u).st), N (en ls k), .slice false 5 (Tr.pvs (trPs ls (u :: us)))] := by
        rw [trP]; simp only [trPs, if_pos h, tA_eq ht]; rfl
      rw [e]; exact this
    · have hfk : f = k := by omega
      subst hfk;have := r78_3 (s := s) (ls := ls) (l := en ls f) (wr := wrP (B.length + 1) D) (bf := bfP ls D) (T := B ++ arS ls D) (kd := (kd : Int)) (tx := tx) (la := en ls f) (k := f) (fi := f) (by omega) hl h0
      have e : (trP ls (.mk kd tx f f b (u :: us))).pv = .agg [N kd, .str tx, I (min ((en ls f : Nat) : Int) (trP ls u).st), N (en ls f), .slice false 5 (Tr.pvs (trPs ls (u :: us)))] := by
        rw [trP]; simp only [trPs, if_neg h]; rfl
      rw [e]; exact this
theorem isB (H : Toks s ls m) (hk : k ≤ m) (ws : List (List UInt8)) {b : Bool} (hc : ws.contains (wAt s ls k).2 = b) (hw : (ws.all spW.contains && decide (ws.length < 1000)) = true := by decide) : E 50 [rf, sl1 ws] (PS4 s ls B k D) (.bool b) (PS4 s ls B k D) := by
  simp only [Bool.and_eq_true, decide_eq_true_eq] at hw;have := p50 (B := B) (D := D) H hk ws hw.2 hw.1
  rwa [hc] at this
theorem kdT (H : Toks s ls m) (hk : k ≤ m) (j : Nat) (hc : (wAt s ls k).1 = j) : E 49 [rf, N j] (PS4 s ls B k D) (.bool true) (PS4 s ls B k D) := by
  have := p49 (B := B) (D := D) H hk j
  rwa [decide_eq_true hc] at this
theorem kdF (H : Toks s ls m) (hk : k ≤ m) (j : Nat) (hc : (wAt s ls k).1 ≠ j) : E 49 [rf, N j] (PS4 s ls B k D) (.bool false) (PS4 s ls B k D) := by
  have := p49 (B := B) (D := D) H hk j
  rwa [decide_eq_false hc] at this
theorem dgt_eq (x : List UInt8) (hl : x.length < 1000000) : E 151 [.str x] [] (.str (dgt x)) [] := by
  have key : ∀ (n : Nat) (x : List UInt8), x.length = n → n < 1000000 → LE Bx8 BxD [(0, some (.str x)), (1, some (.int .u8 48))] [] (.exit 0) [(0, some (.str (x.dropWhile (· == 48))))] [] := by
    intro n
    induction n with
    | zero =>
      intro x hx _;have : x = [] := List.length_eq_zero_iff.1 hx;subst this;exact r158_l0_out1 (by simp)
    | succ n ih =>
      intro x hx hn;cases x with
      | nil => simp at hx
      | cons c x =>
        by_cases h48 : c = 48
        · subst h48;refine BzB (c2 := 48) (s2 := x) (by simp) rfl (by rfl) ?_ (ih x (by simpa using hx) (by omega))
          have h1 : (1 : Int) ≤ ((((48 : UInt8) :: x).length : Nat) : Int) := by simp; omega
          simp [semP, cutB, h1];simpa using h1
        · have : (c :: x).dropWhile (· == 48) = c :: x := by
            have hb : (c == 48) = false := by simpa using h48
            rw [List.dropWhile_cons, hb]; rfl
          rw [this];refine r158_l0_out2 (c2 := c) (by simp) rfl ?_
          intro e;apply h48;have : c.toNat = 48 := by omega
          exact UInt8.toNat_inj.1 this
  have h155 : E 155 [.str x, .str [48]] [] (.str (x.dropWhile (· == 48))) [] := by
    by_cases hx : x = []
    · subst hx; exact r155_1 rfl
    · exact r155_2 hx (r158 (key x.length x rfl hl))
  unfold dgt;by_cases h1 : x.dropWhile (· == 48) = []
  · by_cases h2 : x = []
    · simp only [h1, h2, ne_eq, not_true_eq_false, and_false, if_false];rw [h1, h2] at h155;subst h2;exact r151_2 h155 rfl rfl
    · simp only [h1, h2, ne_eq, not_false_eq_true, and_true, if_true];exact r151_3 h155 h1 h2
  · simp only [h1, false_and, if_false];exact r151_1 h155 h1
end
section
variable {s : List UInt8} {ls : List Tk} {m : Nat} {B : Sto} {k f : Nat} {D : List AD} {c : NT → Nat → List AD → Ans3} {r : Rs × Nat × List AD} {p q : Pg}
abbrev G4 (s : List UInt8) (ls : List Tk) (m : Nat) (c : NT → Nat → List AD → Ans3) (r : Rs × Nat × List AD) (p : Pg) (k : Nat) (D : List AD) : Prop := G3 (wAt s ls) m c r p k D
theorem w5 (H : Toks s ls m) : (wAt s ls m).1 = 5 := by rw [H.end']
theorem q53 (H : Toks s ls m) {e : Nat} {t : List UInt8} (h : G4 s ls m c r (.report e t p) k D) : E 53 [rf, N e, .str t] (PS4 s ls B k D) (.tuple []) (PS4 s ls B k (rp D e k t)) ∧ G4 s ls m c r p k (rp D e k t) :=
  ⟨p53 H h.le (fun d hd => Nat.le_trans (h.ok.2 d hd) h.le) (by have := h.ok.len; have := h.le; have := H.big; omega) e t, h.rep⟩
theorem qread (H : Toks s ls m) (h : G4 s ls m c r (.read p) k D) : E 76 [rf] (PS4 s ls B k D) (.str (wAt s ls k).2) (PS4 s ls B (k + 1) D) ∧ G4 s ls m c r p (k + 1) D := by
  obtain ⟨h1, h2⟩ := h.read (w5 H);exact ⟨p76 H h1, h2⟩
theorem qrd (H : Toks s ls m) {g : List UInt8 → Pg} (h : G4 s ls m c r (Pg.rd g) k D) : E 76 [rf] (PS4 s ls B k D) (.str (wAt s ls k).2) (PS4 s ls B (k + 1) D) ∧ G4 s ls m c r (g (wAt s ls k).2) (k + 1) D := by
  obtain ⟨h1, h2⟩ := h.rd (w5 H);exact ⟨p76 H h1, h2⟩
theorem qac (H : Toks s ls m) (x : List UInt8) (h : G4 s ls m c r (Pg.ifW [x] (.read p) q) k D) (hx : spW.contains x = true := by decide) :
    (E 123 [rf, .str x] (PS4 s ls B k D) (.bool true) (PS4 s ls B (k + 1) D) ∧ G4 s ls m c r p (k + 1) D) ∨ (E 123 [rf, .str x] (PS4 s ls B k D) (.bool false) (PS4 s ls B k D) ∧ G4 s ls m c r q k D) := by
  have hw : ([x].all spW.contains && decide ([x].length < 1000)) = true := by simp [hx]; simpa using hx
  rcases h.ifW with ⟨hc, h⟩ | ⟨hc, h⟩
  · obtain ⟨h1, h2⟩ := qread (B := B) H h;exact .inl ⟨r123_1 (isB H (by have := h2.le; omega) [x] hc hw) h1, h2⟩
  · exact .inr ⟨r123_2 (isB H h.le [x] hc hw), h⟩
theorem qxp (H : Toks s ls m) (x : List UInt8) (h : G4 s ls m c r (Pg.xp x p) k D) (hx : spW.contains x = true := by decide) :
    ∃ k1 D1, k ≤ k1 ∧ E 103 [rf, .str x] (PS4 s ls B k D) (.tuple []) (PS4 s ls B k1 D1) ∧ G4 s ls m c r p k1 D1 := by
  rcases qac (B := B) H x h hx with ⟨h1, h2⟩ | ⟨h1, h2⟩
  · exact ⟨_, _, by omega, r103_1 h1, h2⟩
  · obtain ⟨h3, h4⟩ := q53 (B := B) H h2;exact ⟨_, _, Nat.le_refl _, r103_2 h1 h3, h4⟩
theorem qnm (H : Toks s ls m) {g : List UInt8 → Pg} (h : G4 s ls m c r (Pg.nm g) k D) : ∃ x k1 D1, k ≤ k1 ∧ E 104 [rf] (PS4 s ls B k D) (.str x) (PS4 s ls B k1 D1) ∧ G4 s ls m c r (g x) k1 D1 := by
  rcases h.ifK with ⟨hc, h⟩ | ⟨hc, h⟩
  · obtain ⟨h1, h2⟩ := qrd (B := B) H h;exact ⟨_, _, _, by omega, r104_1 (kdT H (by have := h2.le; omega) 0 hc) h1, h2⟩
  · obtain ⟨h3, h4⟩ := q53 (B := B) H h;exact ⟨_, _, _, Nat.le_refl _, r104_2 (kdF H h.le 0 hc) h3, h4⟩
theorem wd_len (H : Toks s ls m) (k : Nat) : (wAt s ls k).2.length < 1000000 := by
  have := H.small;unfold wAt;split
  · simp [wd]; omega
  · simp
theorem qnum (H : Toks s ls m) {g : List UInt8 → Pg} (h : G4 s ls m c r (Pg.num g) k D) : ∃ x k1 D1, k ≤ k1 ∧ E 140 [rf] (PS4 s ls B k D) (.str x) (PS4 s ls B k1 D1) ∧ G4 s ls m c r (g x) k1 D1 := by
  rcases h.ifK with ⟨hc, h⟩ | ⟨hc, h⟩
  · obtain ⟨h1, h2⟩ := qrd (B := B) H h;exact ⟨_, _, _, by omega, r140_1 (kdT H (by have := h2.le; omega) 2 hc) h1 (dgt_eq _ (wd_len H k)), h2⟩
  · obtain ⟨h3, h4⟩ := q53 (B := B) H h;exact ⟨_, _, _, Nat.le_refl _, r140_2 (kdF H h.le 2 hc) h3, h4⟩
theorem qnone (H : Toks s ls m) {g : AT → Pg} (h : G4 s ls m c r (Pg.nop g) k D) : ∃ x, E 124 [rf] (PS4 s ls B k D) (trP ls x).pv (PS4 s ls B k D) ∧ G4 s ls m c r (g x) k D :=
  ⟨_, r124 p75 (nd0 H (Nat.le_refl _) h.le 0 [] false), h.mrk.bd⟩
theorem qmiss (H : Toks s ls m) {g : AT → Pg} (h : G4 s ls m c r (Pg.miss g) k D) : ∃ x, E 138 [rf] (PS4 s ls B k D) (trP ls x).pv (PS4 s ls B k D) ∧ G4 s ls m c r (g x) k D :=
  ⟨_, r138 p75 (nd0 H (Nat.le_refl _) h.le 1 [] false), h.mrk.bd⟩
theorem qwr (H : Toks s ls m) {g : AT → Pg} (h : G4 s ls m c r (written g) k D) : ∃ x k1 D1, k ≤ k1 ∧ E 108 [rf] (PS4 s ls B k D) (trP ls x).pv (PS4 s ls B k1 D1) ∧ G4 s ls m c r (g x) k1 D1 := by
  rcases qac (B := B) H [58] h with ⟨a1, h⟩ | ⟨a1, h⟩
  · have hk1 : k + 1 ≤ m := h.le;have h := h.mrk;rcases qac (B := B) H wInt h with ⟨a2, h⟩ | ⟨a2, h⟩
    · rcases qac (B := B) H [91] h with ⟨a3, h⟩ | ⟨a3, h⟩
      · obtain ⟨x, k1, D1, l1, a4, h⟩ := qnum (B := B) H h;obtain ⟨k2, D2, l2, a5, h⟩ := qxp (B := B) H [93] h;exact ⟨_, _, _, by omega, r108_2 a1 p75 a2 a3 a4 a5 (nd0 H (by omega) h.le 10 x false), h.bd⟩
      · exact ⟨_, _, _, by omega, r108_3 a1 p75 a2 a3 (nd0 H (by omega) h.le 9 wInt false), h.bd⟩
    · rcases qac (B := B) H wBool h with ⟨a3, h⟩ | ⟨a3, h⟩
      · exact ⟨_, _, _, by omega, r108_4 a1 p75 a2 a3 (nd0 H (by omega) h.le 9 wBool false), h.bd⟩
      · rcases h.ifK with ⟨hc, h⟩ | ⟨hc, h⟩
        · obtain ⟨a4, h⟩ := qrd (B := B) H h;exact ⟨_, _, _, by omega, r108_5 a1 p75 a2 a3 (kdT H hk1 0 hc) a4 (nd0 H (by omega) h.le 9 _ false), h.bd⟩
        · obtain ⟨a4, h4⟩ := q53 (B := B) H h;obtain ⟨x, a5, h5⟩ := qmiss (B := B) H h4;exact ⟨_, _, _, by omega, r108_6 a1 p75 a2 a3 (kdF H hk1 0 hc) a4 a5, h5⟩
  · obtain ⟨x, a2, h⟩ := qnone (B := B) H h;exact ⟨_, _, _, Nat.le_refl _, r108_1 a1 a2, h⟩
theorem qfield (H : Toks s ls m) {g : AT → Pg} (h : G4 s ls m c r (AvZ g) k D) : ∃ x k1 D1, k ≤ k1 ∧ E 106 [rf] (PS4 s ls B k D) (trP ls x).pv (PS4 s ls B k1 D1) ∧ G4 s ls m c r (g x) k1 D1 := by
  obtain ⟨x, k1, D1, l1, a1, h⟩ := qnm (B := B) H h.mrk;obtain ⟨k2, D2, l2, a2, h⟩ := qxp (B := B) H [58] h;have hk2 := h.le;rcases h.ifW with ⟨hc, h⟩ | ⟨hc, h⟩
  · obtain ⟨a3, h⟩ := qrd (B := B) H h.mrk;exact ⟨_, _, _, by omega, r106_1 p75 a1 a2 (isB H hk2 [wInt, wBool] hc) p75 a3 (nd0 H (by omega) h.le 9 _ false) (nd1 H (by omega) h.le 4 x false [_] (by simp)), h.bd.bd⟩
  · obtain ⟨a3, h⟩ := q53 (B := B) H h;obtain ⟨y, a4, h⟩ := qmiss (B := B) H h;exact ⟨_, _, _, by omega, r106_2 p75 a1 a2 (isB H hk2 [wInt, wBool] hc) a3 a4 (nd1 H (by omega) h.le 4 x false [_] (by simp)), h.bd⟩
theorem qparam (H : Toks s ls m) {g : AT → Pg} (h : G4 s ls m c r (AvN g) k D) : ∃ x k1 D1, k ≤ k1 ∧ E 139 [rf] (PS4 s ls B k D) (trP ls x).pv (PS4 s ls B k1 D1) ∧ G4 s ls m c r (g x) k1 D1 := by
  rcases qac (B := B) H wVar h.mrk with ⟨a1, h⟩ | ⟨a1, h⟩
  · obtain ⟨x, k1, D1, l1, a2, h⟩ := qnm (B := B) H h;obtain ⟨t, k2, D2, l2, a3, h⟩ := qwr (B := B) H h;exact ⟨_, _, _, by omega, r139_1 p75 a1 a2 a3 (nd1 H (by omega) h.le 8 x false [_] (by simp)), h.bd⟩
  · obtain ⟨x, k1, D1, l1, a2, h⟩ := qnm (B := B) H h;obtain ⟨t, k2, D2, l2, a3, h⟩ := qwr (B := B) H h;exact ⟨_, _, _, by omega, r139_2 p75 a1 a2 a3 (nd1 H (by omega) h.le 7 x false [_] (by simp)), h.bd⟩
theorem qvar (H : Toks s ls m) {g : AT → Pg} (h : G4 s ls m c r (AxT g) k D) : ∃ x k1 D1, k ≤ k1 ∧ E 142 [rf] (PS4 s ls B k D) (trP ls x).pv (PS4 s ls B k1 D1) ∧ G4 s ls m c r (g x) k1 D1 := by
  obtain ⟨x, k1, D1, l1, a1, h⟩ := qnm (B := B) H h.mrk;exact ⟨_, _, _, by omega, r142 p75 a1 (nd0 H (by omega) h.le 20 x false), h.bd⟩
end
end Go.Abs.Z

namespace Go.Abs.Z
open Go.Proofs Go.RowKit
def exF : Nat → FuncId
  | 1 => 35
  | 2 => 70
  | 3 => 119
  | 5 => 141
  | 6 => 152
  | _ => 156
def elF : El → FuncId
  | .fd => 106
  | .pa => 139
  | .ex => 35
abbrev fnv (g : FuncId) : PV := .func g [rf] []
def BoxQ (s : List UInt8) (ls : List Tk) (B : Sto) (q : Nat) : Prop := ∀ k D, semR (.ld 1 false) [.ref q 0] (PS4 s ls B k D) = some [some (.ref 0 0)]
def big4 : Nat := 2000000000
def EP4 (s : List UInt8) (ls : List Tk) (B : Sto) (n : Nat) : NT → Nat → List AD → Rs → Nat → List AD → Prop
  | .ex L, k, D, v, k1, D1 => (L = 1 ∨ L = 2 ∨ L = 3 ∨ L = 5 ∨ L = 6 ∨ L = 7) → E (exF L) [rf] (PS4 s ls B k D) (trP ls v.1).pv (PS4 s ls B k1 D1)
  | .lp L f x, k, D, v, k1, D1 => (L = 1 ∨ L = 2 ∨ L = 5 ∨ L = 6) → f ≤ k →
      LE m69_0 l69_0 [(0, some rf), (1, some (fnv (exF (L + 1)))), (2, some (sl1 (opL L))), (6, some Z0), (7, some (N f)), (8, some (N (en ls f))), (9, some (trP ls x).pv)] (PS4 s ls B k D) (.exit 0)
        [(0, some rf), (1, some (fnv (exF (L + 1)))), (6, some Z0), (9, some (trP ls v.1).pv)] (PS4 s ls B k1 D1)
  | .tl e acc, k, D, v, k1, D1 => acc ≠ [] → acc.length + n ≤ big4 → v.2 ≠ [] ∧
      LE m105_0 l105_0 [(0, some rf), (1, some (fnv (elF e))), (5, some (.slice true 5 (Tr.pvs (trPs ls acc))))] (PS4 s ls B k D) (.exit 0)
        [(1, some (fnv (elF e))), (5, some (.slice true 5 (Tr.pvs (trPs ls v.2))))] (PS4 s ls B k1 D1)
  | .bk, k, D, v, k1, D1 => E 77 [rf] (PS4 s ls B k D) (trP ls v.1).pv (PS4 s ls B k1 D1)
  | .sts acc, k, D, v, k1, D1 => acc.length + n ≤ big4 → ∀ a b : Nat,
      LE m77_0 l77_0 [(0, some rf), (2, some Z0), (3, some (N a)), (4, some (N b)), (5, some (accP 5 (Tr.pvs (trPs ls acc))))] (PS4 s ls B k D) (.exit 0)
        [(0, some rf), (2, some Z0), (3, some (N a)), (4, some (N b)), (5, some (accP 5 (Tr.pvs (trPs ls v.2))))] (PS4 s ls B k1 D1)
  | .st, k, D, v, k1, D1 => E 38 [rf] (PS4 s ls B k D) (trP ls v.1).pv (PS4 s ls B k1 D1)
  | .br, k, D, v, k1, D1 => [wIf].contains (wAt s ls k).2 = true → E 74 [rf] (PS4 s ls B k D) (trP ls v.1).pv (PS4 s ls B k1 D1)
  | .sk f, k, D, _, k1, D1 => ∀ b : Nat,
      LE m38_0 l38_0 [(0, some rf), (2, some Z0), (7, some (N f)), (8, some (N b))] (PS4 s ls B k D) (.exit 1) [(0, some rf), (2, some Z0), (7, some (N f)), (8, some (N b))] (PS4 s ls B k1 D1)
  | .sp, k, D, _, k1, D1 => ∀ f b q : Nat, f < k → BoxQ s ls B q →
      LE m54_0 l54_0 [(0, some rf), (1, some (.func 55 [] [.ref q 0])), (4, some Z0), (5, some (N f)), (6, some (N b))] (PS4 s ls B k D) (.exit 0) [(0, some rf), (4, some Z0), (5, some (N f)), (6, some (N b))] (PS4 s ls B k1 D1)
  | .pg acc, k, D, v, k1, D1 => acc.length + n ≤ big4 → ∀ T : Sto, BoxQ s ls B (T.length + 1) →
      LE m23_0 l23_0 [(1, some (.ref (T.length + 1) 0)), (2, some Z0), (3, some (.agg [I 2, .str [], I 0, N s.length, accP 5 (Tr.pvs (trPs ls acc))]))] (PS4 s ls B k D) (.exit 0)
        [(1, some (.ref (T.length + 1) 0)), (2, some Z0), (3, some (.agg [I 2, .str [], I 0, N s.length, accP 5 (Tr.pvs (trPs ls v.2))]))] (PS4 s ls B k1 D1)
section
variable {s : List UInt8} {ls : List Tk} {m n : Nat} {B : Sto} {k f : Nat} {D : List AD} {c : NT → Nat → List AD → Ans3} {r : Rs × Nat × List AD} {p q : Pg}
def OkE (s : List UInt8) (ls : List Tk) (m : Nat) (B : Sto) (n : Nat) (c : NT → Nat → List AD → Ans3) : Prop :=
  OkI m c ∧ ∀ x k D v k1 D1, c x k D = some (v, k1, D1) → k ≤ m → Dok k D → EP4 s ls B n x k D v k1 D1
theorem qex (H : Toks s ls m) (hc : OkE s ls m B n c) (L : Nat) (hL : L = 1 ∨ L = 2 ∨ L = 3 ∨ L = 5 ∨ L = 6 ∨ L = 7) {g : AT → Pg} (h : G4 s ls m c r (Pg.cl (.ex L) g) k D) :
    ∃ x k1 D1, k ≤ k1 ∧ E (exF L) [rf] (PS4 s ls B k D) (trP ls x).pv (PS4 s ls B k1 D1) ∧ G4 s ls m c r (g x) k1 D1 := by
  obtain ⟨v, k1, D1, h1, h2, h3⟩ := h.cl hc.1;exact ⟨v.1, k1, D1, h2, hc.2 _ _ _ _ _ _ h1 h.le h.ok hL, h3⟩
theorem qe1 (H : Toks s ls m) (hc : OkE s ls m B n c) {g : AT → Pg} (h : G4 s ls m c r (Pg.cl (.ex 1) g) k D) :
    ∃ x k1 D1, k ≤ k1 ∧ E 35 [rf] (PS4 s ls B k D) (trP ls x).pv (PS4 s ls B k1 D1) ∧ G4 s ls m c r (g x) k1 D1 := qex H hc 1 (by simp) h
theorem qbk (H : Toks s ls m) (hc : OkE s ls m B n c) {g : AT → Pg} (h : G4 s ls m c r (Pg.cl .bk g) k D) :
    ∃ x k1 D1, k ≤ k1 ∧ E 77 [rf] (PS4 s ls B k D) (trP ls x).pv (PS4 s ls B k1 D1) ∧ G4 s ls m c r (g x) k1 D1 := by
  obtain ⟨v, k1, D1, h1, h2, h3⟩ := h.cl hc.1;exact ⟨v.1, k1, D1, h2, hc.2 _ _ _ _ _ _ h1 h.le h.ok, h3⟩
theorem qelem (H : Toks s ls m) (hc : OkE s ls m B n c) (e : El) {g : AT → Pg} (h : G4 s ls m c r (elemP e g) k D) :
    ∃ x k1 D1, k ≤ k1 ∧ E (elF e) [rf] (PS4 s ls B k D) (trP ls x).pv (PS4 s ls B k1 D1) ∧ G4 s ls m c r (g x) k1 D1 := by
  cases e with
  | fd => exact qfield H h
  | pa => exact qparam H h
  | ex => exact qe1 H hc h
theorem pur_el (e : El) : pur (elF e) = false := by cases e <;> rfl
theorem qlist (H : Toks s ls m) (hc : OkE s ls m B n c) (hn : n + 1 ≤ big4) (e : El) {g : List AT → Pg} (h : G4 s ls m c r (listP e g) k D) :
    ∃ l k1 D1, k ≤ k1 ∧ l ≠ [] ∧ E 105 [rf, fnv (elF e)] (PS4 s ls B k D) (.slice false 5 (Tr.pvs (trPs ls l))) (PS4 s ls B k1 D1) ∧ G4 s ls m c r (g l) k1 D1 := by
  obtain ⟨x, k1, D1, l1, a1, h⟩ := qelem H hc e h;obtain ⟨v, k2, D2, h1, h2, h3⟩ := h.call hc.1;obtain ⟨b1, b2⟩ := hc.2 _ _ _ _ _ _ h1 h.le h.ok (by simp) (by simp; omega)
  exact ⟨v.2, k2, D2, by omega, b1, r105 (pur_el e) a1 b2, h3⟩
theorem qargs (H : Toks s ls m) (hc : OkE s ls m B n c) (hn : n + 1 ≤ big4) {g : List AT → Pg} (hw : (wAt s ls k).2 = [40]) (h : G4 s ls m c r (argsP g) k D) :
    ∃ l k1 D1, k ≤ k1 ∧ ((l = [] ∧ E 127 [rf] (PS4 s ls B k D) .nils (PS4 s ls B k1 D1)) ∨ (l ≠ [] ∧ E 127 [rf] (PS4 s ls B k D) (.slice false 5 (Tr.pvs (trPs ls l))) (PS4 s ls B k1 D1))) ∧ G4 s ls m c r (g l) k1 D1 := by
  have hk := h.le;obtain ⟨a1, h⟩ := qread (B := B) H h;have a2 : E 103 [rf, .str [40]] (PS4 s ls B k D) (.tuple []) (PS4 s ls B (k + 1) D) := r103_1 (r123_1 (isB H hk [[40]] (by rw [hw]; rfl)) a1)
  have hk1 := h.le;rcases h.ifW with ⟨hb, h⟩ | ⟨hb, h⟩
  · obtain ⟨k2, D2, l2, a3, h⟩ := qxp (B := B) H [41] h;exact ⟨[], k2, D2, by omega, .inl ⟨rfl, r127_1 a2 (isB H hk1 [[41]] hb) a3⟩, h⟩
  · obtain ⟨l, k2, D2, l2, hl, a3, h⟩ := qlist H hc hn .ex h;obtain ⟨k3, D3, l3, a4, h⟩ := qxp (B := B) H [41] h;exact ⟨l, k3, D3, by omega, .inr ⟨hl, r127_2 a2 (isB H hk1 [[41]] hb) a3 a4⟩, h⟩
theorem qplace (H : Toks s ls m) (hc : OkE s ls m B n c) {g : AT → Pg} (h : G4 s ls m c r (Bq1 g) k D) :
    ∃ x k1 D1, k ≤ k1 ∧ E 128 [rf] (PS4 s ls B k D) (trP ls x).pv (PS4 s ls B k1 D1) ∧ G4 s ls m c r (g x) k1 D1 := by
  obtain ⟨v, k1, D1, l1, a1, h⟩ := qvar (B := B) H h.mrk;rcases qac (B := B) H [91] h with ⟨a2, h⟩ | ⟨a2, h⟩
  · obtain ⟨y, k2, D2, l2, a3, h⟩ := qe1 H hc h;obtain ⟨k3, D3, l3, a4, h⟩ := qxp (B := B) H [93] h;exact ⟨_, _, _, by omega, r128_1 p75 a1 a2 a3 a4 (nd1 H (by omega) h.le 21 [] false [_, _] (by simp)), h.bd⟩
  · rcases qac (B := B) H [46] h with ⟨a3, h⟩ | ⟨a3, h⟩
    · obtain ⟨x, k2, D2, l2, a4, h⟩ := qnm (B := B) H h;exact ⟨_, _, _, by omega, r128_2 p75 a1 a2 a3 a4 (nd1 H (by omega) h.le 22 x false [_] (by simp)), h.bd⟩
    · exact ⟨_, _, _, by omega, r128_3 p75 a1 a2 a3, h⟩
theorem exT (H : Toks s ls m) (hk : k < m) (x : List UInt8) (hb : [x].contains (wAt s ls k).2 = true) (hx : spW.contains x = true := by decide) : E 103 [rf, .str x] (PS4 s ls B k D) (.tuple []) (PS4 s ls B (k + 1) D) :=
  r103_1 (r123_1 (isB H (Nat.le_of_lt hk) [x] hb (by simp [hx]; simpa using hx)) (p76 H hk))
theorem qrecord (H : Toks s ls m) (hc : OkE s ls m B n c) (hn : n + 1 ≤ big4) {g : AT → Pg} (hb : [wRec].contains (wAt s ls k).2 = true) (h : G4 s ls m c r (AwX g) k D) :
    ∃ x k1 D1, k ≤ k1 ∧ E 51 [rf] (PS4 s ls B k D) (trP ls x).pv (PS4 s ls B k1 D1) ∧ G4 s ls m c r (g x) k1 D1 := by
  have h := (h.mrk.read (w5 H)).2;have a1 := exT (B := B) (D := D) (k := k) H (by have := h.le; omega) wRec hb
  obtain ⟨x, k1, D1, l1, a2, h⟩ := qnm (B := B) H h;obtain ⟨k2, D2, l2, a3, h⟩ := qxp (B := B) H [123] h;obtain ⟨l, k3, D3, l3, hl, a4, h⟩ := qlist H hc hn .fd h;obtain ⟨k4, D4, l4, a5, h⟩ := qxp (B := B) H [125] h;exact ⟨_, _, _, by omega, r51 p75 a1 a2 a3 a4 a5 (nd1 H (by omega) h.le 3 x false l hl), h.bd⟩
theorem qparams (H : Toks s ls m) (hc : OkE s ls m B n c) (hn : n + 1 ≤ big4) {g : AT → Pg} (h : G4 s ls m c r (AvB g) k D) :
    ∃ x k1 D1, k ≤ k1 ∧ E 107 [rf] (PS4 s ls B k D) (trP ls x).pv (PS4 s ls B k1 D1) ∧ G4 s ls m c r (g x) k1 D1 := by
  obtain ⟨k1, D1, l1, a1, h⟩ := qxp (B := B) H [40] h.mrk;have hk1 := h.le;rcases h.ifW with ⟨hb, h⟩ | ⟨hb, h⟩
  · obtain ⟨k2, D2, l2, a2, h⟩ := qxp (B := B) H [41] h;exact ⟨_, _, _, by omega, r107_1 p75 a1 (isB H hk1 [[41]] hb) a2 (nd0 H (by omega) h.le 6 [] true), h.bd⟩
  · obtain ⟨l, k2, D2, l2, hl, a2, h⟩ := qlist H hc hn .pa h;obtain ⟨k3, D3, l3, a3, h⟩ := qxp (B := B) H [41] h;exact ⟨_, _, _, by omega, r107_2 p75 a1 (isB H hk1 [[41]] hb) a2 a3 (nd1 H (by omega) h.le 6 [] true l hl), h.bd⟩
theorem qproc (H : Toks s ls m) (hc : OkE s ls m B n c) (hn : n + 1 ≤ big4) {g : AT → Pg} (hb : [wProc].contains (wAt s ls k).2 = true) (h : G4 s ls m c r (procP g) k D) :
    ∃ x k1 D1, k ≤ k1 ∧ E 52 [rf] (PS4 s ls B k D) (trP ls x).pv (PS4 s ls B k1 D1) ∧ G4 s ls m c r (g x) k1 D1 := by
  have h := (h.mrk.read (w5 H)).2;have a1 := exT (B := B) (D := D) (k := k) H (by have := h.le; omega) wProc hb
  obtain ⟨x, k1, D1, l1, a2, h⟩ := qnm (B := B) H h;obtain ⟨a, k2, D2, l2, a3, h⟩ := qparams H hc hn h;obtain ⟨t, k3, D3, l3, a4, h⟩ := qwr (B := B) H h;obtain ⟨b, k4, D4, l4, a5, h⟩ := qbk H hc h;exact ⟨_, _, _, by omega, r52 p75 a1 a2 a3 a4 a5 (nd1 H (by omega) h.le 5 x false [_, _, _] (by simp)), h.bd⟩
theorem Bx2 (H : Toks s ls m) (hf : f ≤ k) {kd : Nat} {tx : List UInt8} (h : G4 s ls m c r (Pg.nod kd tx f []) k D) : ∃ x, r = ((x, []), k, D) ∧ E 78 [rf, N kd, .str tx, N f, N (en ls f), .nils] (PS4 s ls B k D) (trP ls x).pv (PS4 s ls B k D) :=
  ⟨_, h.bd.ret, nd0 H hf h.le kd tx true⟩
theorem AxL (H : Toks s ls m) (hf : f ≤ k) {kd : Nat} {tx : List UInt8} {us : List AT} (hu : us ≠ []) (h : G4 s ls m c r (Pg.nod kd tx f us) k D) :
    ∃ x, r = ((x, []), k, D) ∧ E 78 [rf, N kd, .str tx, N f, N (en ls f), .slice false 5 (Tr.pvs (trPs ls us))] (PS4 s ls B k D) (trP ls x).pv (PS4 s ls B k D) :=
  ⟨_, h.bd.ret, nd1 H hf h.le kd tx true us hu⟩
theorem qlv4 (H : Toks s ls m) (hc : OkE s ls m B n c) (hb : E 123 [rf, .str wNot] (PS4 s ls B k D) (.bool false) (PS4 s ls B k D)) (h : G4 s ls m c r lv4P k D) : E 119 [rf] (PS4 s ls B k D) (trP ls r.1.1).pv (PS4 s ls B r.2.1 r.2.2) := by
  obtain ⟨x, k1, D1, l1, a1, h⟩ := qex H hc 5 (by simp) h.mrk
  have hk1 := h.le;rcases h.ifW with ⟨hw, h⟩ | ⟨hw, h⟩
  · obtain ⟨a2, h⟩ := qrd (B := B) H h;obtain ⟨y, k2, D2, l2, a3, h⟩ := qex H hc 5 (by simp) h
    obtain ⟨x9, e9, n9⟩ := AxL H (by omega) (by simp) h
    rw [e9]; exact r119_2 p75 hb a1 (isB H hk1 (opL 4) hw) a2 a3 n9
  · have e := h.ret;rw [e]; exact r119_3 p75 hb a1 (isB H hk1 (opL 4) hw)
theorem w126 (H : Toks s ls m) (hk : k < m) {b : Bool} (hw : ((wAt s ls (k + 1)).2 == [40]) = b) : E 126 [rf, .str [40]] (PS4 s ls B k D) (.bool b) (PS4 s ls B k D) := by
  obtain ⟨t, ht⟩ := H.at (k := k + 1) (by omega)
  have h47 := p47 (B := B) (D := D) H (Nat.le_of_lt hk) (j := 1) (by omega) (t := t) (by rw [show min (k + 1) m = k + 1 by omega]; exact ht)
  have h102 := p102 (k := k) (B := B) (D := D) H ht;rw [Ak7 ht] at hw;by_cases h3 : t.k = 3
  · have := r126_1 (w := [40]) h47 (by omega) h102
    rwa [show (wd s t == [40]) = b from hw] at this
  · have hne : wd s t ≠ [40] := fun e => h3 (H.par _ t ht e)
    have : b = false := by rw [← hw]; simpa using hne
    rw [this]; exact r126_2 h47 (by omega)
theorem qprim (H : Toks s ls m) (hc : OkE s ls m B n c) (hn : n + 1 ≤ big4) (h : G4 s ls m c r primP k D) : E 162 [rf] (PS4 s ls B k D) (trP ls r.1.1).pv (PS4 s ls B r.2.1 r.2.2) := by
  have hk := h.le;rcases h.mrk.ifK with ⟨k2, h⟩ | ⟨k2, h⟩
  · obtain ⟨a1, h⟩ := qrd (B := B) H h;obtain ⟨x9, e9, n9⟩ := Bx2 H (by omega) h
    rw [e9]; exact r162_1 p75 (kdT H hk 2 k2) (r140_1 (kdT H hk 2 k2) a1 (dgt_eq _ (wd_len H k))) n9
  have a2 := kdF (B := B) (D := D) H hk 2 k2;rcases h.ifW with ⟨hb, h⟩ | ⟨hb, h⟩
  · obtain ⟨a1, h⟩ := qrd (B := B) H h;obtain ⟨x9, e9, n9⟩ := Bx2 H (by omega) h
    rw [e9]; exact r162_2 p75 a2 (isB H hk [wTrue, BqT] hb) a1 n9
  have a3 := isB (B := B) (D := D) H hk [wTrue, BqT] hb;have h := h.look;by_cases hk0 : (wAt s ls k).1 = 0
  · have hlt := H.lt hk (by omega)
    have a4 := kdT (B := B) (D := D) H hk 0 hk0;by_cases hp : (wAt s ls (k + 1)).2 = [40]
    · rw [if_pos ⟨hk0, hp⟩] at h;have a5 := w126 (B := B) (D := D) H hlt (b := true) (by rw [hp]; rfl)
      obtain ⟨a6, h⟩ := qrd (B := B) H h;obtain ⟨l, k3, D3, l3, a7, h⟩ := qargs H hc hn hp h;rcases a7 with ⟨rfl, a7⟩ | ⟨hl, a7⟩
      · obtain ⟨x9, e9, n9⟩ := Bx2 H (by omega) h
        rw [e9]; exact r162_5 p75 a2 a3 a4 a5 a6 a7 n9
      · obtain ⟨x9, e9, n9⟩ := AxL H (by omega) hl h
        rw [e9]; exact r162_6 p75 a2 a3 a4 a5 a6 a7 n9
    · rw [if_neg (fun x => hp x.2), if_pos hk0] at h
      have a5 := w126 (B := B) (D := D) H hlt (b := false) (by simpa using hp)
      obtain ⟨x, k3, D3, l3, a6, h⟩ := qplace H hc h;have e := h.ret;rw [e]; exact r162_3 p75 a2 a3 a4 a5 a6
  · rw [if_neg (fun x => hk0 x.1), if_neg hk0] at h
    have a4 := kdF (B := B) (D := D) H hk 0 hk0;rcases qac (B := B) H [91] h with ⟨a5, h⟩ | ⟨a5, h⟩
    · obtain ⟨l, k3, D3, l3, hl, a6, h⟩ := qlist H hc hn .ex h;obtain ⟨k4, D4, l4, a7, h⟩ := qxp (B := B) H [93] h;obtain ⟨x9, e9, n9⟩ := AxL H (by omega) hl h
      rw [e9]; exact r162_4 p75 a2 a3 a4 a5 a6 a7 n9
    · rcases qac (B := B) H wLen h with ⟨a6, h⟩ | ⟨a6, h⟩
      · obtain ⟨k3, D3, l3, a7, h⟩ := qxp (B := B) H [40] h;obtain ⟨v, k4, D4, l4, a8, h⟩ := qvar (B := B) H h;obtain ⟨k5, D5, l5, a9, h⟩ := qxp (B := B) H [41] h;obtain ⟨x9, e9, n9⟩ := AxL H (by omega) (by simp) h
        rw [e9]; exact r162_7 p75 a2 a3 a4 a5 a6 a7 a8 a9 n9
      · rcases qac (B := B) H [40] h with ⟨a7, h⟩ | ⟨a7, h⟩
        · obtain ⟨x, k3, D3, l3, a8, h⟩ := qe1 H hc h;obtain ⟨k4, D4, l4, a9, h⟩ := qxp (B := B) H [41] h;have e := h.ret;rw [e]; exact r162_8 p75 a2 a3 a4 a5 a6 a7 a8 a9
        · obtain ⟨a8, h⟩ := q53 (B := B) H h;obtain ⟨x, a9, h⟩ := qmiss (B := B) H h;have e := h.ret;rw [e]; exact r162_9 p75 a2 a3 a4 a5 a6 a7 a8 a9
end
end Go.Abs.Z

namespace Go.Abs.Z
open Go.Proofs Go.RowKit
section
variable {s : List UInt8} {ls : List Tk} {m n : Nat} {B : Sto} {k f : Nat} {D : List AD} {c : NT → Nat → List AD → Ans3} {r : Rs × Nat × List AD} {p q : Pg}
theorem two_w {x y z : List UInt8} (h1 : [x].contains z = false) (h2 : [y].contains z = false) : [x, y].contains z = false := by
  simp only [List.contains_cons, List.contains_nil, Bool.or_false] at h1 h2 ⊢;simp [h1, h2]
theorem two_l {x y z : List UInt8} (h1 : [x].contains z = true) : [x, y].contains z = true := by
  simp only [List.contains_cons, List.contains_nil, Bool.or_false] at h1 ⊢;simp [h1]
theorem two_r {x y z : List UInt8} (h1 : [y].contains z = true) : [x, y].contains z = true := by
  simp only [List.contains_cons, List.contains_nil, Bool.or_false] at h1 ⊢;simp [h1]
theorem qsv (H : Toks s ls m) (hc : OkE s ls m B n c) (hb : [wVar].contains (wAt s ls k).2 = true) (h : G4 s ls m c r svP k D) : E 73 [rf] (PS4 s ls B k D) (trP ls r.1.1).pv (PS4 s ls B r.2.1 r.2.2) := by
  have h := (h.mrk.read (w5 H)).2;have a1 := exT (B := B) (D := D) (k := k) H (by have := h.le; omega) wVar hb
  obtain ⟨x, k1, D1, l1, a2, h⟩ := qnm (B := B) H h;obtain ⟨t, k2, D2, l2, a3, h⟩ := qwr (B := B) H h;obtain ⟨k3, D3, l3, a4, h⟩ := qxp (B := B) H [61] h;obtain ⟨v, k4, D4, l4, a5, h⟩ := qe1 H hc h;obtain ⟨k5, D5, l5, a6, h⟩ := qxp (B := B) H [59] h;obtain ⟨y, e, a7⟩ := AxL (B := B) H (f := k) (by omega) (by simp) h
  rw [e]; exact r73 p75 a1 a2 a3 a4 a5 a6 a7
theorem qfor (H : Toks s ls m) (hc : OkE s ls m B n c) (hb : [wFor].contains (wAt s ls k).2 = true) (h : G4 s ls m c r forP k D) : E 79 [rf] (PS4 s ls B k D) (trP ls r.1.1).pv (PS4 s ls B r.2.1 r.2.2) := by
  have h := (h.mrk.read (w5 H)).2;have a1 := exT (B := B) (D := D) (k := k) H (by have := h.le; omega) wFor hb
  obtain ⟨x, k1, D1, l1, a2, h⟩ := qnm (B := B) H h;obtain ⟨k2, D2, l2, a3, h⟩ := qxp (B := B) H [61] h;obtain ⟨u, k3, D3, l3, a4, h⟩ := qe1 H hc h;obtain ⟨k4, D4, l4, a5, h⟩ := qxp (B := B) H wTo h;obtain ⟨v, k5, D5, l5, a6, h⟩ := qe1 H hc h;obtain ⟨b, k6, D6, l6, a7, h⟩ := qbk H hc h;obtain ⟨y, e, a8⟩ := AxL (B := B) H (f := k) (by omega) (by simp) h
  rw [e]; exact r79 p75 a1 a2 a3 a4 a5 a6 a7 a8
theorem q125 (H : Toks s ls m) (hk : k ≤ m) {b : Bool} (hb : begE (wAt s ls k) = b) : E 125 [rf] (PS4 s ls B k D) (.bool b) (PS4 s ls B k D) := by
  subst hb;unfold begE;by_cases h0 : (wAt s ls k).1 = 0
  · have e : ((wAt s ls k).1 == 0 || (wAt s ls k).1 == 2 || begW.contains (wAt s ls k).2) = true := by simp [h0]
    rw [e]; exact r125_1 (kdT H hk 0 h0)
  · by_cases h2 : (wAt s ls k).1 = 2
    · have e : ((wAt s ls k).1 == 0 || (wAt s ls k).1 == 2 || begW.contains (wAt s ls k).2) = true := by simp [h2]
      rw [e]; exact r125_2 (kdF H hk 0 h0) (kdT H hk 2 h2)
    · have e : ((wAt s ls k).1 == 0 || (wAt s ls k).1 == 2 || begW.contains (wAt s ls k).2) = begW.contains (wAt s ls k).2 := by simp [h0, h2]
      rw [e]; exact r125_3 (kdF H hk 0 h0) (kdF H hk 2 h2) (isB H hk begW rfl)
theorem qreturn (H : Toks s ls m) (hc : OkE s ls m B n c) (hb : [AxZ].contains (wAt s ls k).2 = true) (h : G4 s ls m c r returnP k D) : E 80 [rf] (PS4 s ls B k D) (trP ls r.1.1).pv (PS4 s ls B r.2.1 r.2.2) := by
  have a0 := isB (B := B) (D := D) H h.le [AxZ] hb;obtain ⟨a1, h⟩ := qread (B := B) H h.mrk;have hk1 := h.le;have h := h.look;cases hbg : begE (wAt s ls (k + 1)) with
  | true =>
    rw [hbg, if_pos rfl] at h;obtain ⟨x, k2, D2, l2, a2, h⟩ := qe1 H hc h;obtain ⟨k3, D3, l3, a3, h⟩ := qxp (B := B) H [59] h;obtain ⟨y, e, a4⟩ := AxL (B := B) H (f := k) (by omega) (by simp) h
    rw [e]; exact r80_2 p75 a0 a1 (q125 H hk1 hbg) a2 a3 a4
  | false =>
    rw [hbg, if_neg (by simp)] at h
    obtain ⟨x, a2, h⟩ := qnone (B := B) H h;obtain ⟨k3, D3, l3, a3, h⟩ := qxp (B := B) H [59] h;obtain ⟨y, e, a4⟩ := AxL (B := B) H (f := k) (by omega) (by simp) h
    rw [e]; exact r80_3 p75 a0 a1 (q125 H hk1 hbg) a2 a3 a4
theorem qassert (H : Toks s ls m) (hc : OkE s ls m B n c) (hb : [AxZ].contains (wAt s ls k).2 = false) (h : G4 s ls m c r assertP k D) : E 80 [rf] (PS4 s ls B k D) (trP ls r.1.1).pv (PS4 s ls B r.2.1 r.2.2) := by
  have a0 := isB (B := B) (D := D) H h.le [AxZ] hb;obtain ⟨a1, h⟩ := qread (B := B) H h.mrk;obtain ⟨x, k2, D2, l2, a2, h⟩ := qe1 H hc h;obtain ⟨k3, D3, l3, a3, h⟩ := qxp (B := B) H [59] h;obtain ⟨y, e, a4⟩ := AxL (B := B) H (f := k) (by omega) (by simp) h
  rw [e]; exact r80_1 p75 a0 a1 a2 a3 a4
theorem qsimple (H : Toks s ls m) (hc : OkE s ls m B n c) (hn : n + 1 ≤ big4) (h0 : (wAt s ls k).1 = 0) (h : G4 s ls m c r simpleP k D) : E 81 [rf] (PS4 s ls B k D) (trP ls r.1.1).pv (PS4 s ls B r.2.1 r.2.2) := by
  have hlt := H.lt h.le (by omega)
  have h := h.mrk.look;by_cases hp : (wAt s ls (k + 1)).2 = [40]
  · rw [if_pos hp] at h;have a1 := w126 (B := B) (D := D) H hlt (b := true) (by rw [hp]; rfl)
    obtain ⟨a2, h⟩ := qrd (B := B) H h;obtain ⟨l, k3, D3, l3, a3, h⟩ := qargs H hc hn hp h;obtain ⟨k4, D4, l4, a4, h⟩ := qxp (B := B) H [59] h;rcases a3 with ⟨rfl, a3⟩ | ⟨hl, a3⟩
    · obtain ⟨y, e, a5⟩ := Bx2 (B := B) H (f := k) (by omega) h
      rw [e]; exact r81_2 p75 a1 a2 a3 a4 a5
    · obtain ⟨y, e, a5⟩ := AxL (B := B) H (f := k) (by omega) hl h
      rw [e]; exact r81_3 p75 a1 a2 a3 a4 a5
  · rw [if_neg hp] at h;have a1 := w126 (B := B) (D := D) H hlt (b := false) (by simpa using hp)
    obtain ⟨x, k2, D2, l2, a2, h⟩ := qplace H hc h;obtain ⟨k3, D3, l3, a3, h⟩ := qxp (B := B) H [61] h;obtain ⟨v, k4, D4, l4, a4, h⟩ := qe1 H hc h;obtain ⟨k5, D5, l5, a5, h⟩ := qxp (B := B) H [59] h;obtain ⟨y, e, a6⟩ := AxL (B := B) H (f := k) (by omega) (by simp) h
    rw [e]; exact r81_1 p75 a1 a2 a3 a4 a5 a6
theorem qst (H : Toks s ls m) (hc : OkE s ls m B n c) (hn : n + 1 ≤ big4) (h : G4 s ls m c r (prog .st) k D) : E 38 [rf] (PS4 s ls B k D) (trP ls r.1.1).pv (PS4 s ls B r.2.1 r.2.2) := by
  have hk := h.le;rcases h.ifW with ⟨b1, h⟩ | ⟨b1, h⟩
  · exact r38_1 (isB H hk [wVar] b1) (qsv H hc b1 h)
  have a1 := isB (B := B) (D := D) H hk [wVar] b1;rcases h.ifW with ⟨b2, h⟩ | ⟨b2, h⟩
  · exact r38_2 a1 (isB H hk [wIf] b2) (hc.2 _ _ _ _ _ _ h.lst h.le h.ok b2)
  have a2 := isB (B := B) (D := D) H hk [wIf] b2;rcases h.ifW with ⟨b3, h⟩ | ⟨b3, h⟩
  · obtain ⟨x1, h⟩ := qread (B := B) H h.mrk;obtain ⟨u, k1, D1, l1, x2, h⟩ := qe1 H hc h;obtain ⟨b, k2, D2, l2, x3, h⟩ := qbk H hc h;obtain ⟨y, e, x4⟩ := AxL (B := B) H (f := k) (by omega) (by simp) h
    rw [e]; exact r38_3 a1 a2 (isB H hk [AwJ] b3) p75 x1 x2 x3 x4
  have a3 := isB (B := B) (D := D) H hk [AwJ] b3;rcases h.ifW with ⟨b4, h⟩ | ⟨b4, h⟩
  · exact r38_4 a1 a2 a3 (isB H hk [wFor] b4) (qfor H hc b4 h)
  have a4 := isB (B := B) (D := D) H hk [wFor] b4;rcases h.ifW with ⟨b5, h⟩ | ⟨b5, h⟩
  · exact r38_5 a1 a2 a3 a4 (isB H hk [AxZ, AjD] (two_l b5)) (qreturn H hc b5 h)
  rcases h.ifW with ⟨b6, h⟩ | ⟨b6, h⟩
  · exact r38_5 a1 a2 a3 a4 (isB H hk [AxZ, AjD] (two_r b6)) (qassert H hc b5 h)
  have a5 := isB (B := B) (D := D) H hk [AxZ, AjD] (two_w b5 b6);rcases h.ifK with ⟨b7, h⟩ | ⟨b7, h⟩
  · exact r38_6 a1 a2 a3 a4 a5 (kdT H hk 0 b7) (qsimple H hc hn b7 h)
  obtain ⟨a6, h⟩ := q53 (B := B) H h;obtain ⟨v, k1, D1, h1, l1, h2⟩ := h.mrk.call hc.1;obtain ⟨y, e, x4⟩ := Bx2 (B := B) H (f := k) (by omega) h2
  rw [e]; exact r38_7 a1 a2 a3 a4 a5 (kdF H hk 0 b7) a6 p75 (hc.2 _ _ _ _ _ _ h1 h.le h.ok (en ls k)) x4
theorem okP4 (H : Toks s ls m) : ∀ n, n ≤ big4 → OkE s ls m B n (runN (wAt s ls) n)
  | 0, _ => ⟨AxR (w5 H) 0, fun x k D v k1 D1 h => by cases h⟩
  | n + 1, hn => by
    have hc := okP4 H n (by omega)
    refine ⟨AxR (w5 H) (n + 1), fun x k D v k1 D1 hrun hk hD => ?_⟩
    have h : G4 s ls m (runN (wAt s ls) n) (v, k1, D1) (prog x) k D := ⟨hrun, hk, hD⟩;clear hrun;cases x with
    | ex L =>
      intro hL
      have low : ∀ (L : Nat), (L = 1 ∨ L = 2 ∨ L = 5 ∨ L = 6) → G4 s ls m (runN (wAt s ls) n) (v, k1, D1) (Pg.mrk fun f => Pg.cl (.ex (L + 1)) fun x => Pg.lst (.lp L f x)) k D →
          ∃ U1 : Tr, ∃ k2 D2, E (exF (L + 1)) [rf] (PS4 s ls B k D) U1.pv (PS4 s ls B k2 D2) ∧
            LE m69_0 l69_0 [(0, some rf), (1, some (fnv (exF (L + 1)))), (2, some (sl1 (opL L))), (6, some Z0), (7, some (N k)), (8, some (N (en ls k))), (9, some U1.pv)] (PS4 s ls B k2 D2) (.exit 0)
              [(0, some rf), (1, some (fnv (exF (L + 1)))), (6, some Z0), (9, some (trP ls v.1).pv)] (PS4 s ls B k1 D1) := by
        intro L hL h;obtain ⟨x, k2, D2, l2, a1, h⟩ := qex H hc (L + 1) (by omega) h.mrk
        exact ⟨_, _, _, a1, hc.2 _ _ _ _ _ _ h.lst h.le h.ok hL l2⟩
      rcases hL with rfl | rfl | rfl | rfl | rfl | rfl
      · obtain ⟨U, k2, D2, a1, a2⟩ := low 1 (by simp) h
        exact r35 (r69 p75 rfl a1 a2)
      · obtain ⟨U, k2, D2, a1, a2⟩ := low 2 (by simp) h
        exact r70 (r69 p75 rfl a1 a2)
      · rcases qac (B := B) H wNot h.mrk with ⟨a1, h⟩ | ⟨a1, h⟩
        · obtain ⟨x, k2, D2, l2, a2, h⟩ := qex H hc 3 (by simp) h
          obtain ⟨y, e, a3⟩ := AxL (B := B) H (f := k) (by omega) (by simp) h
          cases e; exact r119_1 p75 a1 a2 a3
        · exact qlv4 H hc a1 h
      · obtain ⟨U, k2, D2, a1, a2⟩ := low 5 (by simp) h
        exact r141 (r69 p75 rfl a1 a2)
      · obtain ⟨U, k2, D2, a1, a2⟩ := low 6 (by simp) h
        exact r152 (r69 p75 rfl a1 a2)
      · rcases qac (B := B) H [45] h.mrk with ⟨a1, h⟩ | ⟨a1, h⟩
        · obtain ⟨x, k2, D2, l2, a2, h⟩ := qex H hc 7 (by simp) h
          obtain ⟨y, e, a3⟩ := AxL (B := B) H (f := k) (by omega) (by simp) h
          cases e; exact r156_1 p75 a1 a2 a3
        · exact r156_2 p75 a1 (qprim H hc hn h)
    | lp L f x =>
      intro hL hf;have hpg : pur (exF (L + 1)) = false := by rcases hL with rfl | rfl | rfl | rfl <;> rfl
      have hwd : ((opL L).all spW.contains && decide ((opL L).length < 1000)) = true := by rcases hL with rfl | rfl | rfl | rfl <;> decide
      rcases G3.ifW (show G4 s ls m (runN (wAt s ls) n) (v, k1, D1) (Pg.ifW (opL L) (Pg.rd fun o => Pg.cl (.ex (L + 1)) fun y => Pg.bd 29 o f false [x, y] fun z => Pg.lst (.lp L f z)) (.ret (x, []))) k D from h) with ⟨hb, h⟩ | ⟨hb, h⟩
      · have a1 := isB (B := B) (D := D) H hk (opL L) hb hwd;obtain ⟨a2, h⟩ := qrd (B := B) H h;obtain ⟨y, k2, D2, l2, a3, h⟩ := qex H hc (L + 1) (by omega) h
        have h := h.bd;exact Bk3 a1 a2 hpg a3 (nd1 H (by omega) h.le 29 _ false [x, y] (by simp)) (hc.2 _ _ _ _ _ _ h.lst h.le h.ok hL (by omega))
      · have e := h.ret;cases e;exact r69_l0_out1 (isB (B := B) (D := D) H hk (opL L) hb hwd)
    | tl e acc =>
      intro hne hl;rcases qac (B := B) H [44] h with ⟨a1, h⟩ | ⟨a1, h⟩
      · obtain ⟨x, k2, D2, l2, a2, h⟩ := qelem H hc e h;obtain ⟨b1, b2⟩ := hc.2 _ _ _ _ _ _ h.lst h.le h.ok (by simp) (by simp; omega)
        rw [AjF] at b2;exact ⟨b1, BzY a1 (pur_el e) a2 (by rw [Az5]; unfold big4 at hl; unfold AqE; omega) b2⟩
      · have e := h.ret;cases e;exact ⟨hne, r105_l0_out1 a1⟩
    | bk =>
      rcases qac (B := B) H [123] h.mrk with ⟨a1, h⟩ | ⟨a1, h⟩
      · obtain ⟨u, k2, D2, h1, l2, h⟩ := h.call hc.1;have a2 := hc.2 _ _ _ _ _ _ h1 (by have := h.le; omega) (hD.le (by omega)) (by simp; omega) k (en ls k)
        obtain ⟨k3, D3, l3, a3, h⟩ := qxp (B := B) H [125] h;by_cases hu : u.2 = []
        · rw [hu] at a2 h;obtain ⟨y, e, a4⟩ := Bx2 (B := B) H (f := k) (by omega) h
          cases e; exact r77_1 p75 a1 a2 a3 a4
        · obtain ⟨y, e, a4⟩ := AxL (B := B) H (f := k) (by omega) hu h
          cases e;refine r77_1 p75 a1 a2 a3 ?_
          have : accD 5 (Tr.pvs (trPs ls u.2)) = .slice false 5 (Tr.pvs (trPs ls u.2)) := by
            cases hu2 : u.2 with
            | nil => exact absurd hu2 hu
            | cons a l => rfl
          rw [this]; exact a4
      · obtain ⟨a2, h⟩ := q53 (B := B) H h;have hle := h.le;have e := h.bd.ret;cases e;exact r77_2 p75 a1 a2 (nd0 H (Nat.le_refl _) hle 11 [] false)
    | sts acc =>
      intro hl a b;rcases h.ifW with ⟨hb, h⟩ | ⟨hb, h⟩
      · have e := h.ret;cases e;exact r77_l0_out1 (isB H hk stopW hb)
      · rcases h.ifK with ⟨h5, h⟩ | ⟨h5, h⟩
        · have e := h.ret;cases e;exact r77_l0_out2 (isB H hk stopW hb) (kdT H hk 5 h5)
        · obtain ⟨u, k2, D2, h1, l2, h⟩ := h.cl hc.1;have a1 := hc.2 _ _ _ _ _ _ h1 hk hD;have a2 := hc.2 _ _ _ _ _ _ h.lst h.le h.ok (by simp; omega) a b
          rw [AjF, AkJ] at a2;exact Bk1 (isB H hk stopW hb) (kdF H hk 5 h5) a1 (by rw [Tr.Aj5, List.length_map, Az5]; unfold big4 at hl; unfold AqE; omega) a2
    | st => exact qst H hc hn h
    | br =>
      intro hb;have h := (h.mrk.read (w5 H)).2;have a1 := exT (B := B) (D := D) (k := k) H (by have := h.le; omega) wIf hb
      obtain ⟨u, k2, D2, l2, a2, h⟩ := qe1 H hc h;obtain ⟨b, k3, D3, l3, a3, h⟩ := qbk H hc h;rcases qac (B := B) H wElse h with ⟨a4, h⟩ | ⟨a4, h⟩
      · have hk4 := h.le;have ok4 := h.ok;rcases h.ifW with ⟨b5, h⟩ | ⟨b5, h⟩
        · obtain ⟨o, k5, D5, h1, l5, h⟩ := h.cl hc.1;have a5 := hc.2 _ _ _ _ _ _ h1 hk4 ok4 b5;obtain ⟨y, e, a6⟩ := AxL (B := B) H (f := k) (by omega) (by simp) h
          cases e; exact r74_2 p75 a1 a2 a3 a4 (isB H hk4 [wIf] b5) a5 a6
        · obtain ⟨o, k5, D5, l5, a5, h⟩ := qbk H hc h;obtain ⟨y, e, a6⟩ := AxL (B := B) H (f := k) (by omega) (by simp) h
          cases e; exact r74_3 p75 a1 a2 a3 a4 (isB H hk4 [wIf] b5) a5 a6
      · obtain ⟨o, a5, h⟩ := qnone (B := B) H h;obtain ⟨y, e, a6⟩ := AxL (B := B) H (f := k) (by omega) (by simp) h
        cases e; exact r74_1 p75 a1 a2 a3 a4 a5 a6
    | sk f =>
      intro b;rcases h.ifK with ⟨h5, h⟩ | ⟨h5, h⟩
      · have e := h.ret;cases e;exact r38_l0_out1 (kdT H hk 5 h5)
      · have a1 := kdF (B := B) (D := D) H hk 5 h5;have h := h.mrk;by_cases hf : k = f
        · rw [if_pos hf] at h;rcases h.ifW with ⟨hb, h⟩ | ⟨hb, h⟩
          · have e := h.ret;cases e;exact r38_l0_out2 a1 (by omega) (isB H hk stopW hb)
          · obtain ⟨a2, h⟩ := qrd (B := B) H h;by_cases hs : (wAt s ls k).2 = [59]
            · rw [if_pos hs] at h;have e := h.ret;cases e;exact r38_l0_out4 a1 (by omega) (isB H hk stopW hb) a2 hs
            · rw [if_neg hs] at h;exact r38_l0_next1 a1 (by omega) (isB H hk stopW hb) a2 hs (hc.2 _ _ _ _ _ _ h.lst h.le h.ok b)
        · rw [if_neg hf] at h;rcases h.ifW with ⟨hb, h⟩ | ⟨hb, h⟩
          · have e := h.ret;cases e;exact r38_l0_out3 a1 (by omega) (r82 (isB H hk stopsW hb))
          · obtain ⟨a2, h⟩ := qrd (B := B) H h;by_cases hs : (wAt s ls k).2 = [59]
            · rw [if_pos hs] at h;have e := h.ret;cases e;exact r38_l0_out5 a1 (by omega) (r82 (isB H hk stopsW hb)) a2 hs
            · rw [if_neg hs] at h;exact r38_l0_next2 a1 (by omega) (r82 (isB H hk stopsW hb)) a2 hs (hc.2 _ _ _ _ _ _ h.lst h.le h.ok b)
    | sp =>
      intro f b q hf hq;rcases h.ifK with ⟨h5, h⟩ | ⟨h5, h⟩
      · have e := h.ret;cases e;exact r54_l0_out1 (kdT H hk 5 h5)
      · have a1 := kdF (B := B) (D := D) H hk 5 h5;rcases h.ifW with ⟨hb, h⟩ | ⟨hb, h⟩
        · have e := h.ret;cases e;exact r54_l0_out2 a1 (by omega) rfl (r55 (hq _ _) (isB H hk [wProc, wRec] hb))
        · obtain ⟨a2, h⟩ := qread (B := B) H h;exact Bk4 a1 (by omega) rfl (r55 (hq _ _) (isB H hk [wProc, wRec] hb)) a2 (hc.2 _ _ _ _ _ _ h.lst h.le h.ok f b q (by omega) hq)
    | pg acc =>
      intro hl T hq;have hlen : (Tr.pvs (trPs ls acc)).length + 1 ≤ AqE := by rw [Tr.Aj5, List.length_map, Az5]; unfold big4 at hl; unfold AqE; omega
      rcases h.ifK with ⟨h5, h⟩ | ⟨h5, h⟩
      · have e := h.ret;cases e;exact r23_l0_out1 (hq _ _) (kdT H hk 5 h5)
      · have a1 := kdF (B := B) (D := D) H hk 5 h5;rcases h.ifW with ⟨hb, h⟩ | ⟨hb, h⟩
        · obtain ⟨x, k2, D2, l2, a2, h⟩ := qrecord H hc hn hb h;have a3 := hc.2 _ _ _ _ _ _ h.lst h.le h.ok (by simp; omega) T hq
          rw [AjF, AkJ] at a3;exact r23_l0_next1 (hq _ _) a1 (isB H hk [wRec] hb) a2 hlen a3
        · have a2 := isB (B := B) (D := D) H hk [wRec] hb;rcases h.ifW with ⟨hb2, h⟩ | ⟨hb2, h⟩
          · obtain ⟨x, k2, D2, l2, a3, h⟩ := qproc H hc hn hb2 h;have a4 := hc.2 _ _ _ _ _ _ h.lst h.le h.ok (by simp; omega) T hq
            rw [AjF, AkJ] at a4;exact r23_l0_next2 (hq _ _) a1 a2 (isB H hk [wProc] hb2) a3 hlen a4
          · have a3 := isB (B := B) (D := D) H hk [wProc] hb2;obtain ⟨a4, h⟩ := q53 (B := B) H h;obtain ⟨a5, h⟩ := qread (B := B) H h.mrk;obtain ⟨u, k2, D2, h1, l2, h2⟩ := h.call hc.1;have a6 := hc.2 _ _ _ _ _ _ h1 h.le h.ok k (en ls k) (T.length + 1) (by omega) hq
            have a7 : LE m54_0 l54_0 [(0, some rf), (1, some (.func 55 [] [.ref (T.length + 1) 0])), (4, some Z0), (5, some (N k)), (6, some (N (en ls k)))] (PS4 s ls B k (rp D 7 k [])) (.exit 0) [(0, some rf), (4, some Z0), (5, some (N k)), (6, some (N (en ls k)))] (PS4 s ls B k2 D2) :=
              Bk5 (kdF H hk 5 h5) rfl a5 a6
            have h3 := h2.bd;have a8 := hc.2 _ _ _ _ _ _ h3.lst h3.le h3.ok (by simp; omega) T hq
            rw [AjF, AkJ] at a8;exact r23_l0_next3 (hq _ _) a1 a2 a3 a4 (hq _ _) (r54 p75 a7 (nd0 H (by omega) h3.le 1 [] false)) hlen a8
end
end Go.Abs.Z

namespace Go.Abs.Z
section
variable {w : Nat → Wd} {m : Nat} {c c' : NT → Nat → List AD → Ans3} {p q : Pg} {k : Nat}
def Tot (w : Nat → Wd) (m : Nat) (c : NT → Nat → List AD → Ans3) (p : Pg) (k : Nat) : Prop := k ≤ m → ∀ D, Dok k D → ∃ r, runP w c p k D = some r
theorem Tot.ret {v : Rs} : Tot w m c (.ret v) k := fun _ D _ => ⟨_, rfl⟩
theorem Tot.look {f : Wd → Wd → Nat → Pg} (h : Tot w m c (f (w k) (w (k + 1)) k) k) : Tot w m c (.look f) k := h
theorem Tot.mrk {g : Nat → Pg} (h : Tot w m c (g k) k) : Tot w m c (Pg.mrk g) k := h
theorem Tot.bd {kd f : Nat} {tx : List UInt8} {b : Bool} {ks : List AT} {g : AT → Pg} (h : ∀ x, Tot w m c (g x) k) : Tot w m c (Pg.bd kd tx f b ks g) k := h _
theorem Tot.nod {kd f : Nat} {tx : List UInt8} {ks : List AT} : Tot w m c (Pg.nod kd tx f ks) k := Tot.bd fun _ => .ret
theorem Tot.rep {e : Nat} {t : List UInt8} (h : Tot w m c p k) : Tot w m c (.report e t p) k := fun hk D hD => h hk _ (hD.rp e t)
theorem Tot.ifW {ws : List (List UInt8)} (h1 : ws.contains (w k).2 = true → Tot w m c p k) (h2 : ws.contains (w k).2 = false → Tot w m c q k) : Tot w m c (Pg.ifW ws p q) k := by
  show Tot w m c (if ws.contains (w k).2 = true then p else q) k
  cases hb : ws.contains (w k).2 with
  | true => exact h1 hb
  | false => exact h2 hb
theorem Tot.ifK {j : Nat} (h1 : (w k).1 = j → Tot w m c p k) (h2 : (w k).1 ≠ j → Tot w m c q k) : Tot w m c (Pg.ifK j p q) k := by
  show Tot w m c (if (w k).1 = j then p else q) k
  by_cases hb : (w k).1 = j
  · rw [if_pos hb]; exact h1 hb
  · rw [if_neg hb]; exact h2 hb
theorem Tot.read (he : w m = (5, [])) (h5 : (w k).1 ≠ 5) (h : k < m → Tot w m c p (k + 1)) : Tot w m c (.read p) k := fun hk D hD => by
  have hlt : k < m := by
    rcases Nat.lt_or_ge k m with h' | h'
    · exact h'
    · have : k = m := by omega
      subst this; rw [he] at h5; exact absurd rfl h5
  show ∃ r, (if (w k).1 = 5 then none else runP w c p (k + 1) D) = some r
  rw [if_neg h5];exact h hlt hlt D (hD.le (by omega))
theorem ne5 (he : w m = (5, [])) (h5 : ∀ k, k ≤ m → (w k).1 = 5 → (w k).2 = []) (hk : k ≤ m) {ws : List (List UInt8)} (hb : ws.contains (w k).2 = true) (hn : ws.contains [] = false) : (w k).1 ≠ 5 := by
  intro e;rw [h5 k hk e, hn] at hb; cases hb
structure Wok (w : Nat → Wd) (m : Nat) : Prop where
  fin : w m = (5, [])
  nil : ∀ k, k ≤ m → (w k).1 = 5 → (w k).2 = []
theorem Tot.ac (H : Wok w m) {ws : List (List UInt8)} (hn : ws.contains [] = false) (h1 : k < m → Tot w m c p (k + 1)) (h2 : Tot w m c q k) : Tot w m c (Pg.ifW ws (.read p) q) k := fun hk =>
  Tot.ifW (fun hb => Tot.read H.fin (ne5 H.fin H.nil hk hb hn) h1) (fun _ => h2) hk
theorem Tot.rd (he : w m = (5, [])) (h5 : (w k).1 ≠ 5) {g : List UInt8 → Pg} (h : k < m → ∀ x, Tot w m c (g x) (k + 1)) : Tot w m c (Pg.rd g) k := Tot.read he h5 (fun hl => h hl _)
theorem Tot.xp (H : Wok w m) {x : List UInt8} (hx : x ≠ []) (h : ∀ k1, k ≤ k1 → Tot w m c p k1) : Tot w m c (Pg.xp x p) k :=
  Tot.ac H (by cases x with | nil => exact absurd rfl hx | cons a l => rfl) (fun _ => h _ (by omega)) (.rep (h _ (Nat.le_refl _)))
theorem Tot.nm (H : Wok w m) {g : List UInt8 → Pg} (h : ∀ x k1, k ≤ k1 → Tot w m c (g x) k1) : Tot w m c (Pg.nm g) k :=
  Tot.ifK (fun h0 => Tot.rd H.fin (by omega) fun _ x => h x _ (by omega)) (fun _ => .rep (h _ _ (Nat.le_refl _)))
theorem Tot.num (H : Wok w m) {g : List UInt8 → Pg} (h : ∀ x k1, k ≤ k1 → Tot w m c (g x) k1) : Tot w m c (Pg.num g) k :=
  Tot.ifK (fun h0 => Tot.rd H.fin (by omega) fun _ x => h _ _ (by omega)) (fun _ => .rep (h _ _ (Nat.le_refl _)))
theorem Tot.nop {g : AT → Pg} (h : ∀ x, Tot w m c (g x) k) : Tot w m c (Pg.nop g) k := h _
theorem Tot.miss {g : AT → Pg} (h : ∀ x, Tot w m c (g x) k) : Tot w m c (Pg.miss g) k := h _
def TotC (m : Nat) (c : NT → Nat → List AD → Ans3) (x : NT) (k : Nat) : Prop := k ≤ m → ∀ D, Dok k D → ∃ r, c x k D = some r
theorem Tot.call (hc : OkI m c) {x : NT} {f : Rs → Pg} (hx : TotC m c x k) (h : ∀ v k1, k ≤ k1 → Tot w m c (f v) k1) : Tot w m c (.call x f) k := fun hk D hD => by
  obtain ⟨⟨v, k1, D1⟩, h1⟩ := hx hk D hD;obtain ⟨a1, a2, a3⟩ := hc x k D _ h1 hk hD;obtain ⟨r, h2⟩ := h v k1 a1 a2 D1 a3;exact ⟨r, by simp only [runP, h1, Option.bind_some]; exact h2⟩
theorem Tot.cl (hc : OkI m c) {x : NT} {g : AT → Pg} (hx : TotC m c x k) (h : ∀ v k1, k ≤ k1 → Tot w m c (g v) k1) : Tot w m c (Pg.cl x g) k := Tot.call hc hx fun v => h v.1
theorem Tot.lst (hc : OkI m c) {x : NT} (hx : TotC m c x k) : Tot w m c (Pg.lst x) k := Tot.call hc hx fun _ _ _ => .ret
theorem Tot.wr (H : Wok w m) {g : AT → Pg} (h : ∀ x k1, k ≤ k1 → Tot w m c (g x) k1) : Tot w m c (written g) k :=
  Tot.ac H rfl (fun _ => .mrk <| Tot.ac H rfl (fun _ => Tot.ac H rfl (fun _ => .num H fun x k1 l1 => .xp H (by decide) fun k2 l2 => .bd fun y => h y _ (by omega)) (.bd fun y => h y _ (by omega)))
    (Tot.ac H rfl (fun _ => .bd fun y => h y _ (by omega)) (.ifK (fun h0 => .rd H.fin (by omega) fun _ x => .bd fun y => h y _ (by omega)) (fun _ => .rep (.miss fun y => h y _ (by omega))))))
    (.nop fun x => h x _ (Nat.le_refl _))
theorem Tot.fd (H : Wok w m) {g : AT → Pg} (h : ∀ x k1, k ≤ k1 → Tot w m c (g x) k1) : Tot w m c (AvZ g) k :=
  .mrk <| .nm H fun x k1 l1 => .xp H (by decide) fun k2 l2 hk2 => Tot.ifW (fun hb => .mrk <| .rd H.fin (ne5 H.fin H.nil hk2 hb rfl) fun _ t => .bd fun y => .bd fun z => h z _ (by omega))
    (fun _ => .rep (.miss fun y => .bd fun z => h z _ (by omega))) hk2
theorem Tot.pa (H : Wok w m) {g : AT → Pg} (h : ∀ x k1, k ≤ k1 → Tot w m c (g x) k1) : Tot w m c (AvN g) k :=
  .mrk <| Tot.ac H rfl (fun _ => .nm H fun x k1 l1 => .wr H fun t k2 l2 => .bd fun y => h y _ (by omega)) (.nm H fun x k1 l1 => .wr H fun t k2 l2 => .bd fun y => h y _ (by omega))
theorem Tot.var (H : Wok w m) {g : AT → Pg} (h : ∀ x k1, k ≤ k1 → Tot w m c (g x) k1) : Tot w m c (AxT g) k :=
  .mrk <| .nm H fun x k1 l1 => .bd fun y => h y _ l1
theorem Tot.el (H : Wok w m) (hc : OkI m c) (e : El) {g : AT → Pg} (hx : TotC m c (.ex 1) k) (h : ∀ x k1, k ≤ k1 → Tot w m c (g x) k1) : Tot w m c (elemP e g) k := by
  cases e with
  | fd => exact .fd H h
  | pa => exact .pa H h
  | ex => exact .cl hc hx h
theorem Tot.li (H : Wok w m) (hc : OkI m c) (e : El) {g : List AT → Pg} (hx : TotC m c (.ex 1) k) (ht : ∀ acc k1, k ≤ k1 → TotC m c (.tl e acc) k1) (h : ∀ x k1, k ≤ k1 → Tot w m c (g x) k1) : Tot w m c (listP e g) k :=
  .el H hc e hx fun x k1 l1 => .call hc (ht _ _ l1) fun v k2 l2 => h _ _ (by omega)
end
def rk : NT → Nat
  | .ex 1 => 6
  | .ex 2 => 5
  | .ex 3 => 4
  | .ex 5 => 3
  | .ex 6 => 2
  | .ex _ => 1
  | .st => 7
  | .sts _ => 8
  | .pg _ => 9
  | _ => 0
def mu (m : Nat) (x : NT) (k : Nat) : Nat := (m - k) * 10 + rk x + 1
def okNT : NT → Prop
  | .ex L => L = 1 ∨ L = 2 ∨ L = 3 ∨ L = 5 ∨ L = 6 ∨ L = 7
  | .lp L _ _ => L = 1 ∨ L = 2 ∨ L = 5 ∨ L = 6
  | _ => True
section
variable {w : Nat → Wd} {m : Nat}
theorem st_pro (H : Wok w m) {n k : Nat} {D : List AD} {r : Rs × Nat × List AD} (hk : k ≤ m) (hD : Dok k D) (h5 : (w k).1 ≠ 5) (hs : stopW.contains (w k).2 = false) (hr : runN w (n + 1) .st k D = some r) : k < r.2.1 := by
  have hm : (w m).1 = 5 := by rw [H.fin]
  have hI := AxR (w := w) hm n
  have fin : ∀ {p : Pg} {D1 : List AD}, G3 w m (runN w n) r p (k + 1) D1 → k < r.2.1 := fun {p D1} h => by
    have := (AkD hm hI p _ _ r h.run h.le h.ok).1; omega
  have h : G3 w m (runN w n) r (prog .st) k D := ⟨hr, hk, hD⟩;rcases h.ifW with ⟨_, h⟩ | ⟨_, h⟩
  · exact fin (h.mrk.read hm).2
  rcases h.ifW with ⟨_, h⟩ | ⟨_, h⟩
  · have h1 := h.lst;cases n with
    | zero => cases h1
    | succ n =>
      have h2 : G3 w m (runN w n) r (prog .br) k D := ⟨h1, hk, hD⟩;have h3 := (h2.mrk.read hm).2;have := (AkD hm (AxR hm n) _ _ _ r h3.run h3.le h3.ok).1;omega
  rcases h.ifW with ⟨_, h⟩ | ⟨_, h⟩
  · exact fin (h.mrk.read hm).2
  rcases h.ifW with ⟨_, h⟩ | ⟨_, h⟩
  · exact fin (h.mrk.read hm).2
  rcases h.ifW with ⟨_, h⟩ | ⟨_, h⟩
  · exact fin (h.mrk.read hm).2
  rcases h.ifW with ⟨_, h⟩ | ⟨_, h⟩
  · exact fin (h.mrk.read hm).2
  rcases h.ifK with ⟨h0, h⟩ | ⟨_, h⟩
  · have h := h.mrk.look;by_cases hp : (w (k + 1)).2 = [40]
    · rw [if_pos hp] at h; exact fin (h.rd hm).2
    · rw [if_neg hp] at h;rcases h.mrk.mrk.ifK with ⟨_, h⟩ | ⟨h', _⟩
      · exact fin (h.rd hm).2
      · exact absurd h0 h'
  · obtain ⟨v, k1, D1, h1, l1, h2⟩ := h.rep.mrk.call hI;cases n with
    | zero => cases h1
    | succ n =>
      have g : G3 w m (runN w n) (v, k1, D1) (prog (.sk k)) k (rp D 6 k []) := ⟨h1, hk, hD.rp 6 []⟩;rcases g.ifK with ⟨h', _⟩ | ⟨_, g⟩
      · exact absurd h' h5
      · have g := g.mrk;rw [if_pos rfl] at g;rcases g.ifW with ⟨hb, _⟩ | ⟨_, g⟩
        · rw [hs] at hb; cases hb
        · have g2 := (g.rd hm).2;have e1 := (AkD hm (AxR hm n) _ _ _ _ g2.run g2.le g2.ok).1;have e2 := (AkD hm hI _ _ _ r h2.run h2.le h2.ok).1;have e1 : k + 1 ≤ k1 := e1;omega
theorem mu_lt {x y : NT} {k k1 : Nat} (h : k < k1) (hm : k1 ≤ m) (hx : rk y ≤ 9) : mu m y k1 < mu m x k := by unfold mu; omega
theorem rk9 (x : NT) : rk x ≤ 9 := by
  cases x with
  | ex L => unfold rk; split <;> omega
  | _ => simp [rk]
theorem run_all (H : Wok w m) : ∀ n x k, okNT x → (x = .br → (w k).1 ≠ 5) → mu m x k ≤ n → TotC m (runN w n) x k
  | 0, x, k, _, _, h => by unfold mu at h; omega
  | n + 1, x, k, hx, hbr, h => by
    have hm : (w m).1 = 5 := by rw [H.fin]
    have hc := AxR (w := w) hm n;have IH := run_all H n
    suffices hs : Tot w m (runN w n) (prog x) k from hs
    have nx : ∀ y k1, okNT y → k < k1 → (hb : y = .br → (w k1).1 ≠ 5 := by intro e; cases e) → TotC m (runN w n) y k1 := fun y k1 hy hl hb hk1 => IH y k1 hy hb (by have := mu_lt (m := m) (x := x) hl hk1 (rk9 y); omega) hk1
    have lo : ∀ y k1, okNT y → rk y < rk x → k ≤ k1 → (hb : y = .br → (w k1).1 ≠ 5 := by intro e; cases e) → TotC m (runN w n) y k1 := fun y k1 hy hr hl hb hk1 => by
      refine IH y k1 hy hb ?_ hk1
      rcases Nat.lt_or_ge k k1 with h' | h'
      · have := mu_lt (m := m) (x := x) h' hk1 (rk9 y); omega
      · have : k = k1 := by omega
        subst this; unfold mu at h ⊢; omega
    have hex1 : okNT (.ex 1) := .inl rfl
    have args : ∀ {k1 : Nat} {g : List AT → Pg}, k ≤ k1 → (w k1).1 ≠ 5 ∨ True → (∀ l k2, k < k2 → Tot w m (runN w n) (g l) k2) → (w k1).1 ≠ 5 → Tot w m (runN w n) (argsP g) k1 := fun {k1 g} l1 _ hg h5 =>
      .read H.fin h5 fun hlt => .ifW (fun hb => .xp H (by decide) fun k2 l2 => hg _ _ (by omega)) (fun hb => .li H hc .ex (nx _ _ hex1 (by omega)) (fun acc k2 l2 => nx _ _ trivial (by omega)) fun l k2 l2 => .xp H (by decide) fun k3 l3 => hg _ _ (by omega))
    have place : ∀ {k1 : Nat} {g : AT → Pg}, k ≤ k1 → (∀ x k2, k1 ≤ k2 → Tot w m (runN w n) (g x) k2) → Tot w m (runN w n) (Bq1 g) k1 := fun {k1 g} l1 hg =>
      .mrk <| .var H fun v k2 l2 => Tot.ac H rfl (fun hl => .cl hc (nx _ _ hex1 (by omega)) fun y k3 l3 => .xp H (by decide) fun k4 l4 => .bd fun z => hg z _ (by omega))
        (Tot.ac H rfl (fun _ => .nm H fun x k3 l3 => .bd fun z => hg z _ (by omega)) (hg v _ l2))
    have low : ∀ L, okNT (.ex (L + 1)) → rk (.ex (L + 1)) < rk x → 0 < rk x → (L = 1 ∨ L = 2 ∨ L = 5 ∨ L = 6) → Tot w m (runN w n) (Pg.mrk fun f => Pg.cl (.ex (L + 1)) fun x => Pg.lst (.lp L f x)) k := fun L h1 h2 h3 h4 =>
      .mrk <| .cl hc (lo _ _ h1 h2 (Nat.le_refl _)) fun v k1 l1 => .lst hc (lo _ _ h4 h3 l1)
    cases x with
    | ex L =>
      rcases hx with rfl | rfl | rfl | rfl | rfl | rfl
      · exact low 1 (by simp [okNT]) (by decide) (by decide) (by simp)
      · exact low 2 (by simp [okNT]) (by decide) (by decide) (by simp)
      · refine .mrk <| Tot.ac H rfl (fun hl => .cl hc (nx _ _ (by simp [okNT]) (by omega)) fun v k1 l1 => .nod) ?_
        exact .mrk <| .cl hc (lo (.ex 5) _ (by simp [okNT]) (by decide) (Nat.le_refl _)) fun v k1 l1 hk1 => Tot.ifW (fun hb => .rd H.fin (ne5 H.fin H.nil hk1 hb rfl) fun _ o => .cl hc (nx _ _ (by simp [okNT]) (by omega)) fun y k2 l2 => .nod) (fun _ => .ret) hk1
      · exact low 5 (by simp [okNT]) (by decide) (by decide) (by simp)
      · exact low 6 (by simp [okNT]) (by decide) (by decide) (by simp)
      · refine .mrk <| Tot.ac H rfl (fun hl => .cl hc (nx _ _ (by simp [okNT]) (by omega)) fun v k1 l1 => .nod) ?_
        refine .mrk <| .ifK (fun h2 => .rd H.fin (by omega) fun _ x => .nod) fun _ => ?_
        intro hk;refine Tot.ifW (fun hb => .rd H.fin (ne5 H.fin H.nil hk hb rfl) fun _ x => .nod) (fun _ => ?_) hk
        refine .look ?_
        by_cases h0 : (w k).1 = 0
        · by_cases hp : (w (k + 1)).2 = [40]
          · rw [if_pos ⟨h0, hp⟩];refine .rd H.fin (by omega) fun hl x hk1 => args (by omega) (.inr trivial) (fun l k2 l2 => .nod) ?_ hk1
            intro e;have := H.nil _ hk1 e;rw [hp] at this; cases this
          · rw [if_neg (fun x => hp x.2), if_pos h0]
            exact place (Nat.le_refl _) fun x k2 l2 => .ret
        · rw [if_neg (fun x => h0 x.1), if_neg h0]
          exact Tot.ac H rfl (fun hl => .li H hc .ex (nx _ _ hex1 (by omega)) (fun acc k2 l2 => nx _ _ trivial (by omega)) fun l k2 l2 => .xp H (by decide) fun k3 l3 => .nod)
            (Tot.ac H rfl (fun hl => .xp H (by decide) fun k2 l2 => .var H fun v k3 l3 => .xp H (by decide) fun k4 l4 => .nod)
            (Tot.ac H rfl (fun hl => .cl hc (nx _ _ hex1 (by omega)) fun v k2 l2 => .xp H (by decide) fun k3 l3 => .ret)
            (.rep (.miss fun x => .ret))))
    | lp L f x =>
      have hn : (opL L).contains [] = false := by rcases hx with rfl | rfl | rfl | rfl <;> rfl
      show Tot w m (runN w n) (Pg.ifW (opL L) (Pg.rd fun o => Pg.cl (.ex (L + 1)) fun y => Pg.bd 29 o f false [x, y] fun z => Pg.lst (.lp L f z)) (.ret (x, []))) k
      intro hk;exact Tot.ifW (fun hb => .rd H.fin (ne5 H.fin H.nil hk hb hn) fun _ o => .cl hc (nx _ _ (by rcases hx with rfl | rfl | rfl | rfl <;> simp [okNT]) (by omega)) fun y k2 l2 => .bd fun z => .lst hc (nx _ _ hx (by omega))) (fun _ => .ret) hk
    | tl e acc => exact Tot.ac H rfl (fun hl => .el H hc e (nx _ _ hex1 (by omega)) fun x k1 l1 => .lst hc (nx _ _ trivial (by omega))) .ret
    | bk => exact .mrk <| Tot.ac H rfl (fun hl => .call hc (nx _ _ trivial (by omega)) fun v k1 l1 => .xp H (by decide) fun k2 l2 => .nod) (.rep (.bd fun x => .ret))
    | sts acc =>
      refine .ifW (fun _ => .ret) fun hs => .ifK (fun _ => .ret) fun h5 => ?_
      intro hk D hD;have hst := lo .st k trivial (by simp [rk]) (Nat.le_refl _) (fun e => by cases e) hk D hD
      obtain ⟨⟨v, k1, D1⟩, h1⟩ := hst;obtain ⟨a1, a2, a3⟩ := hc _ _ _ _ h1 hk hD
      have hlt : k < k1 := by
        cases n with
        | zero => cases h1
        | succ n => exact st_pro H hk hD h5 hs h1
      obtain ⟨r, h2⟩ := nx (.sts (acc ++ [v.1])) k1 trivial hlt (fun e => by cases e) a2 D1 a3
      exact ⟨r, by simp only [Pg.cl, runP, h1, Option.bind_some, Pg.lst]; rw [h2]; rfl⟩
    | st =>
      intro hk;refine Tot.ifW (fun hb => .mrk <| .read H.fin (ne5 H.fin H.nil hk hb rfl) fun _ => .nm H fun x k1 l1 => .wr H fun t k2 l2 => .xp H (by decide) fun k3 l3 => .cl hc (nx _ _ hex1 (by omega)) fun v k4 l4 => .xp H (by decide) fun k5 l5 => .nod) (fun _ => ?_) hk
      refine .ifW (fun hb => .lst hc (lo .br _ trivial (by simp [rk]) (Nat.le_refl _) (fun _ => ne5 H.fin H.nil hk hb rfl))) (fun _ => ?_)
      refine .ifW (fun hb => .mrk <| .read H.fin (ne5 H.fin H.nil hk hb rfl) fun _ => .cl hc (nx _ _ hex1 (by omega)) fun v k1 l1 => .cl hc (nx _ _ trivial (by omega)) fun b k2 l2 => .nod) (fun _ => ?_)
      refine .ifW (fun hb => .mrk <| .read H.fin (ne5 H.fin H.nil hk hb rfl) fun _ => .nm H fun x k1 l1 => .xp H (by decide) fun k2 l2 => .cl hc (nx _ _ hex1 (by omega)) fun v k3 l3 => .xp H (by decide) fun k4 l4 =>
        .cl hc (nx _ _ hex1 (by omega)) fun v k5 l5 => .cl hc (nx _ _ trivial (by omega)) fun b k6 l6 => .nod) (fun _ => ?_)
      refine .ifW (fun hb => .mrk <| .read H.fin (ne5 H.fin H.nil hk hb rfl) fun _ => .look ?_) (fun _ => ?_)
      · cases begE (w (k + 1)) with
        | true => rw [if_pos rfl]; exact .cl hc (nx _ _ hex1 (by omega)) fun v k1 l1 => .xp H (by decide) fun k2 l2 => .nod
        | false => rw [if_neg (by simp)]; exact .nop fun x => .xp H (by decide) fun k2 l2 => .nod
      refine .ifW (fun hb => .mrk <| .read H.fin (ne5 H.fin H.nil hk hb rfl) fun _ => .cl hc (nx _ _ hex1 (by omega)) fun v k1 l1 => .xp H (by decide) fun k2 l2 => .nod) (fun _ => ?_)
      refine .ifK (fun h0 => .mrk <| .look ?_) fun _ => .rep <| .mrk <| .call hc (lo _ _ trivial (by simp [rk]) (Nat.le_refl _)) fun v k1 l1 => .nod
      by_cases hp : (w (k + 1)).2 = [40]
      · rw [if_pos hp];refine .rd H.fin (by omega) fun hl x hk1 => args (by omega) (.inr trivial) (fun l k2 l2 => .xp H (by decide) fun k3 l3 => .nod) ?_ hk1
        intro e;have := H.nil _ hk1 e;rw [hp] at this; cases this
      · rw [if_neg hp];exact place (Nat.le_refl _) fun x k2 l2 => .xp H (by decide) fun k3 l3 => .cl hc (lo _ _ hex1 (by decide) (by omega)) fun v k4 l4 => .xp H (by decide) fun k5 l5 => .nod
    | br =>
      exact Tot.mrk (.read H.fin (hbr rfl) fun _ => .cl hc (nx _ _ hex1 (by omega)) fun v k1 l1 => .cl hc (nx _ _ trivial (by omega)) fun b k2 l2 => Tot.ac H rfl (fun hl hk3 => Tot.ifW (fun hb => .cl hc (nx .br _ trivial (by omega) (fun _ => ne5 H.fin H.nil hk3 hb rfl)) fun o k3 l3 => .nod)
        (fun _ => .cl hc (nx _ _ trivial (by omega)) fun o k3 l3 => .nod) hk3) (.nop fun o => .nod))
    | sk f =>
      refine .ifK (fun _ => .ret) fun h5 => .mrk ?_
      by_cases hf : k = f
      · rw [if_pos hf];refine .ifW (fun _ => .ret) fun _ => .rd H.fin h5 fun _ x => ?_
        by_cases hs : x = [59]
        · rw [if_pos hs]; exact .ret
        · rw [if_neg hs]; exact .lst hc (nx _ _ trivial (by omega))
      · rw [if_neg hf];refine .ifW (fun _ => .ret) fun _ => .rd H.fin h5 fun _ x => ?_
        by_cases hs : x = [59]
        · rw [if_pos hs]; exact .ret
        · rw [if_neg hs]; exact .lst hc (nx _ _ trivial (by omega))
    | sp => exact .ifK (fun _ => .ret) fun h5 => .ifW (fun _ => .ret) fun _ => .read H.fin h5 fun _ => .lst hc (nx _ _ trivial (by omega))
    | pg acc =>
      refine .ifK (fun _ => .ret) fun h5 => ?_
      refine .ifW (fun hb => .mrk <| .read H.fin h5 fun _ => .nm H fun x k1 l1 => .xp H (by decide) fun k2 l2 => .li H hc .fd (nx _ _ hex1 (by omega)) (fun acc k3 l3 => nx _ _ trivial (by omega)) fun l k3 l3 => .xp H (by decide) fun k4 l4 => .bd fun y => .lst hc (nx _ _ trivial (by omega))) fun _ => ?_
      refine .ifW (fun hb => .mrk <| .read H.fin h5 fun _ => .nm H fun x k1 l1 => .mrk <| .xp H (by decide) fun k2 l2 => ?_) fun _ => .rep <| .mrk <| .read H.fin h5 fun _ => .call hc (nx _ _ trivial (by omega)) fun v k1 l1 => .bd fun y => .lst hc (nx _ _ trivial (by omega))
      have rest : ∀ (y : AT) (k3 : Nat), k < k3 → Tot w m (runN w n) (written fun t => Pg.cl .bk fun b => Pg.bd 5 x k false [y, t, b] fun x => Pg.lst (.pg (acc ++ [x]))) k3 := fun y k3 l3 =>
        .wr H fun t k4 l4 => .cl hc (nx _ _ trivial (by omega)) fun b k5 l5 => .bd fun z => .lst hc (nx _ _ trivial (by omega))
      exact .ifW (fun _ => .xp H (by decide) fun k3 l3 => .bd fun y => rest y _ (by omega)) (fun _ => .li H hc .pa (nx _ _ hex1 (by omega)) (fun acc k3 l3 => nx _ _ trivial (by omega)) fun l k3 l3 => .xp H (by decide) fun k4 l4 => .bd fun y => rest y _ (by omega))
end
end Go.Abs.Z
