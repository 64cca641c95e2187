/- A part of the proof: D17 D18. -/
import Derived.Test.YtfahhgdeociahaaGreatDoorWd
import Derived.Test.YtfahhgdeociahaaGreatDoorDa
import Derived.Test.YtfahhgdeociahaaGreatDoorDc
import Derived.Test.YtfahhgdeociahaaGreatDoorDe

set_option linter.unusedVariables false
set_option linter.unusedSimpArgs false
namespace Go.Abs.Z
open Go.Proofs Go.RowKit
def numB (w : List UInt8) : Bool := decide (w ≠ []) && (decide (w.length ≤ 9) && decide (w.length ≤ runL diB w))
def lexC (s : List UInt8) (t : Tk) : Nat := if t.k = 4 then 1 else if t.k = 2 then (if numB (wd s t) then 0 else 2) else if t.k = 0 ∧ 16 < (wd s t).length then 3 else 0
def lexP (s : List UInt8) : List Tk → List Dg
  | [] => []
  | t :: l => if lexC s t = 0 then lexP s l else ⟨lexC s t, t.a, t.e, []⟩ :: lexP s l
theorem BjB (s : List UInt8) : ∀ l l' : List Tk, lexP s (l ++ l') = lexP s l ++ lexP s l'
  | [], _ => rfl
  | t :: l, l' => by
    rw [List.cons_append, lexP, lexP];split
    · exact BjB s l l'
    · rw [BjB s l l']; rfl
theorem AwD (s : List UInt8) : ∀ l : List Tk, (lexP s l).length ≤ l.length
  | [] => Nat.le_refl _
  | t :: l => by
    have := AwD s l;rw [lexP]; split <;> simp <;> omega
theorem n98 (w : List UInt8) (hw : w.length ≤ 9) : ∀ (n j : Nat) (z : Int), j + n = w.length → ∃ z', LE m98_0 l98_0 [(4, some (I z)), (22, some (.slice false 1 (w.map by8))), (23, some (N w.length)), (24, some (N j))] [] (.exit 0) [(4, some (I z')), (22, some (.slice false 1 (w.map by8)))] []
  | 0, j, z, h => ⟨z, r98_l0_out1 (by omega)⟩
  | n + 1, j, z, h => by
    obtain ⟨z', h'⟩ := n98 w hw n (j + 1) _ (by omega)
    exact ⟨z', BjZ (by omega) (List.getElem?_eq_getElem (by omega)) rfl rfl rfl rfl (by omega) h'⟩
theorem e98 (w : List UInt8) (hl : w.length < 1000000) : ∃ z, E 98 [.str w] [] (.tuple [I z, .bool (numB w)]) [] := by
  by_cases h1 : w = []
  · exact ⟨0, by subst h1; exact r98_1 rfl⟩
  · by_cases h2 : 9 < w.length
    · have : numB w = false := by simp [numB]; omega
      rw [this]; exact ⟨0, r98_2 h1 (by omega)⟩
    · have a1 := e134 diB rfl e135 w hl 0 (by omega)
      rw [List.drop_zero, Nat.zero_add] at a1;by_cases h3 : runL diB w < w.length
      · have : numB w = false := by simp [numB]; omega
        rw [this]; exact ⟨0, r98_3 h1 (by omega) a1 (by omega)⟩
      · have : numB w = true := by simp [numB]; exact ⟨h1, by omega, by omega⟩
        rw [this];obtain ⟨z, hz⟩ := n98 w (by omega) w.length 0 0 (by omega)
        exact ⟨z, r98_4 h1 (by omega) a1 (by omega) hz⟩
def lxH (D : List Dg) : PV := match D with | [] => .nils | _ :: D => .arr 1 D.length 0 (D.length + 1) 5
def lxS (D : List Dg) : Sto := match D with | [] => [] | d :: D => [[.arrv D.length 5 ((d :: D).map Dg.pv)]]
theorem Az3 (D : List Dg) : Hv (lxH D) := by cases D <;> first | exact .nil | exact .arr ..
theorem lxApp {X : List PV} (D : List Dg) (d : Dg) (h : D.length < 100000) : OpEv pur run (.w (.appA 5)) [lxH D, .slice true 5 [d.pv]] (X :: lxS D) [some (lxH (D ++ [d]))] (X :: lxS (D ++ [d])) := by
  cases D with
  | nil => exact BjM (T := []) rfl
  | cons e D =>
    have h0 := BjN (X := X) (B := []) (g := D.length) (n := D.length + 1) (Ds := (e :: D).map Dg.pv) (o := true) (d := d.pv) rfl (by simp) (by simp [AqE] at h ⊢; omega)
    have e1 : lxH (e :: D ++ [d]) = .arr 1 (D.length + 1) 0 (D.length + 1 + 1) 5 := by
      show PV.arr 1 (D ++ [d]).length 0 ((D ++ [d]).length + 1) 5 = _;simp
    have e2 : lxS (e :: D ++ [d]) = [[.arrv (D.length + 1) 5 ((e :: D).map Dg.pv ++ [d.pv])]] := by
      show [[PV.arrv (D ++ [d]).length 5 ((e :: (D ++ [d])).map Dg.pv)]] = _;simp
    rw [e1, e2]; exact h0
theorem st46 (s : List UInt8) (hs : s.length ≤ 4096) (all : List Tk) (ha : all.length ≤ 5000) : ∀ (rest done : List Tk), all = done ++ rest → (∀ t ∈ rest, t.a ≤ t.e ∧ t.e ≤ s.length) → 
    LE m46_0 l46_0 [(0, some (.str s)), (7, some (.ref 0 0)), (8, some (lxH (lexP s done))), (26, some (.slice false 4 (all.map Tk.pv))), (27, some (N all.length)), (28, some (N done.length))] (q0 s (accP 4 ((good done).map Tk.pv)) :: lxS (lexP s done)) (.exit 0)
      [(0, some (.str s)), (7, some (.ref 0 0)), (8, some (lxH (lexP s all))), (26, some (.slice false 4 (all.map Tk.pv)))] (q0 s (accP 4 ((good all).map Tk.pv)) :: lxS (lexP s all))
  | [], done, e, _ => by
    rw [List.append_nil] at e;subst e;exact r46_l0_out1 (Az3 _) (by omega)
  | t :: rest, done, e, hr => by
    have hlen : all.length = done.length + (rest.length + 1) := by rw [e]; simp
    have ih := st46 s hs all ha rest (done ++ [t]) (by rw [e]; simp) (fun u hu => hr u (by simp [hu]))
    have g1 : all[done.length]? = some t := by rw [e]; simp
    obtain ⟨h1, h2⟩ := hr t (by simp)
    have x1 : semP (.ssl true true) [.str s, N t.a, N t.e] = some [some (.str (wd s t))] := p_ssl s t.a t.e h1 h2;have hw : (wd s t).length ≤ s.length := by simp only [wd, List.length_take, List.length_drop]; omega
    rw [List.length_append, List.length_singleton] at ih;have hl : (lexP s done).length ≤ done.length := AwD s done
    have eL : lexP s (done ++ [t]) = if lexC s t = 0 then lexP s done else lexP s done ++ [⟨lexC s t, t.a, t.e, []⟩] := by
      rw [BjB]; simp only [lexP]; split <;> simp
    have eG : good (done ++ [t]) = if t.k = 4 then good done else good done ++ [t] := by
      unfold good;rw [List.filter_append];by_cases h : t.k = 4
      · simp [h]
      · simp [h]
    have gl : (good done).length ≤ done.length := List.length_filter_le _ _;have hm : ((good done).map Tk.pv).length + 1 ≤ AqE := by rw [List.length_map]; unfold AqE; omega
    rw [eL, eG] at ih;by_cases c4 : t.k = 4
    · have hc : lexC s t = 1 := by simp [lexC, c4]
      rw [hc, if_neg (by decide), if_pos c4] at ih
      exact r46_l0_next1 (Az3 _) (by omega) g1 x1 (by omega) (Az3 _) (lxApp _ ⟨1, t.a, t.e, []⟩ (by omega)) (by omega) ih
    · rw [if_neg c4, List.map_append, List.map_singleton] at ih;by_cases c2 : t.k = 2
      · obtain ⟨z, hz⟩ := e98 (wd s t) (by omega)
        cases hn : numB (wd s t) with
        | true =>
          have hc : lexC s t = 0 := by simp [lexC, c2, hn]
          rw [hc, if_pos rfl] at ih;rw [hn] at hz;exact r46_l0_next2 (Az3 _) (by omega) g1 x1 (by omega) (by omega) hz hm (by omega) ih
        | false =>
          have hc : lexC s t = 2 := by simp [lexC, c2, hn]
          rw [hc, if_neg (by decide)] at ih
          rw [hn] at hz;exact r46_l0_next3 (Az3 _) (by omega) g1 x1 (by omega) (by omega) hz (Az3 _) (lxApp _ ⟨2, t.a, t.e, []⟩ (by omega)) hm (by omega) ih
      · by_cases c0 : t.k = 0
        · by_cases cl : 16 < (wd s t).length
          · have hc : lexC s t = 3 := by simp [lexC, c0, cl]
            rw [hc, if_neg (by decide)] at ih
            exact r46_l0_next5 (Az3 _) (by omega) g1 x1 (by omega) (by omega) (by omega) (by omega) (Az3 _) (lxApp _ ⟨3, t.a, t.e, []⟩ (by omega)) hm (by omega) ih
          · have hc : lexC s t = 0 := by simp [lexC, c0, cl]
            rw [hc, if_pos rfl] at ih;exact r46_l0_next6 (Az3 _) (by omega) g1 x1 (by omega) (by omega) (by omega) (by omega) hm (by omega) ih
        · have hc : lexC s t = 0 := by simp [lexC, c0, c2, c4]
          rw [hc, if_pos rfl] at ih;exact r46_l0_next4 (Az3 _) (by omega) g1 x1 (by omega) (by omega) (by omega) hm (by omega) ih
def lexs (s : List UInt8) : List Dg := lexP s (scanT s)
theorem e46 (s : List UInt8) (hs : s.length ≤ 4096) : E 46 [.str s] [] (.tuple [.ref 0 0, lxH (lexs s), I 0]) (PS4 s (toksT s) (lxS (lexs s)) 0 []) := by
  have hl : (scanT s).length ≤ s.length + 1 := AzT (s.length + 1) s 0;have hw := (Aj2 s (s.length + 1) 0 (by omega) (by omega)).wf
  have h := st46 s hs (scanT s) (by omega) (scanT s) [] rfl (fun t ht => ⟨(hw t ht).1.ord.1, (hw t ht).1.ord.2.1⟩)
  have hT := (Av6 s (by omega)).len
  have e : q0 s (accP 4 ((toksT s).map Tk.pv)) = pc s (toksT s) 0 0 .nils (-1) := by
    cases hg : toksT s with
    | nil => rw [hg] at hT; cases hT
    | cons t ts => rfl
  have h2 := r46_2 (e97 s hs) rfl (Az3 _) h
  have e3 : PS4 s (toksT s) (lxS (lexs s)) 0 [] = pc s (toksT s) 0 0 .nils (-1) :: lxS (lexs s) := by
    show pc s (toksT s) 0 0 .nils (-1) :: (lxS (lexs s) ++ []) = _;rw [List.append_nil]
  rw [e3, ← e]; exact h2
end Go.Abs.Z

namespace Go.Abs.Z
open Go.Proofs Go.RowKit
def dgA (ls : List Tk) (d : AD) : Dg := ⟨d.c, tA ls d.i, tE ls d.i, d.t⟩
def dgs (ls : List Tk) (D : List AD) : List Dg := D.map (dgA ls)
theorem dgs_pv (ls : List Tk) (D : List AD) : (dgs ls D).map Dg.pv = D.map (dgp ls) := by simp [dgs, dgp, dgA, Function.comp_def]
theorem BzZ (Ds : List Dg) : (Ds.map Dg.pv).map PV.Aq0 = Ds.map Dg.pv ∧ (Ds.map Dg.pv).all PV.ones = true ∧ (Ds.map Dg.pv).all PV.okc = true ∧ (Ds.map Dg.pv).all (fun e => e.flat && e.cells.all PV.flat) = true := by
  induction Ds with
  | nil => exact ⟨rfl, rfl, rfl, rfl⟩
  | cons d Ds ih =>
    obtain ⟨a, b, c, e⟩ := ih;refine ⟨?_, ?_, ?_, ?_⟩
    · rw [List.map_cons, List.map_cons, a]; rfl
    · rw [List.map_cons, List.all_cons, b]; rfl
    · rw [List.map_cons, List.all_cons, c]; rfl
    · rw [List.map_cons, List.all_cons, e]; rfl
theorem AwV {H T : Sto} {g : Nat} {Ds : List Dg} : rowA (aS H T g Ds) H.length g 0 Ds.length 5 = some (Ds.map Dg.pv) := by
  have : (Ds.map Dg.pv).take Ds.length = Ds.map Dg.pv := List.take_of_length_le (by simp)
  unfold rowA;simp [aS_get, arrOf, this]
theorem appA_row {σ : Sto} {id g n : Nat} {es xs : List PV} (h : rowA σ id g 0 n 5 = some es) : appA 5 (.arr id g 0 n 5) xs σ = (if xs.isEmpty then some ([some (.arr id g 0 n 5)], σ)
    else if n + xs.length ≤ AqE ∧ xs.all PV.ones ∧ xs.all PV.okc then some ([some (.arr id (g + 1) 0 (n + xs.length) 5)], σ.set id [.arrv (g + 1) 5 (es ++ xs.map PV.Aq0)]) else none) := by
  simp only [appA, if_true, h]
theorem appM_nil (σ : Sto) : OpEv pur run (.w (.appA 5)) [.nils, .nils] σ [some .nils] σ := ⟨0, fun _ _ => rfl⟩
theorem appM_new {σ : Sto} {H T : Sto} {g : Nat} {Ds : List Dg} (he : σ = aS H T g Ds) (hne : Ds ≠ []) (hl : Ds.length < 1000000) : OpEv pur run (.w (.appA 5)) [.nils, .arr H.length g 0 Ds.length 5] σ [some (.arr σ.length 0 0 Ds.length 5)] (aS σ [] 0 Ds) := by
  obtain ⟨a, b, c, _⟩ := BzZ Ds
  have hr : appXA 5 σ (.arr H.length g 0 Ds.length 5) = some (Ds.map Dg.pv) := by
    show (if 5 = 5 then rowA σ H.length g 0 Ds.length 5 else none) = _
    rw [if_pos rfl, he, AwV]
  refine ⟨0, fun n _ => ?_⟩
  show (match appXA 5 σ (.arr H.length g 0 Ds.length 5) with | some xs => appA 5 .nils xs σ | none => none) = _
  rw [hr];show (if _ then _ else _) = _
  rw [if_neg (by cases Ds <;> simp at hne ⊢), if_pos ⟨by rw [List.length_map]; unfold AqE; omega, b, c⟩, a, List.length_map]
  rfl
theorem appM_old {H T : Sto} {g : Nat} {Ds : List Dg} : OpEv pur run (.w (.appA 5)) [.arr H.length g 0 Ds.length 5, .nils] (aS H T g Ds) [some (.arr H.length g 0 Ds.length 5)] (aS H T g Ds) := by
  refine ⟨0, fun n _ => ?_⟩
  show appA 5 (.arr H.length g 0 Ds.length 5) [] (aS H T g Ds) = _;rw [appA_row AwV];rfl
theorem appM_both {σ : Sto} {H T H' T' : Sto} {g g' : Nat} {Ds Es : List Dg} (he : σ = aS H T g Ds) (he' : σ = aS H' T' g' Es) (hne : Es ≠ []) (hl : Ds.length + Es.length < 1000000) :
    OpEv pur run (.w (.appA 5)) [.arr H.length g 0 Ds.length 5, .arr H'.length g' 0 Es.length 5] σ [some (.arr H.length (g + 1) 0 (Ds ++ Es).length 5)] (aS H T (g + 1) (Ds ++ Es)) := by
  obtain ⟨a, b, c, _⟩ := BzZ Es
  have hr : appXA 5 σ (.arr H'.length g' 0 Es.length 5) = some (Es.map Dg.pv) := by
    show (if 5 = 5 then rowA σ H'.length g' 0 Es.length 5 else none) = _
    rw [if_pos rfl, he', AwV]
  refine ⟨0, fun n _ => ?_⟩
  show (match appXA 5 σ (.arr H'.length g' 0 Es.length 5) with | some xs => appA 5 (.arr H.length g 0 Ds.length 5) xs σ | none => none) = _
  rw [hr, he];show appA 5 (.arr H.length g 0 Ds.length 5) (Es.map Dg.pv) (aS H T g Ds) = _;rw [appA_row AwV, if_neg (by cases Es <;> simp at hne ⊢), if_pos ⟨by rw [List.length_map]; unfold AqE; omega, b, c⟩, a, aS_set, List.length_map, List.length_append]
  unfold aS;rw [List.map_append]
theorem frz_aS {H T : Sto} {g : Nat} {Ds : List Dg} : OpEv pur run (.w .frz) [.arr H.length g 0 Ds.length 5] (aS H T g Ds) [some (.slice false 5 (Ds.map Dg.pv))] ((aS H T g Ds).set H.length [.dead]) := by
  obtain ⟨_, _, _, d⟩ := BzZ Ds;refine ⟨0, fun n _ => ?_⟩
  show (match rowA (aS H T g Ds) H.length g 0 Ds.length 5 with
    | some es => if es.all (fun e => e.flat && e.cells.all PV.flat) then some ([some (PV.slice false 5 es)], (aS H T g Ds).set H.length [.dead]) else none
    | none => none) = _
  rw [AwV];show (if _ then _ else _) = _
  rw [if_pos d]
theorem frz_nil (σ : Sto) : OpEv pur run (.w .frz) [.nils] σ [some .nils] σ := ⟨0, fun _ _ => rfl⟩
theorem e99z (σ : Sto) : E 99 [.nils, .func 100 [] []] σ (.tuple []) σ :=
  r99z (r136z (n := 0) (BzR (m1 := 0) (m2 := 20) (by omega)) (r149z (a := 0) (b := 0) (by omega) (BzN (by omega))) (BzQ (m1 := 20) (by omega)))
theorem lx_aS (X : List PV) (d : Dg) (LX : List Dg) (T : Sto) : X :: (lxS (d :: LX) ++ T) = aS [X] T LX.length (d :: LX) := rfl
theorem ar_aS (X : List PV) (ls : List Tk) (B : Sto) (d : AD) (D : List AD) : X :: (B ++ arS ls (d :: D)) = aS (X :: B) [] D.length (dgs ls (d :: D)) := by
  unfold aS;rw [dgs_pv]; rfl
theorem appM {X : List PV} {ls : List Tk} {LX : List Dg} {Bx : Sto} {D : List AD} (h1 : LX.length < 100000) (h2 : D.length < 100000) :
    ∃ h σ1, OpEv pur run (.w (.appA 5)) [lxH LX, wrP ((lxS LX ++ Bx).length + 1) D] (X :: ((lxS LX ++ Bx) ++ arS ls D)) [some h] σ1 ∧
      ((h = .nils ∧ LX ++ dgs ls D = []) ∨ ∃ H T g, h = .arr H.length g 0 (LX ++ dgs ls D).length 5 ∧ σ1 = aS H T g (LX ++ dgs ls D)) := by
  have hlen : (dgs ls D).length = D.length := by simp [dgs]
  cases LX with
  | nil => cases D with
    | nil => exact ⟨_, _, appM_nil _, .inl ⟨rfl, rfl⟩⟩
    | cons d D =>
      have h := appM_new (σ := X :: (Bx ++ arS ls (d :: D))) (ar_aS X ls Bx d D) (by simp [dgs]) (by omega)
      have e : wrP ((lxS [] ++ Bx).length + 1) (d :: D) = .arr (X :: Bx).length D.length 0 (dgs ls (d :: D)).length 5 := by rw [hlen]; rfl
      rw [e];exact ⟨_, _, h, .inr ⟨_, _, _, rfl, rfl⟩⟩
  | cons e LX =>
    cases D with
    | nil =>
      have h := appM_old (H := [X]) (T := Bx) (g := LX.length) (Ds := e :: LX);refine ⟨_, _, ?_, .inr ⟨[X], Bx, LX.length, by rw [show dgs ls [] = [] from rfl, List.append_nil], by rw [show dgs ls [] = [] from rfl, List.append_nil]⟩⟩
      rw [show arS ls [] = [] from rfl, List.append_nil]
      exact h
    | cons d D =>
      have h := appM_both (σ := X :: ((lxS (e :: LX) ++ Bx) ++ arS ls (d :: D))) (H := [X]) (T := Bx ++ arS ls (d :: D)) (g := LX.length) (Ds := e :: LX) (by rw [List.append_assoc, lx_aS]) (ar_aS X ls (lxS (e :: LX) ++ Bx) d D) (by simp [dgs]) (by omega)
      have e' : wrP ((lxS (e :: LX) ++ Bx).length + 1) (d :: D) = .arr (X :: (lxS (e :: LX) ++ Bx)).length D.length 0 (dgs ls (d :: D)).length 5 := by rw [hlen]; rfl
      rw [e'];exact ⟨_, _, h, .inr ⟨_, _, _, rfl, rfl⟩⟩
theorem AwI (q : Nat) (D : List AD) : Hv (wrP q D) := by cases D <;> first | exact .nil | exact .arr ..
theorem e48 {s : List UInt8} {ls : List Tk} {k l : Nat} {bf : Int} {LX : List Dg} {Bx : Sto} {D : List AD} (h1 : LX.length < 100000) (h2 : D.length < 100000) (hb : Bd (LX ++ dgs ls D)) :
    ∃ R σ, Sd (LX ++ dgs ls D) R ∧ E 48 [.ref 0 0, lxH LX] (pc s ls k l (wrP ((lxS LX ++ Bx).length + 1) D) bf :: ((lxS LX ++ Bx) ++ arS ls D)) (accD 5 (R.map Dg.pv)) σ := by
  obtain ⟨h, σ1, hA, hh⟩ := appM (X := pc s ls k l (wrP ((lxS LX ++ Bx).length + 1) D) bf) (ls := ls) (Bx := Bx) h1 h2;rcases hh with ⟨rfl, he⟩ | ⟨H, T, g, rfl, rfl⟩
  · exact ⟨[], σ1, by rw [he]; exact Sd.refl List.Pairwise.nil, r48 (Az3 _) (AwI _ _) .nil hA (e99z _) (frz_nil _)⟩
  · have hlen : (dgs ls D).length = D.length := by simp [dgs]
    obtain ⟨R, hE, hS⟩ := e99 (H := H) (T := T) (g := g) (Ds := LX ++ dgs ls D) (by rw [List.length_append]; omega) hb
    have hf := frz_aS (H := H) (T := T) (g := g) (Ds := R);rw [hS.len] at hf;have e : accD 5 (R.map Dg.pv) = if R = [] then .nils else .slice false 5 (R.map Dg.pv) := by cases R <;> rfl
    by_cases hR : R = []
    · 
      subst hR;have h0 := hS.len;simp only [List.length_nil] at h0;have h0' : LX ++ dgs ls D = [] := List.length_eq_zero_iff.1 h0.symm;obtain ⟨rfl, h3⟩ := List.append_eq_nil_iff.1 h0';have : D = [] := List.length_eq_zero_iff.1 (by rw [← hlen, h3]; rfl)
      subst this;exact ⟨[], _, Sd.refl List.Pairwise.nil, r48 (Az3 []) (AwI _ []) .nil (appM_nil _) (e99z _) (frz_nil _)⟩
    · refine ⟨R, (aS H T g R).set H.length [.dead], hS, r48 (Az3 _) (AwI _ _) (.arr ..) hA hE ?_⟩
      rw [e, if_neg hR]; exact hf
def finD (w : Nat → Wd) (k : Nat) (D : List AD) : List AD := if (w k).1 = 5 then D else D ++ [⟨4, k, wEnd⟩]
theorem apW {X : List PV} {ls : List Tk} {B : Sto} (D : List AD) (d : AD) (h : D.length < 100000) : OpEv pur run (.w (.appA 5)) [wrP (B.length + 1) D, .slice true 5 [dgp ls d]] (X :: (B ++ arS ls D)) [some (wrP (B.length + 1) (D ++ [d]))] (X :: (B ++ arS ls (D ++ [d]))) := by
  obtain ⟨e1, e2⟩ := rp_snoc (ls := ls) D d;rw [e1, e2];cases D with
  | nil =>
    have := BjM (X := X) (T := B) (o := true) (d := dgp ls d) rfl;simpa [arS, wrP] using this
  | cons e D => exact BjN (X := X) (B := B) (g := D.length) (n := D.length + 1) (Ds := (e :: D).map (dgp ls)) (o := true) (d := dgp ls d) rfl (by simp) (by simp [AqE] at h ⊢; omega)
theorem ldWr {s : List UInt8} {ls : List Tk} {B : Sto} {k : Nat} {D : List AD} : semR (.ld 1 false) [.ref 0 4] (PS4 s ls B k D) = some [some (wrP (B.length + 1) D)] := ldW (AwI _ _)
theorem Bd_dgs {s : List UInt8} {ls : List Tk} {m : Nat} (H : Toks s ls m) {D : List AD} (hD : ∀ d ∈ D, d.i ≤ m) : Bd (dgs ls D) := by
  intro x hx;obtain ⟨d, hd, rfl⟩ := List.mem_map.1 hx;obtain ⟨t, ht⟩ := H.at (hD d hd);have h1 := H.ord _ _ ht;have h2 := H.small;show tA ls d.i < _;rw [tA_eq ht]; omega
theorem Bd_lex {s : List UInt8} (hs : s.length ≤ 4096) : Bd (lexs s) := by
  have hw := (Aj2 s (s.length + 1) 0 (by omega) (by omega)).wf
  have : ∀ l : List Tk, (∀ t ∈ l, t.a ≤ 4096) → Bd (lexP s l) := by
    intro l
    induction l with
    | nil => intro _ x hx; cases hx
    | cons t l ih =>
      intro h x hx;rw [lexP] at hx
      split at hx
      · exact ih (fun u hu => h u (by simp [hu])) x hx
      · rcases List.mem_cons.1 hx with rfl | hx
        · have := h t (by simp); show t.a < _; omega
        · exact ih (fun u hu => h u (by simp [hu])) x hx
  exact this _ fun t ht => by have := (hw t ht).1.ord; omega
theorem Dok.small {k : Nat} {D : List AD} (h : Dok k D) : D.length ≤ k + 1 := by
  have : ∀ (D : List AD) (k j : Nat), D.Pairwise (fun a b => a.i < b.i) → (∀ d ∈ D, j ≤ d.i ∧ d.i ≤ k) → D.length + j ≤ k + 1 ∨ D = [] := by
    intro D
    induction D with
    | nil => intro _ _ _ _; exact .inr rfl
    | cons d D ih =>
      intro k j hp hd;have hp' := List.pairwise_cons.1 hp;have h0 := hd d (by simp)
      refine .inl ?_
      rcases ih k (d.i + 1) hp'.2 (fun e he => ⟨hp'.1 e he, (hd e (by simp [he])).2⟩) with h | h
      · simp; omega
      · subst h; simp; omega
  rcases this D k 0 h.1 (fun d hd => ⟨Nat.zero_le _, h.2 d hd⟩) with h | h
  · omega
  · subst h; simp
theorem e22 {s : List UInt8} (hs : s.length ≤ 4096) {g : FuncId} (pg : pur g = false) {U : Tr} {Bx : Sto} {k : Nat} {D : List AD}
    (hg : E g [.ref 0 0] (PS4 s (toksT s) (lxS (lexs s)) 0 []) U.pv (PS4 s (toksT s) (lxS (lexs s) ++ Bx) k D)) (hk : k ≤ (toksT s).length - 1) (hD : Dok k D) :
    ∃ R σ, Sd (lexs s ++ dgs (toksT s) (finD (wAt s (toksT s)) k D)) R ∧ E 22 [.str s, .func g [] []] [] (.tuple [U.pv, accD 5 (R.map Dg.pv), I 0]) σ := by
  have H := Av6 s (by omega)
  have hsc : (scanT s).length ≤ s.length + 1 := AzT (s.length + 1) s 0;have hm : (toksT s).length ≤ s.length + 1 := Nat.le_trans (List.length_filter_le _ _) hsc;have hlx : (lexs s).length < 100000 := Nat.lt_of_le_of_lt (AwD s _) (by omega)
  obtain ⟨t, ht⟩ := H.at hk;have h47 := p47' (B := lxS (lexs s) ++ Bx) (D := D) H hk ht;have hw := Ak7 (s := s) ht;have hDl := hD.small
  have hb : ∀ D' : List AD, (∀ d ∈ D', d.i ≤ k) → Bd (lexs s ++ dgs (toksT s) D') := fun D' h x hx => by
    rcases List.mem_append.1 hx with hx | hx
    · exact Bd_lex hs x hx
    · exact Bd_dgs H (fun d hd => Nat.le_trans (h d hd) hk) x hx
  by_cases h5 : t.k = 5
  · have e : finD (wAt s (toksT s)) k D = D := by unfold finD; rw [hw, if_pos h5]
    rw [e];obtain ⟨R, σ, hS, hE⟩ := e48 (s := s) (ls := toksT s) (k := k) (l := en (toksT s) k) (bf := bfP (toksT s) D) (Bx := Bx) (D := D) hlx (by omega) (hb D hD.2)
    exact ⟨R, σ, hS, r22_3 (Az3 _) (e46 s hs) rfl pg hg h47 (by omega) hE⟩
  · have e : finD (wAt s (toksT s)) k D = D ++ [⟨4, k, wEnd⟩] := by unfold finD; rw [hw, if_neg h5]
    rw [e]
    obtain ⟨R, σ, hS, hE⟩ := e48 (s := s) (ls := toksT s) (k := k) (l := en (toksT s) k) (bf := bfP (toksT s) D) (Bx := Bx) (D := D ++ [⟨4, k, wEnd⟩]) hlx (by simp; omega) (hb _ fun d hd => by
      rcases List.mem_append.1 hd with hd | hd
      · exact hD.2 d hd
      · rw [List.mem_singleton] at hd; subst hd; exact Nat.le_refl _)
    have hp := apW (X := pc s (toksT s) k (en (toksT s) k) (wrP ((lxS (lexs s) ++ Bx).length + 1) D) (bfP (toksT s) D)) (ls := toksT s) (B := lxS (lexs s) ++ Bx) D ⟨4, k, wEnd⟩ (by omega)
    have ed : dgp (toksT s) ⟨4, k, wEnd⟩ = .agg [I 4, N t.a, N t.e, .str wEnd, .nils] := by
      show (Dg.mk 4 (tA _ k) (tE _ k) wEnd).pv = _;rw [tA_eq ht, tE_eq ht]; rfl
    rw [ed] at hp;have hst := stW (s := s) (ls := toksT s) (k := k) (l := en (toksT s) k) (wr := wrP ((lxS (lexs s) ++ Bx).length + 1) D) (b := bfP (toksT s) D) (T := (lxS (lexs s) ++ Bx) ++ arS (toksT s) (D ++ [⟨4, k, wEnd⟩])) (wr_self _ _) (v := wrP ((lxS (lexs s) ++ Bx).length + 1) (D ++ [⟨4, k, wEnd⟩])) (by rcases AwI ((lxS (lexs s) ++ Bx).length + 1) (D ++ [⟨4, k, wEnd⟩]) with h | ⟨_, _, _, _, _, h⟩ <;> rw [h] <;> exact ⟨rfl, rfl, rfl, rfl⟩)
    exact ⟨R, σ, hS, r22_2 (Az3 _) (e46 s hs) rfl pg hg h47 (by omega) (AwI _ _) ldWr (AwI _ _) hp hst hE⟩
def prT (s : List UInt8) (ls : List Tk) (acc : List AT) : Tr := .mk 2 [] 0 (s.length : Nat) acc.isEmpty (trPs ls acc)
theorem e8 {s : List UInt8} (hs : s.length ≤ 4096) {n : Nat} (hn : n ≤ big4) {v : Rs} {k : Nat} {D : List AD} (h : runN (wAt s (toksT s)) n (.pg []) 0 [] = some (v, k, D)) :
    ∃ R, Sd (lexs s ++ dgs (toksT s) (finD (wAt s (toksT s)) k D)) R ∧ E 8 [.str s] [] (.tuple [(prT s (toksT s) v.2).pv, accD 5 (R.map Dg.pv), I 0]) [] := by
  have H := Av6 s (by omega)
  obtain ⟨ok, ev⟩ := okP4 (B := lxS (lexs s) ++ [[.ref 0 0]]) H n hn;have hD0 : Dok 0 [] := ⟨List.Pairwise.nil, fun d h => by cases h⟩
  have hL := ev _ _ _ _ _ _ h (Nat.zero_le _) hD0 (by simp; omega) (lxS (lexs s)) (fun k D => by
    show semR (.ld 1 false) [.ref ((lxS (lexs s)).length + 1) 0] (pc s (toksT s) k (en (toksT s) k) _ _ :: ((lxS (lexs s) ++ [[.ref 0 0]]) ++ arS (toksT s) D)) = _;have : (pc s (toksT s) k (en (toksT s) k) (wrP ((lxS (lexs s) ++ [[PV.ref 0 0]]).length + 1) D) (bfP (toksT s) D) :: ((lxS (lexs s) ++ [[PV.ref 0 0]]) ++ arS (toksT s) D))[(lxS (lexs s)).length + 1]? = some [.ref 0 0] := by simp
    simp only [semR, this]
    rfl)
  obtain ⟨o1, o2, o3⟩ := ok _ _ _ _ h (Nat.zero_le _) hD0
  have e0 : PS4 s (toksT s) (lxS (lexs s)) 0 [] = pc s (toksT s) 0 0 .nils (-1) :: lxS (lexs s) := by
    show pc s (toksT s) 0 0 .nils (-1) :: (lxS (lexs s) ++ []) = _;rw [List.append_nil]
  have e1 : PS4 s (toksT s) (lxS (lexs s) ++ [[.ref 0 0]]) 0 [] = pc s (toksT s) 0 0 .nils (-1) :: (lxS (lexs s) ++ [[.ref 0 0]]) := by
    show pc s (toksT s) 0 0 .nils (-1) :: ((lxS (lexs s) ++ [[.ref 0 0]]) ++ []) = _;rw [List.append_nil]
  rw [e1] at hL
  have h23 : E 23 [.ref 0 0] (PS4 s (toksT s) (lxS (lexs s)) 0 []) (prT s (toksT s) v.2).pv (PS4 s (toksT s) (lxS (lexs s) ++ [[.ref 0 0]]) k D) := by
    rw [e0]
    have hx : semR (.ld 1 false) [.ref ((lxS (lexs s)).length + 1) 0] (pc s (toksT s) 0 0 .nils (-1) :: (lxS (lexs s) ++ [[.ref 0 0]])) = some [some (.ref 0 0)] := by
      have : (pc s (toksT s) 0 0 .nils (-1) :: (lxS (lexs s) ++ [[PV.ref 0 0]]))[(lxS (lexs s)).length + 1]? = some [.ref 0 0] := by simp
      simp only [semR, this];rfl
    have := r23 hx hL
    have e2 : (prT s (toksT s) v.2).pv = .agg [I 2, .str [], I 0, N s.length, accD 5 (Tr.pvs (trPs (toksT s) v.2))] := by
      unfold prT;cases v.2 <;> rfl
    rw [e2]; exact this
  obtain ⟨R, σ, hS, hE⟩ := e22 hs (g := 23) (by rfl) h23 o2 o3
  exact ⟨R, hS, r8 hE⟩
end Go.Abs.Z
